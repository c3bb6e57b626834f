/- Plain laws over the specs, part 2. -/
import Derived.Test.YthefajbigloihaaGreatDoorQnM1
set_option linter.unusedVariables false
set_option linter.unusedSimpArgs false
set_option linter.unusedSectionVars false
open Bool renaming not_true→ZLK, and_eq_true→ZII, not_false→ZLJ, true_and→ZLL, false_and→ZLI
open Int renaming toNat_natCast→ZLM
open List renaming getElem?_eq_getElem→ZLV, length_cons→ZL0, length_append→ZLZ, all_eq_true→ZLO, length_nil→ZL2, length_set→ZL3, take_append_drop→ZL6, getElem?_append_right→ZLT, length_take→ZL4, getElem?_drop→ZLU, takeWhile_append_dropWhile→ZL5, length_map→ZL1, getElem?_eq_some_iff→ZLW, getElem_mem→ZLY, all_cons→ZLN, cons.injEq→ZLP, getElem?_take→ZLX, drop_eq_getElem_cons→ZLR, take_succ_eq_append_getElem→ZL8, take_length→ZL7, dropWhile_cons→ZLQ, getElem?_append_left→ZLS
open Nat renaming le_refl→ZL9, zero_le→ZMa
open Option renaming bind_some→ZMb, some.inj→ZMc
namespace Go.Proofs
open Go Eng
def LoE (a:Nat) (d:List En1) (p:En1) (i:Nat):Prop:=∀k x,a≤k→k < i→d[k]? =some x→¬ZyS p x < 0
def HiE (b:Nat) (d:List En1) (p:En1) (j:Nat):Prop:=∀k x,j < k→k < b→d[k]? =some x→ZyS p x < 0
theorem ZIw {d:List En1} [Gds d] {p:En1} {a b:Nat} (h0:d[a]? =some p) (hn:d.length≤1000) {i j:Nat} (hi:a+1≤i) (hij:i≤j+1) (hjb:j < b) (hj:b≤d.length) (hA:LoE a d p i):
  wp (ZnS big (a:Int) (i:Int) (j:Int) d) (fun x=>∃i':Nat,x=((a:Int),(i':Int),(j:Int),d)∧i≤i'∧i'≤j+1∧LoE a d p i'∧∀h:i'≤j,ZyS p (d[i']'(by omega)) < 0):=by
 haveI:Gdm p:=Gds.at h0;refine Zpb ZvE (fun i:Nat=>((a:Int),(i:Int),(j:Int),d)) (fun i'=>i≤i'∧i'≤j+1∧LoE a d p i') (fun i'=>j+1 - i')
  (Q:=fun x=>∃i':Nat,x=((a:Int),(i':Int),(j:Int),d)∧i≤i'∧i'≤j+1∧LoE a d p i'∧∀h:i'≤j,ZyS p (d[i']'(by omega)) < 0) i ⟨ZL9 _,hij,hA⟩ (by omega) ?_
 rintro rec i' ⟨h1,h2,h3⟩ ih;unfold ZrC ZpF ZoJ;dsimp only
 by_cases hc:i'≤j
 ·have hi':i' < d.length:=by omega
  rw[decide_eq_true (show (i':Int)≤(j:Int) by omega),cond_true,ZnE,ZLM,h0,ZnC,ZnB,ZnE,ZLM,ZLV hi',ZnC,ZnB,ZxL,ZnC,ZnB];refine⟨Zpg ⟨by omega,by omega⟩,Zot hi', ?_⟩
  by_cases ho:ZyS p d[i'] < 0
  ·rw[decide_eq_true ho,ZLK,cond_false,ZnB];exact⟨i',rfl,h1,h2,h3,fun _=>ho⟩
  ·rw[decide_eq_false ho,ZLJ,cond_true,ZnE];refine⟨ZnH (by omega),ih (i'+1) ⟨by omega,by omega,fun k x hk1 hk2 hx=> ?_⟩ (by omega)⟩
   by_cases e:k=i'
   ·subst e;rw[ZLV hi']at hx;rw[←ZMc hx];exact ho
   ·exact h3 k x hk1 (by omega) hx
 ·rw[decide_eq_false (show ¬(i':Int)≤(j:Int) by omega),cond_false,cond_false,ZnB];exact⟨i',rfl,h1,h2,h3,fun h=>absurd h hc⟩
theorem ZF5 {d:List En1} [Gds d] {p:En1} {a b:Nat} (h0:d[a]? =some p) (hn:d.length≤1000) {i j:Nat} (hi:a+1≤i) (hij:i≤j+1) (hjb:j < b) (hj:b≤d.length) (hB:HiE b d p j):
  wp (ZnR big (a:Int) (i:Int) (j:Int) d) (fun x=>∃j':Nat,x=((a:Int),(i:Int),(j':Int),d)∧j'≤j∧i≤j'+1∧HiE b d p j'∧∀h:i≤j',∀hl:j' < d.length,¬ZyS p d[j'] < 0):=by
 haveI:Gdm p:=Gds.at h0;refine Zpb ZvD (fun j:Nat=>((a:Int),(i:Int),(j:Int),d)) (fun j'=>j'≤j∧i≤j'+1∧HiE b d p j') (fun j'=>j')
  (Q:=fun x=>∃j':Nat,x=((a:Int),(i:Int),(j':Int),d)∧j'≤j∧i≤j'+1∧HiE b d p j'∧∀h:i≤j',∀hl:j' < d.length,¬ZyS p d[j'] < 0) j ⟨ZL9 _,hij,hB⟩ (by omega) ?_
 rintro rec j' ⟨h1,h2,h3⟩ ih;unfold ZrA ZpE ZoI;dsimp only
 by_cases hc:i≤j'
 ·have hj':j' < d.length:=by omega
  rw[decide_eq_true (show (i:Int)≤(j':Int) by omega),cond_true,ZnE,ZLM,h0,ZnC,ZnB,ZnE,ZLM,ZLV hj',ZnC,ZnB,ZxL,ZnC,ZnB];refine⟨Zpg ⟨by omega,by omega⟩,Zot hj', ?_⟩
  by_cases ho:ZyS p d[j'] < 0
  ·rw[decide_eq_true ho,cond_true,ZnE,show (j':Int) - 1=((j' - 1:Nat):Int) by omega];refine⟨ZnH (by omega),ih (j' - 1) ⟨by omega,by omega,fun k x hk hkb hx=> ?_⟩ (by omega)⟩
   by_cases e:k=j'
   ·subst e;rw[ZLV hj']at hx;rw[←ZMc hx];exact ho
   ·exact h3 k x (by omega) hkb hx
  ·rw[decide_eq_false ho,cond_false,ZnB];exact⟨j',rfl,h1,h2,h3,fun _ _=>ho⟩
 ·rw[decide_eq_false (show ¬(i:Int)≤(j':Int) by omega),cond_false,cond_false,ZnB];exact⟨j',rfl,h1,h2,h3,fun h=>absurd h hc⟩
def PtE (a b:Nat) (D:List En1) (x:Int×List En1):Prop:=∃m:Nat,x.1=(m:Int)∧a < m∧m≤b∧Rg a b D x.2∧∃p,x.2[a]? =some p∧LoE a x.2 p m∧(∀k y,m≤k→k < b→x.2[k]? =some y→ZyS p y < 0)
theorem ZEv {D:List En1} [Gds D] (hn:D.length≤1000) {a b:Nat} {d0:List En1} [Gds d0] {p:En1} {i0 j0:Nat} (h0:d0[a]? =some p) (hi:a+1≤i0) (hij:i0≤j0+1) (hj:j0 < b) (hb:b≤D.length) (hA:LoE a d0 p i0) (hB:HiE b d0 p j0) (hp:Rg a b D d0):
  wp (ZnO big (a:Int) (i0:Int) (j0:Int) d0) (fun x=>PtE a b D x∧x.2[a]? =some p):=by
 refine Zpb ZvF (fun s:Nat×Nat×List En1=>((a:Int),(s.1:Int),(s.2.1:Int),s.2.2)) (fun s=>s.2.2[a]? =some p∧a+1≤s.1∧s.1≤s.2.1+1∧s.2.1 < b∧LoE a s.2.2 p s.1∧HiE b s.2.2 p s.2.1∧Rg a b D s.2.2) (fun s=>s.2.1)
  (Q:=fun x=>PtE a b D x∧x.2[a]? =some p) (i0,j0,d0) ⟨h0,hi,hij,hj,hA,hB,hp⟩ (by dsimp only;omega) ?_
 rintro rec ⟨i,j,d⟩ ⟨h0,hi,hij,hj,hA,hB,hp⟩ ih;dsimp only at h0 hi hij hj hA hB hp ih;have hl:=hp.len;haveI:=hp.gds;have hdn:d.length≤1000:=by omega
 have hbd:b≤d.length:=by omega
 unfold ZrE ZpG ZpV ZpU;dsimp only;rw[ZnC];refine ZnI (ZIw h0 hdn hi hij hj hbd hA) ?_;rintro _ ⟨i',rfl,h1,h2,h3,h4⟩;dsimp only;rw[ZnC];refine ZnI (ZF5 h0 hdn (by omega) h2 hj hbd hB) ?_;rintro _ ⟨j',rfl,h5,h6,h7,h8⟩;dsimp only
 by_cases hc:i'≤j'
 ·have hi':i' < d.length:=by omega
  have hj':j' < d.length:=by omega
  have g1:=h4 (by omega);have g2:=h8 hc hj';have hlt:i' < j':=by
   rcases Nat.lt_or_eq_of_le hc with h |h
   ·exact h
   ·subst h;exact absurd g1 g2
  rw[decide_eq_false (show ¬(i':Int) > (j':Int) by omega),cond_false,ZnE,ZLM,ZLM,ZLV hj',ZnC,ZnB,ZnE,ZLV hi',ZnC,ZnB,ZnE,ZnE,ZnE,ZnE];refine⟨Zot hj',Zot hi',Zot hi',Zpg ⟨by omega,by rw[ZL3];omega⟩,ZnH (by omega),ZnH (by omega), ?_⟩;have s0:(sw d i' j' hi' hj')[a]? =some p:=by rw[Zzb hi' hj' a (by omega),if_neg (by omega),if_neg (by omega),h0]
  have sA:LoE a (sw d i' j' hi' hj') p (i'+1):=by
   intro k x hk1 hk2 hx;rw[Zzb hi' hj' k (by omega),if_neg (by omega)]at hx
   by_cases e:k=i'
   ·rw[if_pos e]at hx;rw[←ZMc hx];exact g2
   ·rw[if_neg e]at hx;exact h3 k x hk1 (by omega) hx
  have sB:HiE b (sw d i' j' hi' hj') p (j' - 1):=by
   intro k x hk hkb hx;rw[Zzb hi' hj' k (by omega)]at hx
   by_cases e:k=j'
   ·rw[if_pos e]at hx;rw[←ZMc hx];exact g1
   ·rw[if_neg e,if_neg (by omega)]at hx;exact h7 k x (by omega) hkb hx
  have:=ih (i'+1,j' - 1,sw d i' j' hi' hj') ⟨s0,by dsimp only;omega,by dsimp only;omega,by dsimp only;omega,sA,sB,hp.trans (ZBD hi' hj' (by omega) (by omega) (by omega) (by omega))⟩ (by dsimp only;omega);rw[show (((i'+1:Nat)):Int)=(i':Int)+1 by omega,show ((j' - 1:Nat):Int)=(j':Int) - 1 by omega]at this;exact this
 ·rw[decide_eq_true (show (i':Int) > (j':Int) by omega),cond_true,ZnB];exact⟨⟨i',rfl,by omega,by omega,hp,p,h0,h3,fun k y hk hkb hy=>h7 k y (by omega) hkb hy⟩,h0⟩
theorem ZFQ {D:List En1} [Gds D] (hn:D.length≤1000) {a b pv:Nat} (hb:b≤D.length) (h1:a≤pv) (h2:pv < b):
  wp (ZoL D (a:Int) (b:Int) (pv:Int)) (fun x=>PtE a b D x∧x.2[a]? =D[pv]?):=by
 have hpv:pv < D.length:=by omega
 have h00:a < D.length:=by omega
 have Zd:wp (Zo0 D (a:Int) (b:Int) (pv:Int)) (fun x=>PtE a b D x∧x.2[a]? =D[pv]?):=by
  unfold Zo0;simp only[ZnE,ZLM];rw[ZLV hpv,ZLV h00];simp only[ZnC,ZnB,ZnE];have hd0:(D.set a D[pv]).set pv D[a]=sw D a pv h00 hpv:=rfl;rw[hd0];have hlen:=ZBE (d:=D) h00 hpv;have hg0:(sw D a pv h00 hpv)[a]? =some D[pv]:=by
   rw[Zzb h00 hpv a h00]
   by_cases e:a=pv
   ·subst e;rw[if_pos rfl]
   ·rw[if_neg e,if_pos rfl]
  have hperm:=ZBD (d:=D) h00 hpv (ZL9 a) (show a < b by omega) h1 h2;generalize sw D a pv h00 hpv=d at hlen hg0 hperm;haveI:Gds d:=hperm.gds;generalize D[pv]=p at hg0;refine⟨Zpg ⟨by omega,by omega⟩,Zpg ⟨by omega,by omega⟩,Zpg ⟨by omega,by omega⟩,Zpg ⟨by omega,by rw[ZL3];omega⟩,ZnH (by omega),ZnH (by omega), ?_⟩;have hA:LoE a d p (a+1):=fun k x h1 h2 hx=>by
   obtain rfl:k=a:=by omega
   rw[hg0]at hx;rw[←ZMc hx];have:=ZAQ p p;omega
  have hB:HiE b d p (b - 1):=fun k x hk hkb hx=>by omega
  have:=ZEv (D:=D) hn (d0:=d) (i0:=a+1) (j0:=b - 1) hg0 (by omega) (by omega) (by omega) hb hA hB hperm;rw[show ((b - 1:Nat):Int)=(b:Int) - 1 by omega,show ((a+1:Nat):Int)=(a:Int)+1 by omega]at this;refine ZnI this ?_;rintro⟨m,d'⟩ ⟨r1,r2⟩;unfold ZpT;dsimp only;rw[ZnB];exact⟨r1,r2⟩
 unfold ZoL;rw[ZnC];refine ZnI Zd fun x hx=> ?_
 have hx2:=hx;obtain⟨⟨m,e,h3,h4,h5,h6⟩,h7⟩:=hx;rw[ZnE,ZnB];exact⟨by rw[h5.len];simp,hx2⟩
end Go.Proofs
namespace Go.Proofs
open Go Eng
def Le (a b:En1):Prop:=ZyS a b≤0
theorem Le.trans {a b c:En1} (h1:Le a b) (h2:Le b c):Le a c:=by
 unfold Le at*
 by_cases e:ZyS a b=0
 ·rw[ZGq e];exact h2
 ·by_cases e2:ZyS b c=0
  ·have h3:=ZGq (a:=b) (b:=c) (c:=a) e2;have n1:=ZAQ a c;have n2:=ZAQ a b;omega
  ·have:=ZEw (show ZyS a b < 0 by omega) (show ZyS b c < 0 by omega);omega
theorem Zxq {a b:En1} (h:¬ZyS a b < 0):Le b a:=by have:=ZAQ a b;unfold Le;omega
theorem Le.of_lt {a b:En1} (h:ZyS a b < 0):Le a b:=Int.le_of_lt h
theorem Le.rfl' (a:En1):Le a a:=by have:=ZAQ a a;unfold Le;omega
def Hx (f lo hi:Nat) (d:List En1) (r:Option Nat):Prop:=∀k c x y,lo≤k→some k≠r→(c=2*k+1∨c=2*k+2)→c < hi→d[f+k]? =some x→d[f+c]? =some y→Le y x
def Gp (f lo hi:Nat) (d:List En1) (r:Nat):Prop:=∀q c x y,lo≤q→(r=2*q+1∨r=2*q+2)→(c=2*r+1∨c=2*r+2)→c < hi→d[f+q]? =some x→d[f+c]? =some y→Le y x
theorem ZEP {f lo hi r ch:Nat} {d:List En1} (hr:f+r < d.length) (hc:f+ch < d.length) (hlr:lo≤r) (hch:ch=2*r+1∨ch=2*r+2) (hchi:ch < hi) (h1:Hx f lo hi d (some r)) (h2:Gp f lo hi d r) (hlt:ZyS d[f+r] d[f+ch] < 0) (hbig:∀c y,(c=2*r+1∨c=2*r+2)→c < hi→d[f+c]? =some y→Le y d[f+ch]):
  Hx f lo hi (sw d (f+r) (f+ch) hr hc) (some ch)∧Gp f lo hi (sw d (f+r) (f+ch) hr hc) ch:=by
 have bound:∀k z,(sw d (f+r) (f+ch) hr hc)[f+k]? =some z→f+k < d.length:=fun k z hz=>by
  have:=(ZLW.1 hz).1
  rwa [ZBE]at this
 refine⟨fun k c x y hk hkr hcc hcl hx hy=> ?_,fun q c x y hq hqr hcc hcl hx hy=> ?_⟩
 ·have hkc:k≠ch:=fun e=>hkr (by rw[e])
  have bx:=bound k x hx;have bY:=bound c y hy;rw[Zzb hr hc _ bx,if_neg (by omega)]at hx;rw[Zzb hr hc _ bY]at hy
  by_cases e:k=r
  ·subst e;rw[if_pos rfl]at hx;obtain rfl:=ZMc hx
   by_cases e2:c=ch
   ·subst e2;rw[if_pos rfl]at hy;rw[←ZMc hy];exact .of_lt hlt
   ·rw[if_neg (by omega),if_neg (by omega)]at hy;exact hbig c y hcc hcl hy
  ·rw[if_neg (by omega)]at hx;rw[if_neg (show ¬f+c=f+ch by omega)]at hy
   by_cases e2:c=r
   ·subst e2;rw[if_pos rfl]at hy;rw[←ZMc hy];exact h2 k ch x _ hk hcc hch hchi hx (ZLV hc)
   ·rw[if_neg (by omega)]at hy;exact h1 k c x y hk (fun h=>e (ZMc h)) hcc hcl hx hy
 ·obtain rfl:q=r:=by omega
  have bx:=bound q x hx;have bY:=bound c y hy;rw[Zzb hr hc _ bx,if_neg (by omega),if_pos rfl]at hx;rw[Zzb hr hc _ bY,if_neg (by omega),if_neg (by omega)]at hy;obtain rfl:=ZMc hx;exact h1 ch c _ y (by omega) (fun h=>by have:=ZMc h;omega) hcc hcl (ZLV hc) hy
theorem ZEQ {D:List En1} [Gds D] (hn:D.length≤1000) {f lo hi:Nat} (hhi:f+hi≤D.length) (hlo1:lo≤1000) (hH:Hx f lo hi D (some lo)):
  wp (Zog D (lo:Int) (hi:Int) (f:Int)) (fun d=>Rg f (f+hi) D d∧Hx f lo hi d none):=by
 have Zd:wp (Zp0 D (lo:Int) (hi:Int) (f:Int)) (fun d=>Rg f (f+hi) D d∧Hx f lo hi d none):=by
  unfold Zp0;rw[ZnC];refine ZnI (Q:=fun x=>∃d,(x= .ret d∨x= .brk d)∧Rg f (f+hi) D d∧Hx f lo hi d none) ?_ ?_
  ·by_cases hlo:lo < hi
   ·refine Zpb Zw6 (fun s:Nat×List En1=>((hi:Int),(f:Int),(s.1:Int),s.2)) (fun s=>lo≤s.1∧s.1 < hi∧Rg f (f+hi) D s.2∧Hx f lo hi s.2 (some s.1)∧Gp f lo hi s.2 s.1) (fun s=>hi - s.1)
     (Q:=fun x=>∃d,(x= .ret d∨x= .brk d)∧Rg f (f+hi) D d∧Hx f lo hi d none) (lo,D) ⟨ZL9 _,hlo,.refl _ _ _,hH,fun q c x y hq hqr=>by omega⟩ (by dsimp only;omega) ?_
    rintro rec ⟨r,d⟩ ⟨h1,h2,h3,h4,h5⟩ ih;dsimp only at h1 h2 h3 h4 h5 ih;have hl:=h3.len;haveI:=h3.gds;unfold Zte Zox;dsimp only;rw[ZnE,ZnE,show 2*(r:Int)+1=((2*r+1:Nat):Int) by omega];refine⟨ZnH (by omega),ZnH (by omega), ?_⟩;have step:∀ch:Nat,(ch=2*r+1∨ch=2*r+2)→ch < hi→(∀hc:f+ch < d.length,∀c y,(c=2*r+1∨c=2*r+2)→c < hi→d[f+c]? =some y→Le y d[f+ch])→
      wp (ZoA (fun a1 a2 a3 a4=>rec (a1,a2,a3,a4)) (hi:Int) (f:Int) (r:Int) (ch:Int) d) (fun x=>∃d,(x= .ret d∨x= .brk d)∧Rg f (f+hi) D d∧Hx f lo hi d none):=by
     intro ch hch hchi hbig;have hr:f+r < d.length:=by omega
     have hc:f+ch < d.length:=by omega
     unfold ZoA;rw[show (f:Int)+(r:Int)=((f+r:Nat):Int) by omega,show (f:Int)+(ch:Int)=((f+ch:Nat):Int) by omega,ZnE,ZnE,ZLM,ZLM,ZLV hr,ZnC,ZnB,ZnE,ZnE,ZLV hc,ZnC,ZnB,ZxL,ZnC,ZnB];refine⟨ZnH (by omega),Zot hr,ZnH (by omega),Zot hc, ?_⟩
     by_cases ho:ZyS d[f+r] d[f+ch] < 0
     ·rw[decide_eq_true ho,ZLK,cond_false];simp only[ZnE,ZnC,ZnB];refine⟨ZnH (by omega),ZnH (by omega),ZnH (by omega),Zot hc,ZnH (by omega),Zot hr,Zot hr,Zpg ⟨by omega,by rw[ZL3];omega⟩, ?_⟩;obtain⟨s1,s2⟩:=ZEP hr hc h1 hch hchi h4 h5 ho (hbig hc);exact ih (ch,sw d (f+r) (f+ch) hr hc) ⟨by dsimp only;omega,hchi,h3.trans (ZBD hr hc (by omega) (by omega) (by omega) (by omega)),s1,s2⟩ (by dsimp only;omega)
     ·rw[decide_eq_false ho,ZLJ,cond_true,ZnB];refine⟨d,.inl rfl,h3,fun k c x y hk _ hcc hcl hx hy=> ?_⟩
      by_cases e:k=r
      ·subst e;rw[ZLV hr]at hx;rw[←ZMc hx];exact(hbig hc c y hcc hcl hy).trans (Zxq ho)
      ·exact h4 k c x y hk (fun h=>e (ZMc h)) hcc hcl hx hy
    by_cases hge:hi≤2*r+1
    ·rw[decide_eq_true (show ((2*r+1:Nat):Int)≥(hi:Int) by omega),cond_true,ZnB];refine⟨d,.inr rfl,h3,fun k c x y hk _ hcc hcl hx hy=> ?_⟩
     by_cases e:k=r
     ·omega
     ·exact h4 k c x y hk (fun h=>e (ZMc h)) hcc hcl hx hy
    ·rw[decide_eq_false (show ¬((2*r+1:Nat):Int)≥(hi:Int) by omega),cond_false,ZnE,show ((2*r+1:Nat):Int)+1=((2*r+2:Nat):Int) by omega];refine⟨ZnH (by omega), ?_⟩;have hc1:f+(2*r+1) < d.length:=by omega
     unfold Zpr
     by_cases h22:2*r+2 < hi
     ·have hc2:f+(2*r+2) < d.length:=by omega
      rw[decide_eq_true (show ((2*r+2:Nat):Int) < (hi:Int) by omega),cond_true,show (f:Int)+((2*r+1:Nat):Int)=((f+(2*r+1):Nat):Int) by omega,show ((f+(2*r+1):Nat):Int)+1=((f+(2*r+2):Nat):Int) by omega,show ((2*r+1:Nat):Int)+1=((2*r+2:Nat):Int) by omega];rw[ZnE,ZnE,ZLM,ZLM,ZLV hc1,ZnC,ZnB,ZnE,ZnE,ZnE,ZLV hc2,ZnC,ZnB,ZxL,ZnC,ZnB];refine⟨ZnH (by omega),Zot hc1,ZnH (by omega),ZnH (by omega),Zot hc2, ?_⟩
      by_cases ho:ZyS d[f+(2*r+1)] d[f+(2*r+2)] < 0
      ·rw[decide_eq_true ho,cond_true,ZnE];refine⟨ZnH (by omega),step (2*r+2) (.inr rfl) h22 fun hc c y hcc hcl hy=> ?_⟩;rcases hcc with rfl |rfl
       ·rw[ZLV hc1]at hy;rw[←ZMc hy];exact .of_lt ho
       ·rw[ZLV hc2]at hy;rw[←ZMc hy];exact .rfl' _
      ·rw[decide_eq_false ho,cond_false];refine step (2*r+1) (.inl rfl) (by omega) fun hc c y hcc hcl hy=> ?_
       rcases hcc with rfl |rfl
       ·rw[ZLV hc1]at hy;rw[←ZMc hy];exact .rfl' _
       ·rw[ZLV hc2]at hy;rw[←ZMc hy];exact Zxq ho
     ·rw[decide_eq_false (show ¬((2*r+2:Nat):Int) < (hi:Int) by omega),cond_false,cond_false];refine step (2*r+1) (.inl rfl) (by omega) fun hc c y hcc hcl hy=> ?_
      obtain rfl:c=2*r+1:=by omega
      rw[ZLV hc1]at hy;rw[←ZMc hy];exact .rfl' _
   ·obtain⟨n,hbig⟩:=ZDY 1 (by omega);rw[hbig];show wp (Zox _ (hi:Int) (f:Int) (lo:Int) D) _;unfold Zox;rw[ZnE,ZnE,decide_eq_true (show 2*(lo:Int)+1≥(hi:Int) by omega),cond_true,ZnB];exact⟨ZnH (by omega),ZnH (by omega),D,.inr rfl,.refl _ _ _,fun k c x y hk _ hcc hcl _ _=>by omega⟩
  ·rintro x ⟨d,rfl |rfl,h⟩
   ·dsimp only;rw[ZnB];exact h
   ·unfold ZqX;dsimp only;rw[ZnB];exact h
 unfold Zog;rw[ZnC];refine ZnI Zd fun d hd=> ?_
 rw[ZnE,ZnB];exact⟨by rw[hd.1.len];simp,hd⟩
end Go.Proofs
namespace Go.Proofs
open Go Eng
theorem Rg.mid {a b:Nat} {D d:List En1} (h:Rg a b D d) (hab:a≤b):((d.drop a).take (b - a)).Perm ((D.drop a).take (b - a)):=by
 have h1:d.take a=D.take a:=by
  refine List.ext_getElem? fun k=> ?_
  rw[ZLX,ZLX]
  by_cases hk:k < a
  ·rw[if_pos hk,if_pos hk,h.2 k (.inl hk)]
  ·rw[if_neg hk,if_neg hk]
 have h2:(d.drop a).drop (b - a)=(D.drop a).drop (b - a):=by
  refine List.ext_getElem? fun k=> ?_
  rw[ZLU,ZLU,ZLU,ZLU,h.2 _ (.inr (by omega))]
 have hp:=h.1;rw[←ZL6 a d,←ZL6 a D,h1,List.perm_append_left_iff]at hp;rw[←ZL6 (b - a) (d.drop a),←ZL6 (b - a) (D.drop a),h2,List.perm_append_right_iff]at hp;exact hp
theorem ZE2 {a b:Nat} {d:List En1} {x:En1}:x∈(d.drop a).take (b - a)↔∃k,a≤k∧k < b∧d[k]? =some x:=by
 rw[List.mem_iff_getElem?];constructor
 ·rintro⟨k,hk⟩;rw[ZLX]at hk;split at hk;rotate_left;simp at hk;rw[ZLU]at hk;exact⟨a+k,by omega,by omega,hk⟩
 ·rintro⟨k,h1,h2,h3⟩;refine⟨k - a, ?_⟩;rw[ZLX,if_pos (by omega),ZLU,show a+(k - a)=k by omega];exact h3
theorem Rg.mem {a b k:Nat} {D d:List En1} {x:En1} (h:Rg a b D d) (h1:a≤k) (h2:k < b) (h3:d[k]? =some x):∃k',a≤k'∧k' < b∧D[k']? =some x:=
 ZE2.1 ((h.mid (by omega)).mem_iff.1 (ZE2.2 ⟨k,h1,h2,h3⟩))
def Srt (a b:Nat) (d:List En1):Prop:=∀i j x y,a≤i→i < j→j < b→d[i]? =some x→d[j]? =some y→Le x y
theorem ZF2 {f n:Nat} {d:List En1} (h:Hx f 0 n d none):∀(k:Nat) (x y:En1),k < n→d[f]? =some x→d[f+k]? =some y→Le y x:=by
 intro k
 induction k using Nat.strongRecOn with
 |ind k ih=>
  intro x y hk hx hy
  by_cases h0:k=0
  ·subst h0;rw[Nat.add_zero,hx]at hy;rw[←ZMc hy];exact .rfl' _
  ·have hl:f+k < d.length:=(ZLW.1 hy).1;have hq:d[f+(k - 1) / 2]? =some (d[f+(k - 1) / 2]'(by omega)):=ZLV (by omega);exact(h ((k - 1) / 2) k _ y (ZMa _) (by simp) (by omega) hk hq hy).trans (ih ((k - 1) / 2) (by omega) x _ (by omega) hx hq)
theorem ZHw {D:List En1} [Gds D] (hn:D.length≤1000) {a b:Nat} (hab:a+1≤b) (hb:b≤D.length):
  wp (ZpH D (a:Int) (b:Int)) (fun d=>Rg a b D d∧Srt a b d):=by
 have Zd:wp (Zp1 D (a:Int) (b:Int)) (fun d=>Rg a b D d∧Srt a b d):=by
  obtain⟨n,rfl⟩:∃n,b=a+n:=⟨b - a,by omega⟩;unfold Zp1;rw[show ((a+n:Nat):Int) - (a:Int)=(n:Int) by omega,show (n:Int) - 1=((n - 1:Nat):Int) by omega,show Int.tdiv ((n - 1:Nat):Int) 2=(((n - 1) / 2:Nat):Int)from rfl,ZnE,ZnE,ZnE,ZnE,ZnC];refine⟨ZnH (by omega),ZnH (by omega),rfl,ZnH (by omega), ?_⟩;have l1:=Zpb Zw8 (fun s:Nat×List En1=>((a:Int),(0:Int),(n:Int),(s.1:Int) - 1,s.2)) (fun s=>s.1≤n∧Rg a (a+n) D s.2∧Hx a s.1 n s.2 none) (fun s=>s.1)
   (Q:=fun x=>∃d,x=((a:Int),(0:Int),(n:Int),d)∧Rg a (a+n) D d∧Hx a 0 n d none) ((n - 1) / 2+1,D) ⟨by dsimp only;omega,.refl _ _ _,fun k c x y hk _ hcc hcl _ _=>by dsimp only at hk;omega⟩ (by dsimp only;omega) (by
   rintro rec ⟨t,d⟩ ⟨h1,h2,h3⟩ ih;dsimp only at h1 h2 h3 ih;have hl:=h2.len;haveI:=h2.gds;unfold Zti Zqv;dsimp only
   by_cases ht:1≤t
   ·rw[decide_eq_true (show (t:Int) - 1≥0 by omega),cond_true,show (t:Int) - 1=((t - 1:Nat):Int) by omega,ZnC];refine ZnI (ZEQ (D:=d) (by omega) (f:=a) (lo:=t - 1) (hi:=n) (by omega) (by omega) fun k c x y hk hkr hcc hcl hx hy=>h3 k c x y (by have:k≠t - 1:=fun e=>hkr (by rw[e]);omega) (by simp) hcc hcl hx hy) ?_;rintro d' ⟨r1,r2⟩;rw[ZnE];refine⟨ZnH (by omega),ih (t - 1,d') ⟨by dsimp only;omega,h2.trans r1,r2⟩ (by dsimp only;omega)⟩
   ·obtain rfl:t=0:=by omega
    rw[decide_eq_false (show ¬((0:Nat):Int) - 1≥0 by omega),cond_false,ZnB];exact⟨d,rfl,h2,h3⟩)
  dsimp only at l1;rw[show (((n - 1) / 2+1:Nat):Int) - 1=(((n - 1) / 2:Nat):Int) by omega]at l1;refine ZnI l1 ?_;rintro _ ⟨d1,rfl,g1,g2⟩;dsimp only;unfold ZqZ;rw[ZnE,ZnC];refine⟨ZnH (by omega), ?_⟩;have l2:=Zpb Zw7 (fun s:Nat×List En1=>((a:Int),(0:Int),(s.1:Int) - 1,s.2)) (fun s=>s.1≤n∧Rg a (a+n) D s.2∧Hx a 0 s.1 s.2 none∧Srt (a+s.1) (a+n) s.2∧∀k j x y,k < s.1→s.1≤j→j < n→s.2[a+k]? =some x→s.2[a+j]? =some y→Le x y) (fun s=>s.1)
   (Q:=fun d=>Rg a (a+n) D d∧Srt a (a+n) d) (n,d1) ⟨ZL9 _,g1,g2,fun i j x y h1 h2 h3=>by dsimp only at h1;omega,fun k j x y h1 h2 h3=>by dsimp only at h2;omega⟩ (by dsimp only;omega) (by
   rintro rec ⟨t,d⟩ ⟨h1,h2,h3,h4,h5⟩ ih;dsimp only at h1 h2 h3 h4 h5 ih;have hl:=h2.len;haveI:=h2.gds;unfold Ztg Zqu;dsimp only
   by_cases ht:1≤t
   ·have hi:a+(t - 1) < d.length:=by omega
    have h0:a < d.length:=by omega
    have hx0:d[a]? =some d[a]:=ZLV h0;rw[decide_eq_true (show (t:Int) - 1≥0 by omega),cond_true,show (t:Int) - 1=((t - 1:Nat):Int) by omega,show (a:Int)+((t - 1:Nat):Int)=((a+(t - 1):Nat):Int) by omega,ZnE,ZnE,ZnE,ZLM,ZLM,ZLV hi,ZnC,ZnB,ZnE,hx0,ZnC,ZnB,ZnE,ZnE,ZnC];refine⟨ZnH (by omega),ZnH (by omega),Zot hi,Zot h0,Zot h0,Zpg ⟨by omega,by rw[ZL3];omega⟩, ?_⟩;have hsl:=ZBE h0 hi;have hsg:=Zzb h0 hi;have hsr:Rg a (a+n) d (sw d a (a+(t - 1)) h0 hi):=ZBD h0 hi (ZL9 _) (by omega) (by omega) (by omega);have hsr2:Rg a (a+t) d (sw d a (a+(t - 1)) h0 hi):=ZBD h0 hi (ZL9 _) (by omega) (by omega) (by omega);show wp (Zog (sw d a (a+(t - 1)) h0 hi) ((0:Nat):Int) ((t - 1:Nat):Int) (a:Int)) _;refine ZnI (ZEQ (D:=sw d a (a+(t - 1)) h0 hi) (by omega) (f:=a) (lo:=0) (hi:=t - 1) (by omega) (by omega) fun k c x y hk hkr hcc hcl hx hy=> ?_) ?_
    ·have hk0:k≠0:=fun e=>hkr (by rw[e])
     rw[hsg _ (by omega),if_neg (by omega),if_neg (by omega)]at hx;rw[hsg _ (by omega),if_neg (by omega),if_neg (by omega)]at hy;exact h3 k c x y hk (by simp) hcc (by omega) hx hy
    rintro d' ⟨r1,r2⟩;rw[ZnE];have hat:∀j,t - 1≤j→j < n→d'[a+j]? =if j=t - 1 then some d[a]else d[a+j]? :=by
     intro j hj hjn;rw[r1.2 (a+j) (.inr (by omega)),hsg _ (by omega)]
     by_cases e:j=t - 1
     ·rw[if_pos (by omega),if_pos e]
     ·rw[if_neg (by omega),if_neg (by omega),if_neg e]
    have hold:∀k x,k < t - 1→d'[a+k]? =some x→∃k',k' < t∧d[a+k']? =some x:=by intro k x hk hx;obtain⟨k1,q1,q2,q3⟩:=r1.mem (by omega) (show a+k < a+(t - 1) by omega) hx;obtain⟨k2,q4,q5,q6⟩:=hsr2.mem q1 (by omega) q3;exact⟨k2 - a,by omega,by rw[show a+(k2 - a)=k2 by omega];exact q6⟩
    refine⟨ZnH (by omega),ih (t - 1,d') ⟨by dsimp only;omega,(h2.trans hsr).trans (r1.mono (ZL9 _) (by omega)),r2,fun i j x y q1 q2 q3 hx hy=> ?_,fun k j x y q1 q2 q3 hx hy=> ?_⟩ (by dsimp only;omega)⟩
    ·dsimp only at q1;rw[show i=a+(i - a) by omega,hat (i - a) (by omega) (by omega)]at hx;rw[show j=a+(j - a) by omega,hat (j - a) (by omega) (by omega),if_neg (by omega)]at hy
     by_cases e:i - a=t - 1
     ·rw[if_pos e]at hx;rw[←ZMc hx];exact h5 0 (j - a) _ y (by omega) (by omega) (by omega) hx0 hy
     ·rw[if_neg e]at hx;exact h4 (a+(i - a)) (a+(j - a)) x y (by omega) (by omega) (by omega) hx hy
    ·dsimp only at q1 q2;obtain⟨k',w1,w2⟩:=hold k x q1 hx;rw[hat j (by omega) q3]at hy
     by_cases e:j=t - 1
     ·rw[if_pos e]at hy;rw[←ZMc hy];exact ZF2 h3 k' _ x w1 hx0 w2
     ·rw[if_neg e]at hy;exact h5 k' j x y w1 (by omega) q3 w2 hy
   ·obtain rfl:t=0:=by omega
    rw[decide_eq_false (show ¬((0:Nat):Int) - 1≥0 by omega),cond_false,ZnB];exact⟨h2,h4⟩)
  refine ZnI l2 ?_;intro d hd;unfold ZqY;rw[ZnB];exact hd
 unfold ZpH;rw[ZnC];refine ZnI Zd fun d hd=> ?_
 rw[ZnE,ZnB];exact⟨by rw[hd.1.len];simp,hd⟩
end Go.Proofs
namespace Go.Proofs
open Go Eng
def Low (a b:Nat) (d:List En1):Prop:=a=0∨∀x,d[a - 1]? =some x→∀k y,a≤k→k < b→d[k]? =some y→Le x y
theorem Low.rg {a b:Nat} {D d:List En1} (h:Low a b D) (hr:Rg a b D d):Low a b d:=by
 rcases h with h |h
 ·exact .inl h
 by_cases h0:a=0
 ·exact .inl h0
 refine .inr fun x hx k y h1 h2 hy=> ?_
 rw[hr.2 (a - 1) (.inl (by omega))]at hx;obtain⟨k',q1,q2,q3⟩:=hr.mem h1 h2 hy;exact h x hx k' y q1 q2 q3
def Ins (a i j:Nat) (d:List En1):Prop:=(∀p q x y,a≤p→p < q→q < i→p≠j→q≠j→d[p]? =some x→d[q]? =some y→Le x y)∧∀q x y,j < q→q < i→d[j]? =some x→d[q]? =some y→Le x y
theorem ZEp {D:List En1} [Gds D] (hn:D.length≤1000) {a b i:Nat} (hai:a+2≤i) (hib:i < b) (hb:b≤D.length) {j0:Int} (hlow:Low a b D) (hI:Ins a i (i - 1) D):
  wp (ZnU big (a:Int) (b:Int) (i:Int) j0 ((i - 1:Nat):Int) D) (fun x=>∃d,x=((a:Int),(b:Int),(i:Int),j0,d)∧Rg a b D d∧Srt a i d):=by
 refine Zpb Zuv (fun s:Nat×List En1=>((a:Int),(b:Int),(i:Int),j0,(s.1:Int),s.2)) (fun s=>a≤s.1∧s.1 < i∧Rg a b D s.2∧Ins a i s.1 s.2) (fun s=>s.1)
  (Q:=fun x=>∃d,x=((a:Int),(b:Int),(i:Int),j0,d)∧Rg a b D d∧Srt a i d) (i - 1,D) ⟨by dsimp only;omega,by dsimp only;omega,.refl _ _ _,hI⟩ (by dsimp only;omega) ?_
 rintro rec ⟨j,d⟩ ⟨h1,h2,h3,h4,h5⟩ ih;dsimp only at h1 h2 h3 h4 h5 ih;have hl:=h3.len;haveI:=h3.gds;have hj:j < d.length:=by omega
 unfold ZqD ZoU;dsimp only;have done:(a < j→∀h:j - 1 < d.length,Le d[j - 1] d[j])→Srt a i d:=by
  intro hle p q x y q1 q2 q3 hx hy
  by_cases e1:p=j
  ·subst e1;exact h5 q x y q2 q3 hx hy
  ·by_cases e2:q=j
   ·subst e2;have hjl:q - 1 < d.length:=by omega
    have hb1:=hle (by omega) hjl;rw[ZLV hj]at hy;rw[←ZMc hy]
    by_cases e3:p=q - 1
    ·subst e3;rw[ZLV hjl]at hx;rw[←ZMc hx];exact hb1
    ·exact(h4 p (q - 1) x _ q1 (by omega) (by omega) e1 (by omega) hx (ZLV hjl)).trans hb1
   ·exact h4 p q x y q1 q2 q3 e1 e2 hx hy
 by_cases hc:1≤j
 ·have hj1:j - 1 < d.length:=by omega
  rw[decide_eq_true (show (j:Int)≥1 by omega),cond_true,show (j:Int) - 1=((j - 1:Nat):Int) by omega,ZnE,ZLM,ZLM,ZLV hj,ZnC,ZnB,ZnE,ZnE,ZLV hj1,ZnC,ZnB,ZxL,ZnC,ZnB];refine⟨Zot hj,ZnH (by omega),Zot hj1, ?_⟩
  by_cases ho:ZyS d[j] d[j - 1] < 0
  ·have haj:a < j:=by
    rcases Nat.lt_or_eq_of_le h1 with h |h
    ·exact h
    ·exfalso;rcases(hlow.rg h3)with h0 |h0
     ·omega
     ·have:=h0 d[j - 1] (by rw[h];exact ZLV hj1) j d[j] (by omega) (by omega) (ZLV hj);unfold Le at this;have:=ZAQ d[j - 1] d[j];omega
   rw[decide_eq_true ho,ZLK,cond_false];simp only[ZnE,ZnC,ZnB];refine⟨ZnH (by omega),ZnH (by omega),Zot hj1,Zot hj,Zot hj,Zpg ⟨by omega,by rw[ZL3];omega⟩,ZnH (by omega), ?_⟩;have hg:=Zzb hj hj1;have hgb:∀k z,(sw d j (j - 1) hj hj1)[k]? =some z→k < d.length:=fun k z hz=>by
    have:=(ZLW.1 hz).1
    rwa [ZBE]at this
   refine ih (j - 1,sw d j (j - 1) hj hj1) ⟨by dsimp only;omega,by dsimp only;omega,h3.trans (ZBD hj hj1 (by omega) (by omega) (by omega) (by omega)),fun p q x y q1 q2 q3 e1 e2 hx hy=> ?_,fun q x y q2 q3 hx hy=> ?_⟩ (by dsimp only;omega)
   ·dsimp only at e1 e2 hx hy;rw[hg _ (hgb _ _ hx),if_neg e1]at hx;rw[hg _ (hgb _ _ hy),if_neg e2]at hy
    by_cases e3:p=j
    ·rw[if_pos e3]at hx;rw[if_neg (by omega)]at hy;rw[←ZMc hx];exact h4 (j - 1) q _ y (by omega) (by omega) q3 (by omega) (by omega) (ZLV hj1) hy
    ·rw[if_neg e3]at hx
     by_cases e4:q=j
     ·rw[if_pos e4]at hy;rw[←ZMc hy];exact h4 p (j - 1) x _ q1 (by omega) (by omega) e3 (by omega) hx (ZLV hj1)
     ·rw[if_neg e4]at hy;exact h4 p q x y q1 q2 q3 e3 e4 hx hy
   ·dsimp only at q2 hx hy;rw[hg _ hj1,if_pos rfl]at hx;rw[hg _ (hgb _ _ hy),if_neg (by omega)]at hy;rw[←ZMc hx]
    by_cases e4:q=j
    ·rw[if_pos e4]at hy;rw[←ZMc hy];exact .of_lt ho
    ·rw[if_neg e4]at hy;exact h5 q _ y (by omega) q3 (ZLV hj) hy
  ·rw[decide_eq_false ho,ZLJ,cond_true,ZnB];exact⟨d,rfl,h3,done fun _ _=>Zxq ho⟩
 ·rw[decide_eq_false (show ¬(j:Int)≥1 by omega),cond_false,ZnB];exact⟨d,rfl,h3,done fun h=>by omega⟩
theorem ZDM {D:List En1} [Gds D] (hn:D.length≤1000) {a b i:Nat} (hai:a+1≤i) (hib:i+2≤b) (hb:b≤D.length) {j0:Int}:
  wp (ZnT big (a:Int) (b:Int) (i:Int) j0 ((i+1:Nat):Int) D) (fun x=>∃d,x=((a:Int),(b:Int),(i:Int),j0,d)∧Rg i b D d):=by
 refine Zpb Zuu (fun s:Nat×List En1=>((a:Int),(b:Int),(i:Int),j0,(s.1:Int),s.2)) (fun s=>i+1≤s.1∧s.1≤b∧Rg i b D s.2) (fun s=>b - s.1)
  (Q:=fun x=>∃d,x=((a:Int),(b:Int),(i:Int),j0,d)∧Rg i b D d) (i+1,D) ⟨ZL9 _,by dsimp only;omega,.refl _ _ _⟩ (by dsimp only;omega) ?_
 rintro rec ⟨j,d⟩ ⟨h1,h2,h3⟩ ih;dsimp only at h1 h2 h3 ih;have hl:=h3.len;haveI:=h3.gds;unfold ZqB ZoT;dsimp only
 by_cases hc:j < b
 ·have hj:j < d.length:=by omega
  have hj1:j - 1 < d.length:=by omega
  rw[decide_eq_true (show (j:Int) < (b:Int) by omega),cond_true,show (j:Int) - 1=((j - 1:Nat):Int) by omega,ZnE,ZLM,ZLM,ZLV hj,ZnC,ZnB,ZnE,ZnE,ZLV hj1,ZnC,ZnB,ZxL,ZnC,ZnB];refine⟨Zot hj,ZnH (by omega),Zot hj1, ?_⟩
  by_cases ho:ZyS d[j] d[j - 1] < 0
  ·rw[decide_eq_true ho,ZLK,cond_false];simp only[ZnE,ZnC,ZnB];refine⟨ZnH (by omega),ZnH (by omega),Zot hj1,Zot hj,Zot hj,Zpg ⟨by omega,by rw[ZL3];omega⟩,ZnH (by omega), ?_⟩;exact ih (j+1,sw d j (j - 1) hj hj1) ⟨by dsimp only;omega,by dsimp only;omega,h3.trans (ZBD hj hj1 (by omega) (by omega) (by omega) (by omega))⟩ (by dsimp only;omega)
  ·rw[decide_eq_false ho,ZLJ,cond_true,ZnB];exact⟨d,rfl,h3⟩
 ·rw[decide_eq_false (show ¬(j:Int) < (b:Int) by omega),cond_false,ZnB];exact⟨d,rfl,h3⟩
end Go.Proofs
namespace Go.Proofs
open Go Eng
theorem ZG9 {d:List En1} [Gds d] (hn:d.length≤1000) {a b i:Nat} (hai:a+1≤i) (hib:i≤b) (hb:b≤d.length) {j0:Int} (hS:Srt a i d):
  wp (ZnP big (a:Int) (b:Int) (i:Int) j0 d) (fun x=>∃i':Nat,x=((a:Int),(b:Int),(i':Int),j0,d)∧a+1≤i'∧i'≤b∧Srt a i' d∧∀h:i' < b,ZyS (d[i']'(by omega)) (d[i' - 1]'(by omega)) < 0):=by
 refine Zpb Zuw (fun i:Nat=>((a:Int),(b:Int),(i:Int),j0,d)) (fun i=>a+1≤i∧i≤b∧Srt a i d) (fun i=>b - i)
  (Q:=fun x=>∃i':Nat,x=((a:Int),(b:Int),(i':Int),j0,d)∧a+1≤i'∧i'≤b∧Srt a i' d∧∀h:i' < b,ZyS (d[i']'(by omega)) (d[i' - 1]'(by omega)) < 0) i ⟨hai,hib,hS⟩ (by omega) ?_
 rintro rec i ⟨h1,h2,h3⟩ ih;unfold ZqF ZoV Zon;dsimp only
 by_cases hc:i < b
 ·have hi:i < d.length:=by omega
  have hi1:i - 1 < d.length:=by omega
  rw[decide_eq_true (show (i:Int) < (b:Int) by omega),cond_true,show (i:Int) - 1=((i - 1:Nat):Int) by omega,ZnE,ZLM,ZLM,ZLV hi,ZnC,ZnB,ZnE,ZnE,ZLV hi1,ZnC,ZnB,ZxL,ZnC,ZnB];refine⟨Zot hi,ZnH (by omega),Zot hi1, ?_⟩
  by_cases ho:ZyS d[i] d[i - 1] < 0
  ·rw[decide_eq_true ho,ZLK,cond_false,ZnB];exact⟨i,rfl,h1,h2,h3,fun _=>ho⟩
  ·rw[decide_eq_false ho,ZLJ,cond_true,ZnE];refine⟨ZnH (by omega),ih (i+1) ⟨by omega,by omega,fun p q x y q1 q2 q3 hx hy=> ?_⟩ (by omega)⟩
   by_cases e:q=i
   ·subst e;rw[ZLV hi]at hy;rw[←ZMc hy]
    by_cases e2:p=q - 1
    ·subst e2;rw[ZLV hi1]at hx;rw[←ZMc hx];exact Zxq ho
    ·exact(h3 p (q - 1) x _ q1 (by omega) (by omega) hx (ZLV hi1)).trans (Zxq ho)
   ·exact h3 p q x y q1 q2 (by omega) hx hy
 ·rw[decide_eq_false (show ¬(i:Int) < (b:Int) by omega),cond_false,cond_false,ZnB];exact⟨i,rfl,h1,h2,h3,fun h=>absurd h hc⟩
theorem Srt.rg {a i b:Nat} {D d:List En1} (h:Srt a i D) (hr:Rg i b D d):Srt a i d:=fun p q x y q1 q2 q3 hx hy=>h p q x y q1 q2 q3 (by rw[←hr.2 p (.inl (by omega))];exact hx) (by rw[←hr.2 q (.inl q3)];exact hy)
theorem ZDP {D:List En1} [Gds D] (hn:D.length≤1000) {a b:Nat} (hab:a+1≤b) (hb:b≤D.length) (hlow:Low a b D):
  wp (Zoq D (a:Int) (b:Int)) (fun x=>Rg a b D x.2∧(x.1=true→Srt a b x.2)):=by
 have Zd:wp (Zoy D (a:Int) (b:Int)) (fun x=>Rg a b D x.2∧(x.1=true→Srt a b x.2)):=by
  unfold Zoy;rw[ZnE,ZnC,show (a:Int)+1=((a+1:Nat):Int) by omega];refine⟨ZnH (by omega), ?_⟩;refine ZnI (Q:=fun x=>(∃f d,x= .ret (f,d)∧Rg a b D d∧(f=true→Srt a b d))∨∃d,x= .brk d∧Rg a b D d) ?_ ?_
  ·refine Zpb Zux (fun s:Nat×Nat×List En1=>((a:Int),(b:Int),(s.1:Int),(s.2.1:Int),s.2.2)) (fun s=>a+1≤s.1∧s.1≤b∧s.2.1≤5∧Rg a b D s.2.2∧Srt a s.1 s.2.2) (fun s=>5 - s.2.1)
    (Q:=fun x=>(∃f d,x= .ret (f,d)∧Rg a b D d∧(f=true→Srt a b d))∨∃d,x= .brk d∧Rg a b D d) (a+1,0,D) ⟨ZL9 _,hab,ZMa _,.refl _ _ _,fun p q x y q1 q2 q3=>by dsimp only at q3;omega⟩ (by dsimp only;omega) ?_
   rintro rec ⟨i,j,d⟩ ⟨h1,h2,h3,h4,h5⟩ ih;dsimp only at h1 h2 h3 h4 h5 ih;have hl:=h4.len;haveI:=h4.gds;unfold ZqH ZoW;dsimp only
   by_cases hj:j < 5
   ·rw[decide_eq_true (show (j:Int) < 5 by omega),cond_true,ZnC];refine ZnI (ZG9 (d:=d) (by omega) h1 h2 (by omega) h5) ?_;rintro _ ⟨i,rfl,g1,g2,g3,g4⟩;dsimp only;unfold Zo7
    by_cases e:i=b
    ·rw[show ((i:Int) == (b:Int))=true by rw[e];simp,cond_true,ZnB];exact .inl ⟨true,d,rfl,h4,fun _=>e▸g3⟩
    ·have hib:i < b:=by omega
     have ho:=g4 hib;have hi:i < d.length:=by omega
     have hi1:i - 1 < d.length:=by omega
     rw[show ((i:Int) == (b:Int))=false by rw[beq_eq_false_iff_ne];omega,cond_false,ZnE,Zn3];refine⟨ZnH (by omega),fun _=> ?_,fun _=> ?_⟩
     ·rw[ZnB];exact .inl ⟨false,d,rfl,h4,fun h=>by cases h⟩
     ·
      have hg:=Zzb hi hi1;have hsr:Rg a b d (sw d i (i - 1) hi hi1):=ZBD hi hi1 (by omega) (by omega) (by omega) (by omega);have next:∀d',Rg a b D d'→Srt a i d'→wp (rec ((a:Int),(b:Int),(i:Int),(j:Int)+1,d')) (fun x=>(∃f d,x= .ret (f,d)∧Rg a b D d∧(f=true→Srt a b d))∨∃d,x= .brk d∧Rg a b D d):=fun d' q1 q2=>ih (i,j+1,d') ⟨g1,by dsimp only;omega,by dsimp only;omega,q1,q2⟩ (by dsimp only;omega)
      have j4:∀d',Rg a b D d'→Srt a i d'→wp (ZnV (fun a1 a2 a3 a4 a5=>rec (a1,a2,a3,a4,a5)) (a:Int) (b:Int) (i:Int) (j:Int) (decide ((b:Int) - (i:Int)≥2)) d') (fun x=>(∃f d,x= .ret (f,d)∧Rg a b D d∧(f=true→Srt a b d))∨∃d,x= .brk d∧Rg a b D d):=by
       intro d' q1 q2;haveI:=q1.gds;unfold ZnV Zo5
       by_cases hr:i+2≤b
       ·rw[decide_eq_true (show (b:Int) - (i:Int)≥2 by omega),cond_true,ZnE,ZnC,show (i:Int)+1=((i+1:Nat):Int) by omega];refine⟨ZnH (by omega),ZnI (ZDM (D:=d') (by rw[q1.len];omega) g1 hr (by rw[q1.len];omega)) ?_⟩;rintro _ ⟨d2,rfl,w1⟩;dsimp only;rw[ZnE];exact⟨ZnH (by omega),next d2 (q1.trans (w1.mono (by omega) (ZL9 _))) (q2.rg w1)⟩
       ·rw[decide_eq_false (show ¬(b:Int) - (i:Int)≥2 by omega),cond_false,ZnE];exact⟨ZnH (by omega),next d' q1 q2⟩
      rw[show (i:Int) - 1=((i - 1:Nat):Int) by omega];simp only[ZnE,ZLM];rw[ZLV hi1,ZLV hi];simp only[ZnC,ZnB,ZnE];refine⟨ZnH (by omega),ZnH (by omega),Zot hi1,Zot hi,Zot hi,Zpg ⟨by omega,by rw[ZL3];omega⟩,ZnH (by omega), ?_⟩;show wp (bif decide ((i:Int) - (a:Int)≥2)then _ else _) _
      by_cases h2a:a+2≤i
      ·rw[decide_eq_true (show (i:Int) - (a:Int)≥2 by omega),cond_true];simp only[ZnE,ZnC];refine⟨ZnH (by omega), ?_⟩;have hI:Ins a i (i - 1) (sw d i (i - 1) hi hi1):=by refine⟨fun p q x y q1 q2 q3 e1 e2 hx hy=> ?_,fun q x y q2 q3=>by omega⟩;rw[hg _ (by omega),if_neg e1,if_neg (by omega)]at hx;rw[hg _ (by omega),if_neg e2,if_neg (by omega)]at hy;exact g3 p q x y q1 q2 q3 hx hy
       refine ZnI (ZEp (D:=sw d i (i - 1) hi hi1) (by rw[ZBE];omega) h2a hib (by rw[ZBE];omega) ((hlow.rg h4).rg hsr) hI) ?_;rintro _ ⟨d2,rfl,w1,w2⟩;dsimp only;unfold Zo6;rw[ZnE];exact⟨ZnH (by omega),j4 d2 ((h4.trans hsr).trans w1) w2⟩
      ·rw[decide_eq_false (show ¬(i:Int) - (a:Int)≥2 by omega),cond_false,ZnE];exact⟨ZnH (by omega),j4 _ (h4.trans hsr) fun p q x y q1 q2 q3=>by omega⟩
   ·rw[decide_eq_false (show ¬(j:Int) < 5 by omega),cond_false,ZnB];exact .inr ⟨d,rfl,h4⟩
  ·rintro x (⟨f,d,rfl,r1,r2⟩ |⟨d,rfl,r1⟩)
   ·dsimp only;rw[ZnB];exact⟨r1,r2⟩
   ·unfold Zo4;dsimp only;rw[ZnB];exact⟨r1,fun h=>by cases h⟩
 unfold Zoq;rw[ZnC];refine ZnI Zd fun x hx=> ?_
 rw[ZnE,ZnB];exact⟨by rw[hx.1.len];simp,hx⟩
end Go.Proofs
namespace Go.Proofs
open Go Eng
theorem ZEB (Pre:List En1) (b i0:Int) {A0 C0:List En1} {x:En1} (hlen:(Pre++(A0++x::C0)).length≤1000) (hA:∀e∈A0,Gdm e) (hx:Gdm x):
  wp (ZnX big (Pre.length:Int) b i0 ((Pre.length+A0.length:Nat):Int) (Pre++(A0++x::C0))) (fun y=>y=((Pre.length:Int),b,i0,Pre++(ZDf ltE x A0++C0))):=by
 refine Zpb ZvN (fun(s:List En1×List En1)=>((Pre.length:Int),b,i0,((Pre.length+s.1.length:Nat):Int),Pre++(s.1++x::s.2))) (fun s=>ZDf ltE x s.1++s.2=ZDf ltE x A0++C0∧(Pre++(s.1++x::s.2)).length≤1000∧∀e∈s.1,Gdm e) (fun s=>s.1.length)
  (Q:=fun y=>y=((Pre.length:Int),b,i0,Pre++(ZDf ltE x A0++C0))) (A0,C0) ⟨rfl,hlen,hA⟩ (by dsimp only;simp only[ZLZ]at hlen;omega) ?_
 rintro rec ⟨A,C⟩ ⟨hR,hl,hG⟩ ih;dsimp only at hR hl hG ih⊢
 unfold ZrZ ZpM ZoM;dsimp only;rcases List.eq_nil_or_concat A with rfl |⟨A,p,rfl⟩
 ·rw[Zn3];refine⟨fun h=>by simp at h,fun _=> ?_⟩;rw[cond_false,ZnB];rw[ZF1]at hR;rw[←hR];rfl
 ·rw[List.concat_eq_append]at*
  simp only[ZLZ,ZL0,ZL2]at hl;have e0:Pre++((A++[p])++x::C)=(Pre++A)++p::x::C:=by simp
  have hla:(Pre++A).length=Pre.length+A.length:=ZLZ;have ei:((Pre.length+(A++[p]).length:Nat):Int)=(((Pre++A).length+1:Nat):Int):=by rw[hla,ZLZ,List.length_singleton];omega
  have ej:((Pre.length+(A++[p]).length:Nat):Int) - 1=((Pre++A).length:Int):=by rw[ei];omega
  have g1:((Pre++A)++p::x::C)[(Pre++A).length+1]? =some x:=by rw[ZLT (by omega),show (Pre++A).length+1 - (Pre++A).length=1 by omega];rfl
  have g0:((Pre++A)++p::x::C)[(Pre++A).length]? =some p:=by rw[ZLT (by omega),Nat.sub_self];rfl
  rw[Zn3];refine⟨fun _=> ?_,fun h=>by simp only[decide_eq_false_iff_not]at h;rw[ei,hla]at h;omega⟩;rw[ej,ei,e0];simp only[ZLM,g1,g0,ZMb];have ll:((Pre++A)++p::x::C).length=(Pre++A).length+2+C.length:=by rw[ZLZ (bs:=p::x::C)];simp only[ZL0];omega
  have lx:inR (((Pre++A).length+1:Nat):Int) (((Pre++A)++p::x::C).length:Int)=true:=Zpg ⟨by omega,by omega⟩;have lp:inR ((Pre++A).length:Int) (((Pre++A)++p::x::C).length:Int)=true:=Zpg ⟨by omega,by omega⟩;have lp':inR ((Pre++A).length:Int) ((((Pre++A)++p::x::C).set ((Pre++A).length+1) p).length:Int)=true:=by rw[ZL3];exact lp
  have ki:inK .i64 ((Pre++A).length:Int)=true:=ZnH (by omega);rw[lx,lp,lp',ki];simp only[chk_true];haveI:Gdm p:=hG p (by simp);rw[ZxL,ZnC,ZnB];rw[ZCo]at hR;have hlt:ltE x p=decide (ZyS x p < 0):=rfl;rw[Zn3];refine⟨fun hc=> ?_,fun hc=> ?_⟩
  ·rw[hlt,if_pos hc]at hR;rw[ZES];have:=ih (A,p::C) ⟨by rw[←hR];simp,by simp only[ZLZ,ZL0];omega,fun e he=>hG e (List.mem_append_left _ he)⟩ (by simp);dsimp only at this;rw[←hla,←List.append_assoc]at this;exact this
  ·rw[hlt,if_neg (by rw[hc];simp)]at hR;rw[ZnB,←hR];simp
theorem ZHu (Pre M Suf:List En1) (hl:(Pre++(M++Suf)).length≤1000) (hM:∀e∈M,Gdm e):
  Zom (Pre++(M++Suf)) (Pre.length:Int) ((Pre.length+M.length:Nat):Int)=some (Pre++(ZAj ltE M++Suf)):=by
 have hlen:Pre.length+M.length+Suf.length≤1000:=by simp only[ZLZ]at hl;omega
 have key:Zo8 (Pre++(M++Suf)) (Pre.length:Int) ((Pre.length+M.length:Nat):Int)=some (Pre++(ZAj ltE M++Suf)):=by
  refine Zq6 ?_;unfold Zo8 Zp7;rw[ZnE,ZnC];refine⟨ZnH (by omega), ?_⟩;have out:∀(k f:Nat),k+1≤M.length→M.length - (k+1) < f→wp (Zoi f (Pre.length:Int) ((Pre.length+M.length:Nat):Int) ((Pre.length+(k+1):Nat):Int) (Pre++((ZAj ltE (M.take (k+1))++M.drop (k+1))++Suf))) (fun y=>y=Pre++(ZAj ltE M++Suf)):=by
   intro k f
   induction f generalizing k with
   |zero=>intro _ h;omega
   |succ f ih=>
    intro hk hf;show wp (Zoa _ _ _ _ _) _;unfold Zoa Zp8;rw[Zn3];refine⟨fun hc=> ?_,fun hc=> ?_⟩
    ·simp only[decide_eq_true_eq]at hc;have hk2:k+1 < M.length:=by omega
     have hlen2:(ZAj ltE (M.take (k+1))).length=k+1:=by rw[ZBL,ZL4];omega
     have e:M.drop (k+1)=M[k+1]::M.drop (k+2):=ZLR hk2;rw[e];have:=ZEB Pre ((Pre.length+M.length:Nat):Int) ((Pre.length+(k+1):Nat):Int) (A0:=ZAj ltE (M.take (k+1))) (C0:=M.drop (k+2)++Suf) (x:=M[k+1]) (by simp only[ZLZ,ZL0,hlen2,List.length_drop];omega) (fun e he=>hM e (List.mem_of_mem_take ((ZAJ _).mem_iff.1 he))) (hM _ (ZLY hk2));rw[hlen2]at this;rw[ZnC,List.append_assoc,List.cons_append];refine ZnI this ?_;rintro y rfl;dsimp only;rw[ZnE];refine⟨ZnH (by omega), ?_⟩;have e2:ZDf ltE M[k+1] (ZAj ltE (M.take (k+1)))=ZAj ltE (M.take (k+2)):=by rw[ZL8 hk2,ZCN]
     rw[e2];have:=ih (k+1) (by omega) (by omega);rw[show ((Pre.length+(k+1):Nat):Int)+1=((Pre.length+(k+1+1):Nat):Int) by omega];rw[List.append_assoc]at this;exact this
    ·simp only[decide_eq_false_iff_not]at hc;have:k+1=M.length:=by omega
     rw[ZnB,this,ZL7,List.drop_of_length_le (ZL9 _),List.append_nil]
  by_cases h0:M.length=0
  ·have:M=[]:=List.eq_nil_of_length_eq_zero h0;subst this;obtain⟨n,hn⟩:=ZDY 1 (by omega);rw[hn];show wp (Zoa _ _ _ _ _) _;unfold Zoa;rw[ZL2,decide_eq_false (by omega),cond_false,ZnB,ZnB];rfl
  ·have:=out 0 big (by omega) (by rw[big_eq];omega);have e:ZAj ltE (M.take (0+1))++M.drop (0+1)=M:=by
    cases M with
    |nil=>simp at h0
    |cons x M=>rfl
   rw[e]at this;rw[show ((Pre.length:Int))+1=((Pre.length+(0+1):Nat):Int) by omega];refine ZnI this ?_;rintro y rfl;rw[ZnB]
 unfold Zom;rw[key,ZMb];have:(Pre++(ZAj ltE M++Suf)).length=(Pre++(M++Suf)).length:=by simp only[ZLZ,ZBL]
 rw[this,decide_eq_true rfl];rfl
theorem ZE4 (l:List En1):(ZAj ltE l).Pairwise Le:=
 ZB3 (fun _=>True) Le (fun x p _ _ h=>by have:=of_decide_eq_true h;unfold Le;omega) (fun x p _ _ h=>Zxq (of_decide_eq_false h)) (fun a b c _ _ _ h1 h2=>h1.trans h2) l fun _ _=>trivial
theorem ZI2 {D:List En1} [Gds D] (hn:D.length≤1000) {a b:Nat} (hab:a≤b) (hb:b≤D.length):
  wp (Zom D (a:Int) (b:Int)) (fun d=>Rg a b D d∧Srt a b d):=by
 have e:D=D.take a++((D.drop a).take (b - a)++(D.drop a).drop (b - a)):=by rw[ZL6,ZL6]
 have l1:(D.take a).length=a:=by rw[ZL4];omega
 have l2:((D.drop a).take (b - a)).length=b - a:=by rw[ZL4,List.length_drop];omega
 generalize D.take a=Pre at e l1;generalize (D.drop a).take (b - a)=M at e l2;generalize (D.drop a).drop (b - a)=Suf at e;subst e;have h:=ZHu Pre M Suf hn fun e he=>Gds.all (d:=Pre++(M++Suf)) e (List.mem_append_right _ (List.mem_append_left _ he))
 rw[l1,show ((a+M.length:Nat):Int)=(b:Int) by omega]at h;rw[h,ZnB];have l3:(ZAj ltE M).length=M.length:=ZBL M;have hs:=ZE4 M;refine⟨⟨((ZAJ M).append_right Suf).append_left Pre,fun k hk=> ?_⟩,fun i j x y q1 q2 q3 hx hy=> ?_⟩
 ·rcases hk with hk |hk
  ·rw[ZLS (by omega),ZLS (by omega)]
  ·rw[ZLT (by omega),ZLT (by omega),ZLT (by omega),ZLT (by omega),l3]
 ·rw[ZLT (by omega),ZLS (by omega)]at hx hy;obtain⟨hi,rfl⟩:=ZLW.1 hx;obtain⟨hj,rfl⟩:=ZLW.1 hy;exact List.pairwise_iff_getElem.1 hs _ _ hi hj (by omega)
end Go.Proofs
namespace Go.Proofs
open Go Eng
theorem Low.sub {a b c:Nat} {d:List En1} (h:Low a b d) (hc:c≤b):Low a c d:=by
 rcases h with h |h
 ·exact .inl h
 ·exact .inr fun x hx k y h1 h2 hy=>h x hx k y h1 (by omega) hy
theorem ZIK:∀(n:Nat) {D:List En1} [Gds D] (_:D.length≤200) {a0 b0:Nat} (_:a0≤b0) (_:b0≤D.length) (_:b0 - a0 < n) (_:Low a0 b0 D) {lim:Int} (_:0≤lim) (_:lim≤1000),
  wp (ZnF n D (a0:Int) (b0:Int) lim) (fun d=>Rg a0 b0 D d∧Srt a0 b0 d):=by
 intro n
 induction n with
 |zero=>intro D _ _ a0 b0 _ _ h;omega
 |succ n IH=>
  intro D _ hn a0 b0 hab hb hfu hlow lim hl0 hl1;show wp ((ZpP (ZnF n) D (a0:Int) (b0:Int) lim).bind _) _;rw[ZnC];refine ZnI (Q:=fun d=>Rg a0 b0 D d∧Srt a0 b0 d) ?_ fun d hd=>by rw[ZnE,ZnB];exact⟨by rw[hd.1.len];simp,hd⟩
  unfold ZpP;rw[ZnC];refine ZnI (Zpb (Zxn (ZnF n)) (fun s:Nat×Nat×Int×Bool×Bool×List En1=>((s.1:Int),(s.2.1:Int),s.2.2.1,s.2.2.2.1,s.2.2.2.2.1,s.2.2.2.2.2))
   (fun s=>a0≤s.1∧s.1≤s.2.1∧s.2.1≤b0∧(0≤s.2.2.1∧s.2.2.1≤1000)∧Rg a0 b0 D s.2.2.2.2.2∧Low s.1 s.2.1 s.2.2.2.2.2∧∀d',Rg s.1 s.2.1 s.2.2.2.2.2 d'→Srt s.1 s.2.1 d'→Srt a0 b0 d') (fun s=>s.2.1 - s.1)
   (Q:=fun x=>∃d,x= .ret d∧Rg a0 b0 D d∧Srt a0 b0 d) (a0,b0,lim,true,true,D) ⟨ZL9 _,hab,ZL9 _,⟨hl0,hl1⟩,.refl _ _ _,hlow,fun d' _ h=>h⟩ (by dsimp only;omega) ?_) ?_
  ·rintro rec ⟨a,b,lim,wb,wq,d⟩ ⟨h1,h2,h3,⟨h4,h5⟩,h6,h7,h8⟩ ih;dsimp only at h1 h2 h3 h4 h5 h6 h7 h8 ih;have hl:=h6.len;haveI:=h6.gds;have up:∀d',Rg a b d d'→Rg a0 b0 D d':=fun d' h=>h6.trans (h.mono h1 h3)
   unfold ZtE ZqI;dsimp only;rw[ZnE];refine⟨ZnH (by omega), ?_⟩
   by_cases h12:(b:Int) - (a:Int)≤12
   ·rw[decide_eq_true h12,cond_true,ZnC];refine ZnI (ZI2 (D:=d) (by omega) h2 (by omega)) ?_;rintro d' ⟨r1,r2⟩;rw[ZnB];exact⟨d',rfl,up d' r1,h8 d' r1 r2⟩
   rw[decide_eq_false h12,cond_false,Zn3];refine⟨fun _=> ?_,fun hlim=> ?_⟩
   ·rw[ZnC];refine ZnI (ZHw (D:=d) (by omega) (a:=a) (b:=b) (by omega) (by omega)) ?_;rintro d' ⟨r1,r2⟩;rw[ZnB];exact⟨d',rfl,up d' r1,h8 d' r1 r2⟩
   have hlim':lim≠0:=by simpa using hlim
   have j5:∀(pv:Nat) (L:Int) (len:Int) (d1:List En1) (f:Bool),a≤pv→pv < b→0≤L→L≤1000→len=((b - a:Nat):Int)→Rg a b d d1→
     (f=true→∃hp:pv < d1.length,∃ha:a - 1 < d1.length,0 < a∧¬ZyS d1[a - 1] d1[pv] < 0)→
     wp (ZoE (ZnF n) (fun a1 a2 a3 a4 a5 a6=>rec (a1,a2,a3,a4,a5,a6)) (a:Int) (b:Int) L wb wq len (pv:Int) f d1) (fun x=>∃d,x= .ret d∧Rg a0 b0 D d∧Srt a0 b0 d):=by
    intro pv L len d1 f p1 p2 L0 L1 hlen r1 hf;have hl1:=r1.len;haveI:=r1.gds;have hlow1:=h7.rg r1;unfold ZoE;cases f with
    |true=>
     obtain⟨hp,ha,ha0,hnl⟩:=hf rfl;rw[cond_true,ZnC];refine ZnI (ZFQ (D:=d1) (by omega) (by omega) p1 p2) ?_;rintro⟨m',d2⟩ ⟨⟨m,e,m1,m2,r2,p,q1,q2,q3⟩,q4⟩;dsimp only at e r2 q1 q2 q3 q4⊢
     subst e;have hpp:d1[pv]=p:=by rw[q1,ZLV hp]at q4;exact(ZMc q4).symm
     have hl2:=r2.len;haveI:=r2.gds;have hlow2:=hlow1.rg r2;have ha2:d2[a - 1]? =some d1[a - 1]:=by rw[r2.2 (a - 1) (.inl (by omega)),ZLV ha]
     have hpa:Le p d1[a - 1]:=hpp▸Zxq hnl;have hall:∀k y,a≤k→k < b→d2[k]? =some y→Le d1[a - 1] y:=fun k y w1 w2 hy=>by
      rcases hlow2 with h |h
      ·omega
      ·exact h _ ha2 k y w1 w2 hy
     refine ih (m,b,L,wb,wq,d2) ⟨by dsimp only;omega,m2,h3,⟨L0,L1⟩,up d2 (r1.trans r2),.inr fun x hx k y w1 w2 hy=> ?_,fun d' s1 s2=> ?_⟩ (by dsimp only;omega)
     ·dsimp only at hx w1 hy;exact(Zxq (q2 (m - 1) x (by omega) (by omega) hx)).trans (.of_lt (q3 k y w1 w2 hy))
     ·dsimp only at s1 s2;refine h8 d' ((r1.trans r2).trans (s1.mono (by omega) (ZL9 _))) fun i j x y w1 w2 w3 hx hy=> ?_
      by_cases e1:i < m
      ·rw[s1.2 i (.inl e1)]at hx;have hxp:Le x p:=Zxq (q2 i x w1 e1 hx)
       by_cases e2:j < m
       ·rw[s1.2 j (.inl e2)]at hy;exact(hxp.trans hpa).trans (hall j y (by omega) (by omega) hy)
       ·obtain⟨k',u1,u2,u3⟩:=s1.mem (by omega) w3 hy;exact hxp.trans (.of_lt (q3 k' y u1 u2 u3))
      ·exact s2 i j x y (by omega) w2 w3 hx hy
    |false=>
     rw[cond_false,ZnC];refine ZnI (ZDp (D:=d1) (by omega) (by omega) p1 p2) ?_;rintro⟨m',ap,d2⟩ ⟨m,e,m1,m2,r2,p,q1,q2,q3⟩;dsimp only at e r2 q1 q2 q3⊢
     subst e;have hl2:=r2.len;haveI:=r2.gds;have hlow2:=hlow1.rg r2;rw[hlen,ZnE,ZnE,ZnE,ZnE,show Int.tdiv ((b - a:Nat):Int) 8=(((b - a) / 8:Nat):Int)from rfl,Zn3];refine⟨ZnH (by omega),ZnH (by omega),rfl,ZnH (by omega),fun _=> ?_,fun _=> ?_⟩
     ·rw[ZnC];refine ZnI (IH (D:=d2) (by omega) (a0:=a) (b0:=m) m1 (by omega) (by omega) (hlow2.sub (by omega)) L0 L1) ?_;rintro d3 ⟨r3,r4⟩;have hl3:=r3.len;haveI:=r3.gds;rw[ZnE,show (m:Int)+1=((m+1:Nat):Int) by omega];have hpm:d3[m]? =some p:=by rw[r3.2 m (.inr (ZL9 _))];exact q1
      have hhi:∀k y,m < k→k < b→d3[k]? =some y→Le p y:=fun k y w1 w2 hy=>by rw[r3.2 k (.inr (by omega))]at hy;exact Zxq (q3 k y w1 w2 hy)
      have hlo:∀k y,a≤k→k < m→d3[k]? =some y→Le y p:=fun k y w1 w2 hy=>by obtain⟨k',u1,u2,u3⟩:=r3.mem w1 w2 hy;exact .of_lt (q2 k' y u1 u2 u3)
      refine⟨ZnH (by omega),ih (m+1,b,L,_,ap,d3) ⟨by dsimp only;omega,by dsimp only;omega,h3,⟨L0,L1⟩,up d3 ((r1.trans r2).trans (r3.mono (ZL9 _) (by omega))),.inr fun x hx k y w1 w2 hy=> ?_,fun d' s1 s2=> ?_⟩ (by dsimp only;omega)⟩
      ·dsimp only at hx w1 hy;rw[show m+1 - 1=m by omega,hpm]at hx;rw[←ZMc hx];exact hhi k y (by omega) w2 hy
      ·dsimp only at s1 s2;refine h8 d' (((r1.trans r2).trans (r3.mono (ZL9 _) (by omega))).trans (s1.mono (by omega) (ZL9 _))) fun i j x y w1 w2 w3 hx hy=> ?_
       by_cases e1:i < m
       ·rw[s1.2 i (.inl (by omega))]at hx
        by_cases e2:j < m
        ·rw[s1.2 j (.inl (by omega))]at hy;exact r4 i j x y w1 w2 e2 hx hy
        ·have hxp:=hlo i x w1 e1 hx
         by_cases e3:j=m
         ·subst e3;rw[s1.2 j (.inl (by omega)),hpm]at hy;rw[←ZMc hy];exact hxp
         ·obtain⟨k',u1,u2,u3⟩:=s1.mem (by omega) w3 hy;exact hxp.trans (hhi k' y (by omega) u2 u3)
       ·by_cases e3:i=m
        ·subst e3;rw[s1.2 i (.inl (by omega)),hpm]at hx;rw[←ZMc hx];obtain⟨k',u1,u2,u3⟩:=s1.mem (by omega) w3 hy;exact hhi k' y (by omega) u2 u3
        ·exact s2 i j x y (by omega) w2 w3 hx hy
     ·rw[ZnE,ZnC,show (m:Int)+1=((m+1:Nat):Int) by omega];have hlowr:Low (m+1) b d2:= .inr fun x hx k y w1 w2 hy=>by rw[show m+1 - 1=m by omega,q1]at hx;rw[←ZMc hx];exact Zxq (q3 k y (by omega) w2 hy)
      refine⟨ZnH (by omega),ZnI (IH (D:=d2) (by omega) (a0:=m+1) (b0:=b) (by omega) (by omega) (by omega) hlowr L0 L1) ?_⟩;rintro d3 ⟨r3,r4⟩;have hl3:=r3.len;haveI:=r3.gds;have hpm:d3[m]? =some p:=by rw[r3.2 m (.inl (by omega))];exact q1
      have hhi:∀k y,m < k→k < b→d3[k]? =some y→Le p y:=fun k y w1 w2 hy=>by obtain⟨k',u1,u2,u3⟩:=r3.mem (by omega) w2 hy;exact Zxq (q3 k' y (by omega) u2 u3)
      have hlo:∀k y,a≤k→k < m→d3[k]? =some y→Le y p:=fun k y w1 w2 hy=>by rw[r3.2 k (.inl (by omega))]at hy;exact .of_lt (q2 k y w1 w2 hy)
      have r23:Rg a b d2 d3:=r3.mono (by omega) (ZL9 _);refine ih (a,m,L,_,ap,d3) ⟨h1,m1,by dsimp only;omega,⟨L0,L1⟩,up d3 ((r1.trans r2).trans r23),(hlow2.rg r23).sub (show m≤b by omega),fun d' s1 s2=> ?_⟩ (by dsimp only;omega);dsimp only at s1 s2;refine h8 d' (((r1.trans r2).trans r23).trans (s1.mono (ZL9 _) (by omega))) fun i j x y w1 w2 w3 hx hy=> ?_
      by_cases e2:j < m
      ·exact s2 i j x y w1 w2 e2 hx hy
      ·rw[s1.2 j (.inr (by omega))]at hy
       by_cases e1:i < m
       ·obtain⟨k',u1,u2,u3⟩:=s1.mem w1 e1 hx;have hxp:=hlo k' x u1 u2 u3
        by_cases e3:j=m
        ·subst e3;rw[hpm]at hy;rw[←ZMc hy];exact hxp
        ·exact hxp.trans (hhi j y (by omega) w3 hy)
       ·rw[s1.2 i (.inr (by omega))]at hx
        by_cases e3:i=m
        ·subst e3;rw[hpm]at hx;rw[←ZMc hx];exact hhi j y (by omega) w3 hy
        ·exact r4 i j x y (by omega) w2 w3 hx hy
   have j4:∀(pv:Nat) (L:Int) (len:Int) (d1:List En1),a≤pv→pv < b→0≤L→L≤1000→len=((b - a:Nat):Int)→Rg a b d d1→
     wp (ZoF (ZnF n) (fun a1 a2 a3 a4 a5 a6=>rec (a1,a2,a3,a4,a5,a6)) (a:Int) (b:Int) L wb wq len (pv:Int) d1) (fun x=>∃d,x= .ret d∧Rg a0 b0 D d∧Srt a0 b0 d):=by
    intro pv L len d1 p1 p2 L0 L1 hlen r1;have hl1:=r1.len;haveI:=r1.gds;have hp:pv < d1.length:=by omega
    unfold ZoF
    by_cases ha:0 < a
    ·have ha1:a - 1 < d1.length:=by omega
     rw[decide_eq_true (show (a:Int) > 0 by omega),cond_true,show (a:Int) - 1=((a - 1:Nat):Int) by omega,ZnE,ZnE,ZLM,ZLM,ZLV ha1,ZnC,ZnB,ZnE,ZLV hp,ZnC,ZnB,ZxL,ZnC,ZnB];refine⟨ZnH (by omega),Zot ha1,Zot hp,j5 pv L len d1 _ p1 p2 L0 L1 hlen r1 fun hf=>⟨hp,ha1,ha, ?_⟩⟩;simpa using hf
    ·rw[decide_eq_false (show ¬(a:Int) > 0 by omega),cond_false];exact j5 pv L len d1 false p1 p2 L0 L1 hlen r1 fun h=>by cases h
   have j2:∀(pv:Nat) (h L:Int) (len:Int) (d1:List En1),a≤pv→pv < b→0≤L→L≤1000→len=((b - a:Nat):Int)→Rg a b d d1→
     wp (ZoG (ZnF n) (fun a1 a2 a3 a4 a5 a6=>rec (a1,a2,a3,a4,a5,a6)) (a:Int) (b:Int) L wb wq len (pv:Int) h d1) (fun x=>∃d,x= .ret d∧Rg a0 b0 D d∧Srt a0 b0 d):=by
    intro pv h L len d1 p1 p2 L0 L1 hlen r1;have hl1:=r1.len;haveI:=r1.gds;have j3:∀f:Bool,wp (Zoh (ZnF n) (fun a1 a2 a3 a4 a5 a6=>rec (a1,a2,a3,a4,a5,a6)) (a:Int) (b:Int) L wb wq len (pv:Int) f d1) (fun x=>∃d,x= .ret d∧Rg a0 b0 D d∧Srt a0 b0 d):=by
     intro f;unfold Zoh;cases f with
     |false=>rw[cond_false];exact j4 pv L len d1 p1 p2 L0 L1 hlen r1
     |true=>
      rw[cond_true,ZnC];refine ZnI (ZDP (D:=d1) (by omega) (by omega) (by omega) (h7.rg r1)) ?_;rintro⟨q,d2⟩ ⟨w1,w2⟩;dsimp only at w1 w2⊢
      cases q with
      |true=>
       rw[cond_true,ZnB];exact⟨d2,rfl,up d2 (r1.trans w1),h8 d2 (r1.trans w1) (w2 rfl)⟩
      |false=>rw[cond_false];exact j4 pv L len d2 p1 p2 L0 L1 hlen (r1.trans w1)
    unfold ZoG;rw[Zn3];refine⟨fun _=> ?_,fun _=>j3 _⟩;rw[Zn3];exact⟨fun _=>j3 _,fun _=>j3 _⟩
   have j1:∀(L:Int) (d1:List En1),0≤L→L≤1000→Rg a b d d1→
     wp (ZoH (ZnF n) (fun a1 a2 a3 a4 a5 a6=>rec (a1,a2,a3,a4,a5,a6)) (a:Int) (b:Int) L wb wq ((b:Int) - (a:Int)) d1) (fun x=>∃d,x= .ret d∧Rg a0 b0 D d∧Srt a0 b0 d):=by
    intro L d1 L0 L1 r1;have hl1:=r1.len;haveI:=r1.gds;unfold ZoH;rw[ZnC];refine ZnI (ZFN (d:=d1) (by omega) (a:=a) (b:=b) (by omega) (by omega)) ?_;rintro _ ⟨pv,h,rfl,p1,p2⟩;dsimp only;rw[Zn3];refine⟨fun _=> ?_,fun _=>j2 pv h L _ d1 p1 p2 L0 L1 (by omega) r1⟩;rw[ZnC];refine ZnI (ZEq (D:=d1) (by omega) h2 (by omega)) ?_;intro d2 r2;rw[ZnE,ZnE,ZnE,show (b:Int) - 1 - ((pv:Int) - (a:Int))=((b - 1 - (pv - a):Nat):Int) by omega];exact⟨ZnH (by omega),ZnH (by omega),ZnH (by omega),j2 _ 1 L _ d2 (by omega) (by omega) L0 L1 (by omega) (r1.trans r2)⟩
   rw[Zn3];refine⟨fun _=> ?_,fun _=>j1 lim d h4 h5 (.refl _ _ _)⟩;rw[ZnC];refine ZnI (ZGc (D:=d) (by omega) (a:=a) (b:=b) (by omega) (by omega)) ?_;intro d1 r1;rw[ZnE];exact⟨ZnH (by omega),j1 (lim - 1) d1 (by omega) (by omega) r1⟩
  ·rintro _ ⟨d,rfl,r1,r2⟩;dsimp only;rw[ZnB];exact⟨r1,r2⟩
end Go.Proofs
namespace Go.Proofs
open Go Eng
theorem lens:((List.range 201).all fun n:Nat=>match ZxX (IntKind.wrap .u64 (n:Int))with |some m=>decide (0≤m∧m≤1000) |none=>false)=true:=by kernel_rfl
theorem ZFH {D:List En1} [Gds D] (hl:D.length≤200):wp (Zol D) (fun r=>r.Perm D∧r.Pairwise Le):=by have h2:=ZLO.1 lens D.length (List.mem_range.2 (by omega));split at h2;rotate_left;simp at h2;rename_i m hm;obtain⟨h3,h4⟩:=of_decide_eq_true h2;have key:=ZIK big (D:=D) hl (a0:=0) (b0:=D.length) (ZMa _) (ZL9 _) (by rw[big_eq];omega) (.inl rfl) h3 h4;unfold Zol Zqp;rw[hm,ZMb,ZnC,ZnC];refine ZnI key ?_;rintro r ⟨hr,hs⟩;rw[ZnB,ZnE,ZnB];refine⟨by rw[hr.len];simp,hr.1,List.pairwise_iff_getElem.2 fun i j hi hj hij=> ?_⟩;have:=hr.len;exact hs i j _ _ (ZMa _) hij (by omega) (ZLV hi) (ZLV hj)
end Go.Proofs
namespace Go.Proofs
open Go Eng
theorem ZCb {σ τ X:Type} {f:Nat→σ→Option X} {body:(σ→Option X)→σ→Option X} (hf:∀n s,f (n+1) s=body (f n) s)
  (st:τ→σ) (P:τ→Prop) (m:τ→Nat) {Q:X→Prop} (t0:τ) (h0:P t0) (hm:m t0≤9223372036854775808)
  (step:∀(rec:σ→Option X) t,P t→(∀t',P t'→m t' < m t→wp (rec (st t')) Q)→wp (body rec (st t)) Q):wp (f big (st t0)) Q:=by
 have key:∀(n:Nat) t,P t→m t < n→wp (f n (st t)) Q:=by
  intro n
  induction n with
  |zero=>intro t _ h;omega
  |succ n ih=>
   intro t hP hm;rw[hf];exact step _ t hP fun t' h' hlt=>ih t' h' (by omega)
 exact key big t0 h0 (by rw[big_eq];omega)
def isD (b:UInt8):Bool:=decide (48≤b.toNat)&&decide (b.toNat≤57)
def ZCZ:Str→Bool×Str
 | []=>(false,[])
 |b::r=>bif b == 45 then (true,r)else bif b == 43 then (false,r)else (false,b::r)
def okD (s:Str) (m:Nat):Bool:=decide (1≤s.length)&&decide (s.length≤m)&&s.all isD
def ZAs (body:Str):Option (Str×Str):=
 bif decide (1≤(body.takeWhile isD).length)&&decide ((body.takeWhile isD).length≤15)then
  (match body.dropWhile isD with
  | []=>some (body.takeWhile isD,[])
  |c::p=>bif c == 46&&okD p 9 then some (body.takeWhile isD,p)else none)
 else none
def ZAI (t:Str):Option (Bool×Str×Str):=(ZAs (ZCZ t).2).map fun x=>((ZCZ t).1,x.1,x.2)
def n46 (b:UInt8):Bool:=b != 46
theorem ZB8 {p:UInt8→Bool}:∀(F R:Str),F.all p=true→(∀b r,R=b::r→p b=false)→(F++R).takeWhile p=F∧(F++R).dropWhile p=R
 | [],[],_,_=>⟨rfl,rfl⟩
 | [],b::r,_,h=>by have:=h b r rfl;simp[List.takeWhile,List.dropWhile,this]
 |x::F,R,h,hR=>by rw[ZLN,ZII]at h;obtain⟨h1,h2⟩:=ZB8 F R h.2 hR;rw[List.cons_append,List.takeWhile_cons,ZLQ,h.1,if_pos rfl,if_pos rfl,h1,h2];exact⟨rfl,rfl⟩
theorem ZGl (p:UInt8→Bool):∀l:Str,(l.takeWhile p).all p=true
 | []=>rfl
 |x::l=>by
  rw[List.takeWhile_cons];cases h:p x with
  |true=>simp only[if_true,ZLN,h,ZLL];exact ZGl p l
  |false=>rfl
theorem ZDa (p:UInt8→Bool):∀(l:Str) b r,l.dropWhile p=b::r→p b=false
 | [],b,r,h=>by simp at h
 |x::l,b,r,h=>by
  rw[ZLQ]at h;cases hx:p x with
  |true=>rw[hx,if_pos rfl]at h;exact ZDa p l b r h
  |false=>rw[hx,if_neg (by simp)]at h;simp only[ZLP]at h;rw[←h.1];exact hx
theorem ZHs {b:UInt8} (h:isD b=true):n46 b=true:=by unfold n46;rw[bne_iff_ne];rintro rfl;exact absurd h (by decide)
theorem ZHN {l:Str} (h:l.all isD=true):l.all n46=true:=ZLO.2 fun b hb=>ZHs (ZLO.1 h b hb)
theorem ZCk {b:UInt8} (h:n46 b=false):b=46:=by unfold n46 at h;simpa using h
theorem ZBH (body:Str):ZAs body=bif okD (body.takeWhile n46) 15&&((body.dropWhile n46).isEmpty||okD (body.dropWhile n46).tail 9)then some (body.takeWhile n46,(body.dropWhile n46).tail)else none:=by
 have hsp:body.takeWhile n46++body.dropWhile n46=body:=ZL5;cases hall:(body.takeWhile n46).all isD with
 |true=>
  have hs:=ZB8 (p:=isD) (body.takeWhile n46) (body.dropWhile n46) hall (fun b r e=>by rw[ZCk (ZDa n46 body b r e)];decide)
  rw[hsp]at hs;unfold ZAs;rw[hs.1,hs.2];have e:okD (body.takeWhile n46) 15=(decide (1≤(body.takeWhile n46).length)&&decide ((body.takeWhile n46).length≤15)):=by unfold okD;rw[hall,Bool.and_true]
  rw[e];cases (decide (1≤(body.takeWhile n46).length)&&decide ((body.takeWhile n46).length≤15))with
  |false=>rfl
  |true=>
   rw[cond_true,ZLL];cases hR:body.dropWhile n46 with
   |nil=>rfl
   |cons c p=>
    rw[ZCk (ZDa n46 body c p hR)];rfl
 |false=>
  have e:okD (body.takeWhile n46) 15=false:=by unfold okD;rw[hall,Bool.and_false]
  rw[e,ZLI,cond_false];have hsp2:body.takeWhile isD++body.dropWhile isD=body:=ZL5;have hD:=ZGl isD body;unfold ZAs;cases (decide (1≤(body.takeWhile isD).length)&&decide ((body.takeWhile isD).length≤15))with
  |false=>rfl
  |true=>
   rw[cond_true];have key:(∀b r,body.dropWhile isD=b::r→b=46)→False:=fun h46=>by have hs:=ZB8 (p:=n46) (body.takeWhile isD) (body.dropWhile isD) (ZHN hD) (fun b r e=>by rw[h46 b r e];decide);rw[hsp2]at hs;rw[hs.1,hD]at hall;cases hall
   cases hR:body.dropWhile isD with
   |nil=>exact(key fun b r e=>by rw[hR]at e;cases e).elim
   |cons c p=>
    dsimp only;cases hc:c == 46 with
    |false=>rfl
    |true=>exact(key fun b r e=>by rw[hR]at e;simp only[ZLP]at e;rw[←e.1];exact eq_of_beq hc).elim
def ZA5 (l:Str):Nat:=l.foldl (fun n b=>10*n+(b.toNat - 48)) 0
theorem ZDr (l:Str) (b:UInt8):ZA5 (l++[b])=10*ZA5 l+(b.toNat - 48):=by unfold ZA5;rw[List.foldl_append];rfl
theorem ZHi {l:Str} (h:l.all isD=true):ZA5 l < 10 ^ l.length:=by
 have key:∀(l:Str) (n k:Nat),l.all isD=true→n < 10 ^ k→l.foldl (fun n b=>10*n+(b.toNat - 48)) n < 10 ^ (k+l.length):=by
  intro l
  induction l with
  |nil=>intro n k _ h;exact h
  |cons b l ih=>
   intro n k hb hn;rw[ZLN,ZII]at hb;have hd:=hb.1;unfold isD at hd;simp only[ZII,decide_eq_true_eq]at hd;have:=ih (10*n+(b.toNat - 48)) (k+1) hb.2 (by rw[Nat.pow_succ];omega);rw[List.foldl_cons,ZL0]
   rwa [show k+1+l.length=k+(l.length+1) by omega]at this
 have:=key l 0 0 h (by decide)
 rwa [Nat.zero_add]at this
def ZHE (x:Bool×Str×Str):Rat:=Rat.divInt (if x.1 then -((ZA5 (x.2.1++x.2.2):Nat):Int)else ((ZA5 (x.2.1++x.2.2):Nat):Int)) ((10 ^ x.2.2.length:Nat):Int)
structure ZCB (D P:Str):Prop where
 d1:1≤D.length
 d2:D.length≤15
 p:P.length≤9
 dd:D.all isD=true
 pp:P.all isD=true
theorem Zzx {body D P:Str} (h:ZAs body=some (D,P)):ZCB D P:=by
 rw[ZBH]at h;cases hc:(okD (body.takeWhile n46) 15&&((body.dropWhile n46).isEmpty||okD (body.dropWhile n46).tail 9))with
 |false=>rw[hc,cond_false]at h;cases h
 |true=>
  rw[hc,cond_true]at h;simp only[Option.some.injEq,Prod.mk.injEq]at h;obtain⟨rfl,rfl⟩:=h;rw[ZII]at hc;obtain⟨h1,h2⟩:=hc;unfold okD at h1;simp only[ZII,decide_eq_true_eq]at h1;cases hR:body.dropWhile n46 with
  |nil=>exact⟨h1.1.1,h1.1.2,by simp,h1.2,by simp⟩
  |cons c p=>
   rw[hR]at h2;simp only[List.isEmpty_cons,Bool.false_or,List.tail_cons]at h2⊢
   unfold okD at h2;simp only[ZII,decide_eq_true_eq]at h2;exact⟨h1.1.1,h1.1.2,h2.1.2,h1.2,h2.2⟩
theorem ZBn {k:Nat} (h:k≤24):10 ^ k < 2 ^ 80:=Nat.lt_of_le_of_lt (Nat.pow_le_pow_right (by decide) h) (by decide)
theorem ZBc {l:Str} (h:l.all isD=true) (hl:l.length≤24):ZA5 l < 2 ^ 80:=Nat.lt_trans (ZHi h) (ZBn hl)
theorem ZGj {n:Nat} (h:n < 2 ^ 80):(wd n).length≤3:=ZBt h 3 (by decide)
end Go.Proofs
namespace Go.Proofs
open Go Eng
theorem ZB4 (s:Str) (c:UInt8):ZoY s [c]=some (match s with |b::_=>b == c | []=>false):=by
 unfold ZoY Zqq;cases s with
 |nil=>rfl
 |cons b r=>
  rw[decide_eq_true (show ((b::r).length:Int)≥(([c]:Str).length:Int) by simp only[ZL0,ZL2];omega),cond_true,Zsz (by simp only[ZL0,ZL2];omega),chk_true];simp
theorem ZDx (s:Str) (c:UInt8):Zvb s [c]=some (match s with |b::r=>bif b == c then (r,true)else (b::r,false) | []=>([],false)):=by
 unfold Zvb Zq5;rw[ZB4];cases s with
 |nil=>rfl
 |cons b r=>
  rw[ZMb];dsimp only;cases hb:b == c with
  |false=>rfl
  |true=>
   rw[ZLK,cond_false,Zsz (by simp only[ZL0,ZL2];omega),chk_true];rfl
theorem ZBC (s:Str) (c:UInt8):ZuC s [c]=some (match s with |b::r=>bif b == c then r else b::r | []=>[]):=by
 unfold ZuC ZqU;rw[ZB4];cases s with
 |nil=>rfl
 |cons b r=>
  rw[ZMb];dsimp only;cases hb:b == c with
  |false=>rfl
  |true=>
   rw[cond_true,Zsz (by simp only[ZL0,ZL2];omega),chk_true];rfl
theorem ZE7:∀s:Str,Lib.indexByte s 46=if s.dropWhile n46=[]then -1 else ((s.takeWhile n46).length:Int)
 | []=>rfl
 |b::s=>by
  rw[Lib.indexByte,ZE7 s,ZLQ,List.takeWhile_cons];cases h:n46 b with
  |false=>
   rw[ZCk h];simp
  |true=>
   have hb:(b == 46)=false:=by unfold n46 at h;simpa using h
   simp only[hb,Bool.false_eq_true,if_false,if_true]
   by_cases hd:s.dropWhile n46=[]
   ·simp[hd]
   ·simp only[hd,if_false];rw[if_neg (by simp),ZL0];omega
theorem ZjU {s:Str} (hl:s.length≤9223372036854775807):Zyg s [46]=some (s.takeWhile n46,(s.dropWhile n46).tail, !(s.dropWhile n46).isEmpty):=by
 have hsp:s.takeWhile n46++s.dropWhile n46=s:=ZL5;have hidx:ZqV s [46]=some (Lib.indexByte s 46):=by
  unfold ZqV Zrj Zq4;rw[show ((([46]:Str).length:Int) == 0)=false from rfl,cond_false]
  by_cases h:([46]:Str)=s
  ·subst h;rfl
  ·rw[show (([46]:Str) == s)=false by simpa using h,cond_false];rfl
 unfold Zyg Ztt;rw[hidx,ZMb,ZE7];cases hR:s.dropWhile n46 with
 |nil=>
  rw[hR,List.append_nil]at hsp;rw[if_pos rfl,show decide ((-1:Int)≥0)=false from rfl,cond_false,ZMb,hsp];rfl
 |cons c p=>
  have hlen:(s.takeWhile n46).length+(p.length+1)=s.length:=by have:=congrArg List.length hsp;rw[ZLZ,hR,ZL0]at this;exact this
  rw[if_neg (by simp),decide_eq_true (show ((s.takeWhile n46).length:Int)≥0 by omega),cond_true,Zsz (by omega),ZnH (by simp only[ZL0,ZL2];omega),Zsz (by simp only[ZL0,ZL2];omega)];simp only[chk_true,ZMb];have e1:s.take ((((s.takeWhile n46).length:Nat):Int)).toNat=s.takeWhile n46:=by
   rw[ZLM]
   conv=>lhs;rw[←hsp]
   rw[List.take_left' (by rw[hsp])]
  have e2:s.drop ((((s.takeWhile n46).length:Nat):Int)+(([46]:Str).length:Int)).toNat=p:=by
   rw[show ((((s.takeWhile n46).length:Nat):Int)+(([46]:Str).length:Int)).toNat=(s.takeWhile n46).length+1 by simp only[ZL0,ZL2];omega]
   conv=>lhs;rw[←hsp,hR]
   rw[show (s.takeWhile n46++c::p).takeWhile n46=s.takeWhile n46 by rw[←hR,hsp]];rw[←List.drop_drop,List.drop_left' rfl];rfl
  rw[e1,e2];rfl
theorem dset:((List.range 256).all fun n=>([48,49,50,51,52,53,54,55,56,57]:Str).contains n.toUInt8 == isD n.toUInt8)=true:=by decide+kernel
theorem ZHB (b:UInt8):([48,49,50,51,52,53,54,55,56,57]:Str).contains b=isD b:=by have:=ZLO.1 dset b.toNat (List.mem_range.2 b.toNat_lt);rw[show b.toNat.toUInt8=b from UInt8.ofNat_toNat]at this;exact eq_of_beq this
theorem Zyl {p:UInt8→Bool}:∀l:Str,l.dropWhile p=[]↔l.all p=true
 | []=>by simp
 |b::l=>by
  rw[ZLQ,ZLN];cases h:p b with
  |true=>rw[if_pos rfl,ZLL];exact Zyl l
  |false=>simp
theorem ZFB (s cs:Str):(Lib.trimS s cs == [])=s.all (cs.contains ·):=by
 rw[Bool.eq_iff_iff,beq_iff_eq];unfold Lib.trimS Lib.trimLeftS Lib.trimRightS;rw[Zyl];constructor
 ·intro h;have h1:(s.reverse.dropWhile (cs.contains ·)).all (cs.contains ·)=true:=by rw[←List.all_reverse];exact h
  have h2:s.reverse.dropWhile (cs.contains ·)=[]:=by
   cases he:s.reverse.dropWhile (cs.contains ·)with
   |nil=>rfl
   |cons b r=>
    have h3:=ZDa (cs.contains ·) _ b r he;rw[he,ZLN,h3]at h1;cases h1
  rw[Zyl,List.all_reverse]at h2;exact h2
 ·intro h;have h2:s.reverse.dropWhile (cs.contains ·)=[]:=by rw[Zyl,List.all_reverse];exact h
  rw[h2];rfl
theorem ZDw (s:Str) (m:Nat):ZuZ s (m:Int)=some (okD s m):=by
 unfold ZuZ ZuF okD ZyF
 by_cases h1:1≤s.length
 ·rw[decide_eq_true (show (s.length:Int)≥1 by omega),cond_true,decide_eq_true h1]
  by_cases h2:s.length≤m
  ·rw[decide_eq_true (show (s.length:Int)≤(m:Int) by omega),cond_true,decide_eq_true h2];rw[show (([48,49,50,51,52,53,54,55,56,57]:Str).all fun b=>decide (b.toNat < 128))=true from by decide,chk_true,show decide (([48,49,50,51,52,53,54,55,56,57]:Str).length < 4294967281)=true from by decide,chk_true,ZMb,ZFB];rw[show (fun b:UInt8=>([48,49,50,51,52,53,54,55,56,57]:Str).contains b)=isD from funext ZHB];rfl
  ·rw[decide_eq_false (show ¬(s.length:Int)≤(m:Int) by omega),cond_false,decide_eq_false h2];rfl
 ·rw[decide_eq_false (show ¬(s.length:Int)≥1 by omega),cond_false,decide_eq_false h1];rfl
def zf:ZnA:=ZnA.mk (ZnD.mk false []) (ZnD.mk false [])
theorem ZIB:([10]:List Int)=iL (wd 10):=by kernel_rfl
theorem ZHh:([1]:List Int)=iL (wd 1):=by kernel_rfl
theorem ZHj:([]:List Int)=iL (wd 0):=by kernel_rfl
theorem ZED {b:UInt8} (h:isD b=true):IntKind.wrap .u64 (IntKind.wrap .u8 (((b.toNat:Nat):Int) - 48))=((b.toNat - 48:Nat):Int):=by unfold isD at h;simp only[ZII,decide_eq_true_eq]at h;rw[wrap_u8 (by omega),wrap_u64 (by omega)];omega
theorem ZGy {neg:Bool} {D P:Str} (h:ZCB D P):Zso neg D P false false false [] []=some (fOf (ZHE (neg,D,P)),true):=by
 have hd1:=h.d2;have hp1:=h.p;have hall:(D++P).all isD=true:=by rw[List.all_append,h.dd,h.pp];rfl
 have hlen:(D++P).length≤24:=by rw[ZLZ];omega
 refine Zq6 ?_;unfold Zso;rw[cond_false,ZHh,ZEl _ (by have:=ZGj (n:=1) (by decide);omega),ZMb,ZnE,ZnE,ZnC,ZIB,ZHj];refine⟨decide_eq_true (by unfold Zq;omega),decide_eq_true (by omega), ?_⟩;refine ZnI (Zuj ZAG (D++P).length (by omega) (fun i (n:Nat)=>(neg,P,iL (wd n),iL (wd 10),(((D++P).map fun b:UInt8=>((b.toNat:Nat):Int)).length:Int),i,false,false,iL (wd 1),(D++P).map (fun b:UInt8=>((b.toNat:Nat):Int)),iL (wd 0),iL (wd 0))) (fun i n=>n=ZA5 ((D++P).take i))
  (Q:=fun x=>x=(neg,P,iL (wd (ZA5 (D++P))),iL (wd 10),false,false,iL (wd 1),iL (wd 0),iL (wd 0))) 0 (by rfl) ?_ ?_) ?_
 ·rintro rec i n hi rfl ih;unfold Zxf ZuW;dsimp only;have hb:isD (D++P)[i]=true:=ZLO.1 hall _ (ZLY hi);have hn:ZA5 ((D++P).take i) < 2 ^ 80:=ZBc (ZLO.2 fun b hb=>ZLO.1 hall b (List.mem_of_mem_take hb)) (by rw[ZL4];omega);have hn2:ZA5 ((D++P).take (i+1))=ZA5 ((D++P).take i)*10+((D++P)[i].toNat - 48):=by rw[ZL8 hi,ZDr,Nat.mul_comm]
  have hlm:i < ((D++P).map fun b:UInt8=>((b.toNat:Nat):Int)).length:=by rw[ZL1];exact hi
  have hb':=hb;unfold isD at hb';simp only[ZII,decide_eq_true_eq]at hb';have w1:=ZGj hn;have w10:=ZGj (n:=10) (by decide);have w2:(wd (ZA5 ((D++P).take i)*10)).length≤100:=ZBt (k:=84) (by omega) 100 (by decide);have w3:=ZGj (n:=(D++P)[i].toNat - 48) (by omega);rw[decide_eq_true (show (i:Int) < (((D++P).map fun b:UInt8=>((b.toNat:Nat):Int)).length:Int) by rw[ZL1];omega),cond_true,Zot hlm,chk_true,ZLM,ZLV hlm,ZMb,List.getElem_map,ZCW _ _ (by omega) (by omega),ZMb,ZED hb,ZBU _ (by omega),ZMb,
   ZEU _ _ (by omega) (by omega),ZMb,ZnE]
  refine⟨ZnH (by omega), ?_⟩;have:=ih (ZA5 ((D++P).take i)*10+((D++P)[i].toNat - 48)) hn2.symm;exact this
 ·rintro rec n rfl;unfold Zxf ZuW;dsimp only;rw[decide_eq_false (by rw[ZL1];omega),cond_false,ZnB,ZL7]
 ·rintro x rfl;dsimp only;unfold Zx9;rw[ZnC];refine ZnI (Zuj ZAF P.length (by omega) (fun i (k:Nat)=>(neg,iL (wd (ZA5 (D++P))),iL (wd 10),iL (wd (10 ^ k)),(P.length:Int),i,false,false,iL (wd 0),iL (wd 0))) (fun i k=>k=i)
   (Q:=fun x=>x=(neg,iL (wd (ZA5 (D++P))),iL (wd (10 ^ P.length)),false,false,iL (wd 0),iL (wd 0))) 0 (by rfl) ?_ ?_) ?_
  ·rintro rec i k hi rfl ih;unfold Zxe ZuV;dsimp only;have w1:=ZGj (ZBn (show k≤24 by omega));have w10:=ZGj (n:=10) (by decide);rw[decide_eq_true (show (k:Int) < (P.length:Int) by omega),cond_true,ZCW _ _ (by omega) (by omega),ZMb,ZnE,←Nat.pow_succ];exact⟨ZnH (by omega),ih (k+1) rfl⟩
  ·rintro rec k rfl;unfold Zxe ZuV;dsimp only;rw[decide_eq_false (by omega),cond_false,ZnB]
  ·rintro x rfl;dsimp only;unfold Zx8;have hnum:=ZBc hall hlen;have hpw:=ZBn (show P.length≤24 by omega);have w1:=ZGj hnum;have w2:=ZGj hpw;rw[Zxi _ _ (by omega),ZMb,Zxi _ _ (by omega),ZMb];have hne:((10 ^ P.length:Nat):Int)≠0:=by have:=Nat.pow_pos (n:=P.length) (show 0 < 10 by decide);omega
   have:=ZBP (if neg=true then -((ZA5 (D++P):Nat):Int)else ((ZA5 (D++P):Nat):Int)) ((10 ^ P.length:Nat):Int) hne (by
    show (wd _).length≤50000;have e:(if neg=true then -((ZA5 (D++P):Nat):Int)else ((ZA5 (D++P):Nat):Int)).natAbs=ZA5 (D++P):=by split<;>omega
    rw[e];omega) (by show (wd _).length≤50000;rw[Int.natAbs_natCast];omega)
   simp only[Bool.false_eq_true,if_false];rw[this,ZMb,ZnB];rfl
theorem ZCQ {t:Str} (hl:t.length≤9223372036854775807):Zs9 t=some (match ZAI t with |some x=>(fOf (ZHE x),true) |none=>(zf,false)):=by
 have key:∀(body:Str) (neg:Bool),body.length≤9223372036854775807→Zui body neg false false [] []=some (match (ZAs body).map fun x=>(neg,x.1,x.2)with |some x=>(fOf (ZHE x),true) |none=>(zf,false)):=by
  intro body neg hb;unfold Zui;rw[ZjU hb,ZMb];dsimp only;rw[show (15:Int)=((15:Nat):Int)from rfl,ZDw,ZMb,show (9:Int)=((9:Nat):Int)from rfl];have hpc:=ZBH body;cases h1:okD (body.takeWhile n46) 15 with
  |false=>
   rw[h1,ZLI,cond_false]at hpc;rw[hpc,ZLJ,cond_true];rfl
  |true=>
   rw[h1,ZLL]at hpc;rw[ZLK,cond_false];cases h2:(body.dropWhile n46).isEmpty with
   |true=>
    rw[h2,Bool.true_or,cond_true]at hpc;rw[ZLK,cond_false,ZGy (Zzx hpc),hpc];rfl
   |false=>
    rw[h2,Bool.false_or]at hpc;rw[ZLJ,cond_true,ZDw,ZMb];cases h3:okD (body.dropWhile n46).tail 9 with
    |false=>
     rw[h3,cond_false]at hpc;rw[hpc];rfl
    |true=>
     rw[h3,cond_true]at hpc;rw[ZLK,ZGy (Zzx hpc),hpc];rfl
 unfold Zs9 ZAI ZCZ;rw[ZDx,ZMb];cases t with
 |nil=>
  dsimp only;rw[ZLJ,cond_true,ZBC,ZMb];dsimp only;rw[key [] false hl]
 |cons b r=>
  dsimp only;simp only[ZL0]at hl;cases h1:b == 45 with
  |true=>
   rw[cond_true,cond_true];dsimp only;rw[ZLK,cond_false,key r true (by omega)]
  |false=>
   rw[cond_false,cond_false];dsimp only;rw[ZLJ,cond_true,ZBC,ZMb];dsimp only;cases h2:b == 43 with
   |true=>rw[cond_true,cond_true];dsimp only;rw[key r false (by omega)]
   |false=>rw[cond_false,cond_false];dsimp only;rw[key (b::r) false (by simp only[ZL0];omega)]
end Go.Proofs
namespace Go.Proofs
open Go Eng
theorem ZB1 (b:UInt8) (k:UInt8):(((b.toNat:Nat):Int) == ((k.toNat:Nat):Int))=(b == k):=by
 rw[Bool.eq_iff_iff,beq_iff_eq,beq_iff_eq];constructor
 ·intro h;exact UInt8.toNat_inj.1 (by omega)
 ·rintro rfl;rfl
theorem ZGw (b:UInt8):(decide (((b.toNat:Nat):Int)≥48)&&decide (((b.toNat:Nat):Int)≤57))=isD b:=by
 unfold isD;congr 1
 ·rw[decide_eq_decide];omega
 ·rw[decide_eq_decide];omega
theorem ZG1 (p:UInt8→Bool) (l:Str):l.take (l.takeWhile p).length=l.takeWhile p:=by
 conv=>lhs;arg 2;rw[←ZL5 (p:=p) (l:=l)]
 rw[List.take_left' rfl]
theorem ZEM (p:UInt8→Bool) (l:Str):l.drop (l.takeWhile p).length=l.dropWhile p:=by
 conv=>lhs;arg 2;rw[←ZL5 (p:=p) (l:=l)]
 rw[List.drop_left' rfl]
theorem ZIz {p:UInt8→Bool} {l:Str} {k:Nat} (h:∀j (hj:j < l.length),j < k→p l[j]=true) (hk:k≤l.length) (h2:∀hk:k < l.length,p l[k]=false):(l.takeWhile p).length=k:=by
 have hs:=ZB8 (p:=p) (l.take k) (l.drop k) (ZLO.2 fun b hb=>by
  obtain⟨j,hj,rfl⟩:=List.getElem_of_mem hb;rw[ZL4]at hj;rw[List.getElem_take];exact h j (by omega) (by omega)) (fun b r e=>by
  have hlt:k < l.length:=by have:=congrArg List.length e;rw[List.length_drop,ZL0]at this;omega
  rw[ZLR hlt]at e;simp only[ZLP]at e;rw[←e.1];exact h2 hlt)
 rw[ZL6]at hs;rw[hs.1,ZL4];omega
theorem ZFO {neg:Bool} {D p:Str} (hl:p.length≤9):Zop neg D p false=some (bif p.all isD then (neg,D,p,true)else (false,[],[],false)):=by
 unfold Zop;rw[cond_false];have key:wp (Zp6 big neg D p 0) (fun x=>x=bif p.all isD then .brk (neg,D,p)else .ret (false,[],[],false)):=by
  refine ZAV Zzp p (by omega) (fun i (_:Unit)=>(neg,D,p,i)) (fun k _=>(p.take k).all isD=true) () (by simp) ?_ ?_
  ·rintro rec k _ hk ha ih;unfold Zuq Zr7 ZsL;dsimp only;rw[decide_eq_true (show (k:Int) < (p.length:Int) by omega),cond_true,ZuA hk,ZMb];have hs:(p.take (k+1)).all isD=isD p[k]:=by rw[ZL8 hk,List.all_append,ha];simp
   have hno:isD p[k]=false→p.all isD=false:=fun h=>by rw[Bool.eq_false_iff];intro h2;rw[ZLO.1 h2 _ (ZLY hk)]at h;cases h
   have hd:=ZGw p[k]
   by_cases h1:((p[k].toNat:Nat):Int) < 48
   ·rw[decide_eq_true h1,cond_true,cond_true,ZnB,hno (by rw[←hd,decide_eq_false (by omega)];rfl),cond_false]
   ·rw[decide_eq_false h1,cond_false,ZMb]
    by_cases h2:((p[k].toNat:Nat):Int) > 57
    ·rw[decide_eq_true h2,cond_true,ZnB,hno (by rw[←hd,decide_eq_true (by omega),decide_eq_false (by omega)];rfl),cond_false]
    ·rw[decide_eq_false h2,cond_false,ZnE];exact⟨ZnH (by omega),ih () (by rw[hs,←hd,decide_eq_true (by omega),decide_eq_true (by omega)];rfl)⟩
  ·rintro rec _ ha;unfold Zuq Zr7;dsimp only;rw[ZL7]at ha;rw[decide_eq_false (show ¬(p.length:Int) < (p.length:Int) by omega),cond_false,ZnB,ha,cond_true]
 obtain⟨x,hx,rfl⟩:=key;rw[hx,ZMb];cases p.all isD<;>rfl
theorem ZFP {s:Str} (neg:Bool) (hl:s.length≤9223372036854775807):ZoD s neg=some (match ZAs s with |some x=>(neg,x.1,x.2,true) |none=>(false,[],[],false)):=by
 refine Zq6 ?_;unfold ZoD;rw[ZnC];refine ZnI (ZCb Zzq (fun(k:Nat)=>(s,neg,(k:Int))) (fun k=>k≤s.length∧∀j (hj:j < s.length),j < k→isD s[j]=true) (fun k=>s.length - k)
  (Q:=fun x=>x=(s,neg,(((s.takeWhile isD).length:Nat):Int))) 0 ⟨ZMa _,fun j _ h=>absurd h (Nat.not_lt_zero _)⟩ (by omega) ?_) ?_
 ·rintro rec k ⟨hk,ha⟩ ih;unfold Zxm Zur Zrb;dsimp only;have stop:(∀h:k < s.length,isD s[k]=false)→wp (some (s,neg,(k:Int))) (fun x=>x=(s,neg,(((s.takeWhile isD).length:Nat):Int))):=fun h=>by rw[ZnB,ZIz ha hk h]
  rw[Zn3];refine⟨fun h=> ?_,fun h=> ?_⟩
  ·simp only[decide_eq_true_eq]at h;have hk':k < s.length:=by omega
   have hd:=ZGw s[k];rw[ZuA hk',ZMb];have go:isD s[k]=true→wp (chk (inK .i64 ((k:Int)+1)) <| rec (s,neg,(k:Int)+1)) (fun x=>x=(s,neg,(((s.takeWhile isD).length:Nat):Int))):=fun hdk=>by
    rw[ZnE];refine⟨ZnH (by omega),ih (k+1) ⟨by omega,fun j hj hjk=> ?_⟩ (by omega)⟩;rcases Nat.lt_or_ge j k with h1 |h1
    ·exact ha j hj h1
    ·obtain rfl:j=k:=by omega
     exact hdk
   cases h1:decide (((s[k].toNat:Nat):Int)≥48)with
   |false=>
    rw[cond_false,cond_false];exact stop fun _=>by rw[←hd,h1];rfl
   |true=>
    rw[cond_true,ZMb];cases h2:decide (((s[k].toNat:Nat):Int)≤57)with
    |false=>
     rw[cond_false];exact stop fun _=>by rw[←hd,h1,h2];rfl
    |true=>
     rw[cond_true];exact go (by rw[←hd,h1,h2];rfl)
  ·simp only[decide_eq_false_iff_not]at h;rw[cond_false];exact stop fun h'=>absurd h' (by omega)
 ·rintro x rfl;dsimp only;unfold Zva ZsM;have hle:(s.takeWhile isD).length≤s.length:=(List.takeWhile_sublist _).length_le;have hdl:(s.takeWhile isD).length+(s.dropWhile isD).length=s.length:=by rw[←ZLZ,ZL5]
  rw[ZnE,ZLM,ZG1];refine⟨Zsz (by omega), ?_⟩;unfold ZAs
  by_cases h1:1≤(s.takeWhile isD).length
  ·rw[decide_eq_false (show ¬(((s.takeWhile isD).length:Nat):Int) < 1 by omega),cond_false,decide_eq_true h1,ZLL]
   by_cases h2:(s.takeWhile isD).length≤15
   ·rw[decide_eq_false (show ¬(((s.takeWhile isD).length:Nat):Int) > 15 by omega),cond_false,decide_eq_true h2,cond_true];cases hR:s.dropWhile isD with
    |nil=>
     rw[hR]at hdl;simp only[ZL2]at hdl;rw[show ((((s.takeWhile isD).length:Nat):Int) == (s.length:Int))=true by rw[beq_iff_eq];omega,cond_true,ZnB]
    |cons c p=>
     rw[hR]at hdl;simp only[ZL0]at hdl;have hk':(s.takeWhile isD).length < s.length:=by omega
     have hgc:s[(s.takeWhile isD).length]=c:=by have h3:=ZEM isD s;rw[ZLR hk',hR]at h3;simp only[ZLP]at h3;exact h3.1
     have hdp:s.drop ((((s.takeWhile isD).length:Nat):Int)+1).toNat=p:=by rw[show ((((s.takeWhile isD).length:Nat):Int)+1).toNat=(s.takeWhile isD).length+1 by omega];have h3:=ZEM isD s;rw[ZLR hk',hR]at h3;simp only[ZLP]at h3;exact h3.2
     rw[show ((((s.takeWhile isD).length:Nat):Int) == (s.length:Int))=false by rw[beq_eq_false_iff_ne];omega,cond_false,ZnE,ZnE,ZuA hk',ZMb,hgc,hdp];refine⟨ZnH (by omega),Zsz (by omega), ?_⟩;dsimp only;have e46:(((c.toNat:Nat):Int) != 46)= !(c == 46):=by rw[←ZB1 c 46];rfl
     rw[e46];cases hc:c == 46 with
     |false=>
      rw[ZLJ,cond_true,ZLI,cond_false];unfold Zop;rw[cond_true,ZnB]
     |true=>
      rw[ZLK,cond_false,ZLL];unfold okD
      by_cases h3:1≤p.length
      ·rw[decide_eq_false (show ¬(p.length:Int) < 1 by omega),cond_false,decide_eq_true h3,ZLL]
       by_cases h4:p.length≤9
       ·rw[decide_eq_false (show ¬(p.length:Int) > 9 by omega),decide_eq_true h4,ZLL,ZFO h4,ZnB];cases p.all isD<;>rfl
       ·rw[decide_eq_true (show (p.length:Int) > 9 by omega),decide_eq_false h4,ZLI,cond_false];unfold Zop;rw[cond_true,ZnB]
      ·rw[decide_eq_true (show (p.length:Int) < 1 by omega),cond_true,decide_eq_false h3,ZLI,ZLI,cond_false];unfold Zop;rw[cond_true,ZnB]
   ·rw[decide_eq_true (show (((s.takeWhile isD).length:Nat):Int) > 15 by omega),cond_true,ZnB,decide_eq_false h2,cond_false]
  ·rw[decide_eq_true (show (((s.takeWhile isD).length:Nat):Int) < 1 by omega),cond_true,cond_true,ZnB,decide_eq_false h1,ZLI,cond_false]
theorem ZEg {t:Str} (hl:t.length≤9223372036854775807):Zq1 t=some (match ZAI t with |some x=>(x.1,x.2.1,x.2.2,true) |none=>(false,[],[],false)):=by
 have fin:∀(s:Str) (neg:Bool),s.length≤9223372036854775807→ZoD s neg=some (match (ZAs s).map fun x=>(neg,x.1,x.2)with |some x=>(x.1,x.2.1,x.2.2,true) |none=>(false,[],[],false)):=fun s neg h=>by rw[ZFP neg h];cases ZAs s<;>rfl
 unfold Zq1 Zrc ZAI ZCZ;cases t with
 |nil=>
  rw[show decide ((([]:Str).length:Int) > 0)=false from rfl,cond_false,cond_false,fin [] false hl]
 |cons b r=>
  simp only[ZL0]at hl;rw[decide_eq_true (show (((b::r).length:Nat):Int) > 0 by simp only[ZL0];omega),cond_true];have h0:idx (b::r) 0=some b:=rfl;have e43:(((b.toNat:Nat):Int) == 43)=(b == 43):=ZB1 b 43;have e45:(((b.toNat:Nat):Int) == 45)=(b == 45):=ZB1 b 45;rw[h0,ZMb,e43];dsimp only;have hw:Zb9 1 ((b::r).length:Int) ((b::r).length:Int)=true:=Zsz (by simp only[ZL0];omega);cases h1:b == 43 with
  |true=>
   have hb:b=43:=eq_of_beq h1;subst hb;rw[cond_true,cond_true,ZMb,hw,chk_true,e45];show ZoD r false=_;rw[fin r false (by omega)];rfl
  |false=>
   rw[cond_false,ZMb,e45];cases h2:b == 45 with
   |true=>
    rw[cond_true,ZMb,hw,chk_true,e45,h2];show ZoD r true=_;rw[fin r true (by omega)];rfl
   |false=>
    rw[cond_false];rw[fin (b::r) false (by simp only[ZL0];omega)];rfl
end Go.Proofs
namespace Go.Proofs
open Go Eng
theorem ZDW {b:UInt8} (h:isD b=true):IntKind.wrap .i64 (IntKind.wrap .u8 (((b.toNat:Nat):Int) - 48))=((b.toNat - 48:Nat):Int):=by unfold isD at h;simp only[ZII,decide_eq_true_eq]at h;rw[wrap_u8 (by omega),wrap_i64 (by omega)];omega
theorem wlN {n:Nat} (h:n < 2 ^ 90):Wl 50000 (n:Int):=by unfold Wl;rw[Int.natAbs_natCast];exact Nat.le_trans (ZBt h 3 (by decide)) (by decide)
theorem wl10:Wl 50000 10:=wlN (n:=10) (by decide)
theorem ZHJ:ZnD.mk false ([]:List Int)=bg ((0:Nat):Int):=by kernel_rfl
theorem ZHC {P:Str} (hp:P.all isD=true) {i:Nat} (hi:i < P.length):(Utf8.decode ⟨P.toArray⟩ i).2=1:=by
 have hs:i < (⟨P.toArray⟩:ByteArray).size:=by show i < P.toArray.size;simpa using hi
 have hb:=ZLO.1 hp _ (ZLY hi);unfold isD at hb;simp only[ZII,decide_eq_true_eq]at hb;rw[decode_ascii ⟨P.toArray⟩ i hs (by show (P.toArray[i]).toNat < 128;rw[List.getElem_toArray];omega)]
theorem ZC1 {t:Str} (hl:t.length≤9223372036854775807):Zrq t=some (match ZAI t with |some x=>(fOf (ZHE x),true) |none=>(zf,false)):=by
 unfold Zrq;rw[ZEg hl,ZMb];cases hp:ZAI t with
 |none=>rfl
 |some x=>
  obtain⟨neg,D,P⟩:=x;dsimp only;have h:ZCB D P:=by
   unfold ZAI at hp;cases hb:ZAs (ZCZ t).2 with
   |none=>rw[hb]at hp;cases hp
   |some y=>
    rw[hb]at hp;simp only[Option.map_some,Option.some.injEq,Prod.mk.injEq]at hp;obtain⟨_,h1,h2⟩:=hp;subst h1;subst h2;exact Zzx hb
  have hd1:=h.d2;have hp1:=h.p;have hall:(D++P).all isD=true:=by rw[List.all_append,h.dd,h.pp];rfl
  have hlen:(D++P).length≤24:=by rw[ZLZ];omega
  refine Zq6 ?_;rw[ZLK,cond_false,ZyO 1 (by decide) (by decide),ZMb,ZnE,ZnE,ZnC,ZHJ];refine⟨decide_eq_true (by unfold Zq;omega),decide_eq_true (by omega), ?_⟩;refine ZnI (Zuj Zza (D++P).length (by omega) (fun i (n:Nat)=>(neg,P,(((D++P).map fun b:UInt8=>((b.toNat:Nat):Int)).length:Int),i,false,false,bg (n:Int),bg 1,(D++P).map (fun b:UInt8=>((b.toNat:Nat):Int)),([]:List Int),([]:List Int))) (fun i n=>n=ZA5 ((D++P).take i))
   (Q:=fun x=>x=(neg,P,false,false,bg (ZA5 (D++P):Int),bg 1,([]:List Int),([]:List Int))) 0 (by rfl) ?_ ?_) ?_
  ·rintro rec i n hi rfl ih;unfold ZtP Zri;dsimp only;have hb:isD (D++P)[i]=true:=ZLO.1 hall _ (ZLY hi);have hn:ZA5 ((D++P).take i) < 2 ^ 80:=ZBc (ZLO.2 fun b hb=>ZLO.1 hall b (List.mem_of_mem_take hb)) (by rw[ZL4];omega);have hn2:ZA5 ((D++P).take (i+1))=ZA5 ((D++P).take i)*10+((D++P)[i].toNat - 48):=by rw[ZL8 hi,ZDr,Nat.mul_comm]
   have hlm:i < ((D++P).map fun b:UInt8=>((b.toNat:Nat):Int)).length:=by rw[ZL1];exact hi
   have hb':=hb;unfold isD at hb';simp only[ZII,decide_eq_true_eq]at hb';rw[decide_eq_true (show (i:Int) < (((D++P).map fun b:UInt8=>((b.toNat:Nat):Int)).length:Int) by rw[ZL1];omega),cond_true,Zot hlm,chk_true,ZLM,ZLV hlm,ZMb,List.getElem_map,
    ZyO 10 (by decide) (by decide),ZMb,Zz6 ((ZA5 ((D++P).take i):Nat):Int) 10 (wlN (by omega)) wl10,ZMb,ZDW hb,ZyO _ (by omega) (by omega),ZMb]
   have e1:((ZA5 ((D++P).take i):Nat):Int)*10=((ZA5 ((D++P).take i)*10:Nat):Int):=by omega
   rw[e1,ZC4 _ _ (wlN (by omega)) (wlN (by omega)),ZMb,ZnE];refine⟨ZnH (by omega), ?_⟩;have:=ih (ZA5 ((D++P).take i)*10+((D++P)[i].toNat - 48)) hn2.symm;have e2:((ZA5 ((D++P).take i)*10:Nat):Int)+(((D++P)[i].toNat - 48:Nat):Int)=((ZA5 ((D++P).take i)*10+((D++P)[i].toNat - 48):Nat):Int):=by omega
   rw[e2];exact this
  ·rintro rec n rfl;unfold ZtP Zri;dsimp only;rw[decide_eq_false (by rw[ZL1];omega),cond_false,ZnB,ZL7]
  ·rintro x rfl;dsimp only;unfold Zut;rw[ZnC];refine ZnI (Zpb Zy9 (fun(k:Nat)=>(neg,false,false,bg (ZA5 (D++P):Int),bg ((10 ^ k:Nat):Int),P,k,([]:List Int),([]:List Int))) (fun k=>k≤P.length) (fun k=>P.length - k)
    (Q:=fun x=>x=(neg,false,false,bg (ZA5 (D++P):Int),bg ((10 ^ P.length:Nat):Int),([]:List Int),([]:List Int))) 0 (ZMa _) (by omega) ?_) ?_
   ·rintro rec k hk ih;unfold ZwH ZtO Zsb;dsimp only
    by_cases hlt:k < P.length
    ·have hpw:=ZBn (show k≤24 by omega);rw[decide_eq_true hlt,cond_true,cond_true,ZyO 10 (by decide) (by decide),ZMb,Zz6 ((10 ^ k:Nat):Int) 10 (wlN (by omega)) wl10,ZMb,ZHC h.pp hlt];have:=ih (k+1) (by omega) (by omega);rw[Nat.pow_succ]at this;have e1:((10 ^ k:Nat):Int)*10=((10 ^ k*10:Nat):Int):=by omega
     rw[e1];exact this
    ·obtain rfl:k=P.length:=by omega
     rw[decide_eq_false hlt,cond_false,cond_false,ZnB]
   ·rintro x rfl;dsimp only;unfold Zus Zsa;have hnum:=ZBc hall hlen;have hpw:=ZBn (show P.length≤24 by omega);have hne:((10 ^ P.length:Nat):Int)≠0:=by have:=Nat.pow_pos (n:=P.length) (show 0 < 10 by decide);omega
    have hw1:Wl 50000 ((10 ^ P.length:Nat):Int):=wlN (by omega);have hw2:Wl 50000 (ZA5 (D++P):Int):=wlN (by omega);cases neg with
    |false=>
     rw[cond_false,ZBo _ _ hne hw2 hw1,ZMb,ZnB];rfl
    |true=>
     rw[cond_true,ZCl _ (Nat.le_trans hw2 (by decide)),ZMb,ZBo _ _ hne (by unfold Wl at hw2⊢;rw[Int.natAbs_neg];exact hw2) hw1,ZMb,ZnB];rfl
end Go.Proofs
