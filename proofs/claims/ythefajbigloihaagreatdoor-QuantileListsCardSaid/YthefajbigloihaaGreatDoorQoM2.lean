/- Plain laws over the specs, part 2. -/
import Derived.Test.YthefajbigloihaaGreatDoorQoM1
import Derived.Test.YthefajbigloihaaGreatDoorQoM0
set_option linter.unusedVariables false
set_option linter.unusedSimpArgs false
set_option linter.unusedSectionVars false
open Bool renaming not_true→ZOL, not_false→ZLj
open Int renaming toNat_natCast→ZOM
open List renaming getElem?_eq_getElem→ZOR, length_set→ZOW, length_append→ZOU, getElem?_eq_some_iff→ZOS, all_eq_true→ZON, getElem?_append_right→ZOP, getElem?_drop→ZOQ, take_append_drop→ZOZ, mem_range→ZOY, getElem?_take→ZOT, length_cons→ZOV, length_singleton→ZOX, getElem?_append_left→ZOO
open Nat renaming le_refl→ZO0, lt_or_eq_of_le→ZO1
open Option renaming some.inj→ZO2
namespace Go.Proofs
open Go Eng
def sw (d:List En1) (i j:Nat) (hi:i < d.length) (hj:j < d.length):List En1:=(d.set i d[j]).set j d[i]
theorem ZGG {d:List En1} {i j:Nat} (hi:i < d.length) (hj:j < d.length):(sw d i j hi hj).Perm d:=List.set_set_perm hi hj
theorem ZDu {d:List En1} {i j:Nat} (hi:i < d.length) (hj:j < d.length):(sw d i j hi hj).length=d.length:=by unfold sw;rw[ZOW,ZOW]
theorem ZAA {d:List En1} {i j:Nat} (hi:i < d.length) (hj:j < d.length) (k:Nat) (hk:k < d.length):(sw d i j hi hj)[k]? =if k=j then some d[i]else if k=i then some d[j]else d[k]? :=by
 unfold sw;rw[List.getElem?_set,List.getElem?_set,ZOW]
 by_cases h1:j=k
 ·rw[if_pos h1,if_pos (by omega),if_pos h1.symm]
 ·rw[if_neg h1]
  by_cases h2:i=k
  ·rw[if_pos h2,if_pos (by omega),if_neg (show ¬k=j by omega),if_pos h2.symm]
  ·rw[if_neg h2,if_neg (show ¬k=j by omega),if_neg (show ¬k=i by omega)]
def Rg (a b:Nat) (D d:List En1):Prop:=d.Perm D∧∀k,k < a∨b≤k→d[k]? =D[k]?
theorem Rg.refl (a b:Nat) (D:List En1):Rg a b D D:=⟨.refl _,fun _ _=>rfl⟩
theorem Rg.trans {a b:Nat} {D d e:List En1} (h1:Rg a b D d) (h2:Rg a b d e):Rg a b D e:=⟨h2.1.trans h1.1,fun k hk=>(h2.2 k hk).trans (h1.2 k hk)⟩
theorem Rg.mono {a b a' b':Nat} {D d:List En1} (h:Rg a b D d) (ha:a'≤a) (hb:b≤b'):Rg a' b' D d:=⟨h.1,fun k hk=>h.2 k (by omega)⟩
theorem Rg.len {a b:Nat} {D d:List En1} (h:Rg a b D d):d.length=D.length:=h.1.length_eq
theorem ZDt {d:List En1} {i j a b:Nat} (hi:i < d.length) (hj:j < d.length) (ai:a≤i) (ib:i < b) (aj:a≤j) (jb:j < b):Rg a b d (sw d i j hi hj):=by
 refine⟨ZGG hi hj,fun k hk=> ?_⟩
 by_cases h:k < d.length
 ·rw[ZAA hi hj k h,if_neg (by omega),if_neg (by omega)]
 ·rw[List.getElem?_eq_none (by rw[ZDu];omega),List.getElem?_eq_none (by omega)]
instance {d:List En1} [Gds d] {i j:Nat} {hi:i < d.length} {hj:j < d.length}:Gds (sw d i j hi hj):=Gds.perm (ZGG hi hj)
theorem Rg.gds {a b:Nat} {D d:List En1} [Gds D] (h:Rg a b D d):Gds d:=Gds.perm h.1
theorem ZGe {D:List En1} [Gds D] {a b:Nat} (hn:D.length≤1000000) (hab:a≤b) (hb:b≤D.length):
  wp (ZpK D (a:Int) (b:Int)) (fun d=>Rg a b D d):=by
 have Zd:wp (Zp9 D (a:Int) (b:Int)) (fun d=>Rg a b D d):=by
  unfold Zp9;rw[ZnH,ZnE];refine⟨ZnI (by omega),ZnM (ZoV Zyj (fun s:Nat×Int×List En1=>((s.1:Int),s.2.1,s.2.2)) (fun s=>a≤s.1∧s.2.1 < (b:Int)∧ -1≤s.2.1∧Rg a b D s.2.2) (fun s=>(s.2.1+1 - s.1).toNat)
   (Q:=fun d=>Rg a b D d) (a,(b:Int) - 1,D) ⟨ZO0 _,by dsimp only;omega,by dsimp only;omega,.refl _ _ _⟩ (by dsimp only;omega) ?_) ?_⟩
  ·rintro rec ⟨i,j,d⟩ ⟨h1,h2,h3,h4⟩ ih;dsimp only at h1 h2 h3 h4 ih;have hl:=h4.len;haveI:=h4.gds;unfold Zug ZqK;dsimp only
   by_cases hc:(i:Int) < j
   ·obtain⟨j,rfl⟩:=Int.eq_ofNat_of_zero_le (show 0≤j by omega);have hi:i < d.length:=by omega
    have hj:j < d.length:=by omega
    rw[decide_eq_true hc,cond_true,ZnH,ZOM,ZOM,ZOR hj,ZnE,ZnD,ZnH,ZOR hi,ZnE,ZnD,ZnH,ZnH,ZnH,ZnH];refine⟨Zoj hj,Zoj hi,Zoj hi,Zo3 ⟨by omega,by rw[ZOW];omega⟩,ZnI (by omega),ZnI (by omega), ?_⟩;have:=ih (i+1,(j:Int) - 1,sw d i j hi hj) ⟨by dsimp only;omega,by dsimp only;omega,by dsimp only;omega,h4.trans (ZDt hi hj (by omega) (by omega) (by omega) (by omega))⟩ (by dsimp only;omega);exact this
   ·rw[decide_eq_false hc,cond_false,ZnD];exact h4
  ·intro d hd;unfold Zrc;rw[ZnD];exact hd
 unfold ZpK;rw[ZnE];refine ZnM Zd fun d hd=> ?_
 rw[ZnH,ZnD];exact⟨by rw[hd.len];simp,hd⟩
end Go.Proofs
namespace Go.Proofs
open Go Eng
def Lo (a:Nat) (d:List En1) (p:En1) (i:Nat):Prop:=∀k x,a+1≤k→k < i→d[k]? =some x→ZAf x p < 0
def Hi (b:Nat) (d:List En1) (p:En1) (j:Nat):Prop:=∀k x,j < k→k < b→d[k]? =some x→¬ZAf x p < 0
theorem ZK2 {d:List En1} [Gds d] {p:En1} {a b:Nat} (h0:d[a]? =some p) (hn:d.length≤1000) {i j:Nat} (hi:a+1≤i) (hij:i≤j+1) (hjb:j < b) (hj:b≤d.length) (hA:Lo a d p i):
  wp (Zop big (a:Int) (i:Int) (j:Int) d) (fun x=>∃i':Nat,x=((a:Int),(i':Int),(j:Int),d)∧i≤i'∧i'≤j+1∧Lo a d p i'∧∀h:i'≤j,¬ZAf (d[i']'(by omega)) p < 0):=by
 haveI:Gdm p:=Gds.at h0;have hp:d[a]'(by omega)=p:=(ZOS.1 h0).2;refine ZoV Zy6 (fun i:Nat=>((a:Int),(i:Int),(j:Int),d)) (fun i'=>i≤i'∧i'≤j+1∧Lo a d p i') (fun i'=>j+1 - i')
  (Q:=fun x=>∃i':Nat,x=((a:Int),(i':Int),(j:Int),d)∧i≤i'∧i'≤j+1∧Lo a d p i'∧∀h:i'≤j,¬ZAf (d[i']'(by omega)) p < 0) i ⟨ZO0 _,hij,hA⟩ (by omega) ?_
 rintro rec i' ⟨h1,h2,h3⟩ ih;unfold Zu4 Zrr Zqd;dsimp only
 by_cases hc:i'≤j
 ·have hi':i' < d.length:=by omega
  rw[decide_eq_true (show (i':Int)≤(j:Int) by omega),cond_true,ZnH,ZOM,ZOR hi',ZnE,ZnD,ZnH,ZOM,h0,ZnE,ZnD,ZyM,ZnE,ZnD];refine⟨Zoj hi',Zo3 ⟨by omega,by omega⟩, ?_⟩
  by_cases ho:ZAf d[i'] p < 0
  ·rw[decide_eq_true ho,cond_true,ZnH];refine⟨ZnI (by omega),ih (i'+1) ⟨by omega,by omega,fun k x hk1 hk2 hx=> ?_⟩ (by omega)⟩
   by_cases e:k=i'
   ·subst e;rw[ZOR hi']at hx;rw[←ZO2 hx];exact ho
   ·exact h3 k x hk1 (by omega) hx
  ·rw[decide_eq_false ho,cond_false,ZnD];exact⟨i',rfl,h1,h2,h3,fun _=>ho⟩
 ·rw[decide_eq_false (show ¬(i':Int)≤(j:Int) by omega),cond_false,cond_false,ZnD];exact⟨i',rfl,h1,h2,h3,fun h=>absurd h hc⟩
theorem ZK1 {d:List En1} [Gds d] {p:En1} {a b:Nat} (h0:d[a]? =some p) (hn:d.length≤1000) {i j:Nat} (hi:a+1≤i) (hij:i≤j+1) (hjb:j < b) (hj:b≤d.length) (hA:Lo a d p i):
  wp (Zon big (a:Int) (i:Int) (j:Int) d) (fun x=>∃i':Nat,x=((a:Int),(i':Int),(j:Int),d)∧i≤i'∧i'≤j+1∧Lo a d p i'∧∀h:i'≤j,¬ZAf (d[i']'(by omega)) p < 0):=by
 haveI:Gdm p:=Gds.at h0;have hp:d[a]'(by omega)=p:=(ZOS.1 h0).2;refine ZoV Zy3 (fun i:Nat=>((a:Int),(i:Int),(j:Int),d)) (fun i'=>i≤i'∧i'≤j+1∧Lo a d p i') (fun i'=>j+1 - i')
  (Q:=fun x=>∃i':Nat,x=((a:Int),(i':Int),(j:Int),d)∧i≤i'∧i'≤j+1∧Lo a d p i'∧∀h:i'≤j,¬ZAf (d[i']'(by omega)) p < 0) i ⟨ZO0 _,hij,hA⟩ (by omega) ?_
 rintro rec i' ⟨h1,h2,h3⟩ ih;unfold ZuY Zro Zqb;dsimp only
 by_cases hc:i'≤j
 ·have hi':i' < d.length:=by omega
  rw[decide_eq_true (show (i':Int)≤(j:Int) by omega),cond_true,ZnH,ZOM,ZOR hi',ZnE,ZnD,ZnH,ZOM,h0,ZnE,ZnD,ZyM,ZnE,ZnD];refine⟨Zoj hi',Zo3 ⟨by omega,by omega⟩, ?_⟩
  by_cases ho:ZAf d[i'] p < 0
  ·rw[decide_eq_true ho,cond_true,ZnH];refine⟨ZnI (by omega),ih (i'+1) ⟨by omega,by omega,fun k x hk1 hk2 hx=> ?_⟩ (by omega)⟩
   by_cases e:k=i'
   ·subst e;rw[ZOR hi']at hx;rw[←ZO2 hx];exact ho
   ·exact h3 k x hk1 (by omega) hx
  ·rw[decide_eq_false ho,cond_false,ZnD];exact⟨i',rfl,h1,h2,h3,fun _=>ho⟩
 ·rw[decide_eq_false (show ¬(i':Int)≤(j:Int) by omega),cond_false,cond_false,ZnD];exact⟨i',rfl,h1,h2,h3,fun h=>absurd h hc⟩
theorem ZIb {d:List En1} [Gds d] {p:En1} {a b:Nat} (h0:d[a]? =some p) (hn:d.length≤1000) {i j:Nat} (hi:a+1≤i) (hij:i≤j+1) (hjb:j < b) (hj:b≤d.length) (hB:Hi b d p j):
  wp (Zoo big (a:Int) (i:Int) (j:Int) d) (fun x=>∃j':Nat,x=((a:Int),(i:Int),(j':Int),d)∧j'≤j∧i≤j'+1∧Hi b d p j'∧∀h:i≤j',∀hl:j' < d.length,ZAf d[j'] p < 0):=by
 haveI:Gdm p:=Gds.at h0;refine ZoV Zy5 (fun j:Nat=>((a:Int),(i:Int),(j:Int),d)) (fun j'=>j'≤j∧i≤j'+1∧Hi b d p j') (fun j'=>j')
  (Q:=fun x=>∃j':Nat,x=((a:Int),(i:Int),(j':Int),d)∧j'≤j∧i≤j'+1∧Hi b d p j'∧∀h:i≤j',∀hl:j' < d.length,ZAf d[j'] p < 0) j ⟨ZO0 _,hij,hB⟩ (by omega) ?_
 rintro rec j' ⟨h1,h2,h3⟩ ih;unfold Zu2 Zrq Zqc;dsimp only
 by_cases hc:i≤j'
 ·have hj':j' < d.length:=by omega
  rw[decide_eq_true (show (i:Int)≤(j':Int) by omega),cond_true,ZnH,ZOM,ZOR hj',ZnE,ZnD,ZnH,ZOM,h0,ZnE,ZnD,ZyM,ZnE,ZnD];refine⟨Zoj hj',Zo3 ⟨by omega,by omega⟩, ?_⟩
  by_cases ho:ZAf d[j'] p < 0
  ·rw[decide_eq_true ho,ZOL,cond_false,ZnD];exact⟨j',rfl,h1,h2,h3,fun _ _=>ho⟩
  ·rw[decide_eq_false ho,ZLj,cond_true,ZnH,show (j':Int) - 1=((j' - 1:Nat):Int) by omega];refine⟨ZnI (by omega),ih (j' - 1) ⟨by omega,by omega,fun k x hk hkb hx=> ?_⟩ (by omega)⟩
   by_cases e:k=j'
   ·subst e;rw[ZOR hj']at hx;rw[←ZO2 hx];exact ho
   ·exact h3 k x (by omega) hkb hx
 ·rw[decide_eq_false (show ¬(i:Int)≤(j':Int) by omega),cond_false,cond_false,ZnD];exact⟨j',rfl,h1,h2,h3,fun h=>absurd h hc⟩
theorem ZIa {d:List En1} [Gds d] {p:En1} {a b:Nat} (h0:d[a]? =some p) (hn:d.length≤1000) {i j:Nat} (hi:a+1≤i) (hij:i≤j+1) (hjb:j < b) (hj:b≤d.length) (hB:Hi b d p j):
  wp (Zom big (a:Int) (i:Int) (j:Int) d) (fun x=>∃j':Nat,x=((a:Int),(i:Int),(j':Int),d)∧j'≤j∧i≤j'+1∧Hi b d p j'∧∀h:i≤j',∀hl:j' < d.length,ZAf d[j'] p < 0):=by
 haveI:Gdm p:=Gds.at h0;refine ZoV Zy2 (fun j:Nat=>((a:Int),(i:Int),(j:Int),d)) (fun j'=>j'≤j∧i≤j'+1∧Hi b d p j') (fun j'=>j')
  (Q:=fun x=>∃j':Nat,x=((a:Int),(i:Int),(j':Int),d)∧j'≤j∧i≤j'+1∧Hi b d p j'∧∀h:i≤j',∀hl:j' < d.length,ZAf d[j'] p < 0) j ⟨ZO0 _,hij,hB⟩ (by omega) ?_
 rintro rec j' ⟨h1,h2,h3⟩ ih;unfold ZuW Zrn Zqa;dsimp only
 by_cases hc:i≤j'
 ·have hj':j' < d.length:=by omega
  rw[decide_eq_true (show (i:Int)≤(j':Int) by omega),cond_true,ZnH,ZOM,ZOR hj',ZnE,ZnD,ZnH,ZOM,h0,ZnE,ZnD,ZyM,ZnE,ZnD];refine⟨Zoj hj',Zo3 ⟨by omega,by omega⟩, ?_⟩
  by_cases ho:ZAf d[j'] p < 0
  ·rw[decide_eq_true ho,ZOL,cond_false,ZnD];exact⟨j',rfl,h1,h2,h3,fun _ _=>ho⟩
  ·rw[decide_eq_false ho,ZLj,cond_true,ZnH,show (j':Int) - 1=((j' - 1:Nat):Int) by omega];refine⟨ZnI (by omega),ih (j' - 1) ⟨by omega,by omega,fun k x hk hkb hx=> ?_⟩ (by omega)⟩
   by_cases e:k=j'
   ·subst e;rw[ZOR hj']at hx;rw[←ZO2 hx];exact ho
   ·exact h3 k x (by omega) hkb hx
 ·rw[decide_eq_false (show ¬(i:Int)≤(j':Int) by omega),cond_false,cond_false,ZnD];exact⟨j',rfl,h1,h2,h3,fun h=>absurd h hc⟩
theorem ZFV {d:List En1} {p:En1} {a b i j:Nat} (h0:d[a]? =some p) (hi:a+1≤i) (hij:i < j) (hj:j < d.length) (hA:Lo a d p i) (hB:Hi b d p j) (h1:¬ZAf (d[i]'(by omega)) p < 0) (h2:ZAf d[j] p < 0):
  (sw d i j (by omega) hj)[a]? =some p∧Lo a (sw d i j (by omega) hj) p (i+1)∧Hi b (sw d i j (by omega) hj) p (j - 1):=by
 have hi':i < d.length:=by omega
 refine⟨?_,fun k x hk1 hk2 hx=> ?_,fun k x hk hkb hx=> ?_⟩
 ·rw[ZAA hi' hj a (by omega),if_neg (by omega),if_neg (by omega),h0]
 ·rw[ZAA hi' hj k (by omega),if_neg (by omega)]at hx
  by_cases e:k=i
  ·rw[if_pos e]at hx;rw[←ZO2 hx];exact h2
  ·rw[if_neg e]at hx;exact hA k x hk1 (by omega) hx
 ·have hkl:k < d.length:=by
   have:=(ZOS.1 hx).1
   rwa [ZDu]at this
  rw[ZAA hi' hj k hkl]at hx
  by_cases e:k=j
  ·rw[if_pos e]at hx;rw[←ZO2 hx];exact h1
  ·rw[if_neg e,if_neg (by omega)]at hx;exact hB k x (by omega) hkb hx
end Go.Proofs
namespace Go.Proofs
open Go Eng
def Pt2 (a b:Nat) (D:List En1) (x:Int×Bool×List En1):Prop:=∃m:Nat,x.1=(m:Int)∧a≤m∧m < b∧Rg a b D x.2.2∧∃p,x.2.2[m]? =some p∧(∀k y,a≤k→k < m→x.2.2[k]? =some y→ZAf y p < 0)∧(∀k y,m < k→k < b→x.2.2[k]? =some y→¬ZAf y p < 0)
theorem ZIr {D d:List En1} {p:En1} {a b j:Nat} (h0:d[a]? =some p) (haj:a≤j) (hjb:j < b) (hb:b≤d.length) (hA:Lo a d p (j+1)) (hB:Hi b d p j) (hp:Rg a b D d) (f:Bool):Pt2 a b D ((j:Int),f,sw d j a (by omega) (by omega)):=by
 have hj:j < d.length:=by omega
 have ha:a < d.length:=by omega
 have hp0:d[a]=p:=(ZOS.1 h0).2;refine⟨j,rfl,haj,hjb,hp.trans (ZDt hj ha haj hjb (ZO0 _) (by omega)),p, ?_,fun k y h1 h2 hy=> ?_,fun k y h1 h2 hy=> ?_⟩
 ·dsimp only;rw[ZAA hj ha j hj]
  by_cases e:j=a
  ·subst e;rw[if_pos rfl,hp0]
  ·rw[if_neg e,if_pos rfl,hp0]
 ·dsimp only at hy;rw[ZAA hj ha k (by omega)]at hy
  by_cases e:k=a
  ·rw[if_pos e]at hy;exact hA j y (by omega) (by omega) (by rw[ZOR hj];exact hy)
  ·rw[if_neg e,if_neg (by omega)]at hy;exact hA k y (by omega) (by omega) hy
 ·dsimp only at hy;rw[ZAA hj ha k (by omega),if_neg (by omega),if_neg (by omega)]at hy;exact hB k y h1 h2 hy
theorem ZGN {D:List En1} [Gds D] (hn:D.length≤1000) {a b:Nat} {d0:List En1} [Gds d0] {p:En1} {i0 j0:Nat} (h0:d0[a]? =some p) (hi:a+1≤i0) (hij:i0≤j0+1) (hj:j0 < b) (hb:b≤D.length) (hA:Lo a d0 p i0) (hB:Hi b d0 p j0) (hp:Rg a b D d0):
  wp (Zn8 big (a:Int) (i0:Int) (j0:Int) d0) (fun x=>∃(j:Nat) (d:List En1),x=((a:Int),(j:Int),d)∧d[a]? =some p∧a≤j∧j < b∧Lo a d p (j+1)∧Hi b d p j∧Rg a b D d):=by
 refine ZoV Zy4 (fun s:Nat×Nat×List En1=>((a:Int),(s.1:Int),(s.2.1:Int),s.2.2)) (fun s=>s.2.2[a]? =some p∧a+1≤s.1∧s.1≤s.2.1+1∧s.2.1 < b∧Lo a s.2.2 p s.1∧Hi b s.2.2 p s.2.1∧Rg a b D s.2.2) (fun s=>s.2.1)
  (Q:=fun x=>∃(j:Nat) (d:List En1),x=((a:Int),(j:Int),d)∧d[a]? =some p∧a≤j∧j < b∧Lo a d p (j+1)∧Hi b d p j∧Rg a b D d) (i0,j0,d0) ⟨h0,hi,hij,hj,hA,hB,hp⟩ (by dsimp only;omega) ?_
 rintro rec ⟨i,j,d⟩ ⟨h0,hi,hij,hj,hA,hB,hp⟩ ih;dsimp only at h0 hi hij hj hA hB hp ih;have hl:=hp.len;haveI:=hp.gds;have hdn:d.length≤1000:=by omega
 have hbd:b≤d.length:=by omega
 unfold Zu0 Zrp Zsn Zsm;dsimp only;rw[ZnE];refine ZnM (ZK1 h0 hdn hi hij hj hbd hA) ?_;rintro _ ⟨i',rfl,h1,h2,h3,h4⟩;dsimp only;rw[ZnE];refine ZnM (ZIa h0 hdn (by omega) h2 hj hbd hB) ?_;rintro _ ⟨j',rfl,h5,h6,h7,h8⟩;dsimp only
 by_cases hc:i'≤j'
 ·have hi':i' < d.length:=by omega
  have hj':j' < d.length:=by omega
  have g1:=h4 (by omega);have g2:=h8 hc hj';have hlt:i' < j':=by
   rcases ZO1 hc with h |h
   ·exact h
   ·subst h;exact absurd g2 g1
  obtain⟨s0,sA,sB⟩:=ZFV h0 (by omega) hlt hj' h3 h7 g1 g2;rw[decide_eq_false (show ¬(i':Int) > (j':Int) by omega),cond_false,ZnH,ZOM,ZOM,ZOR hj',ZnE,ZnD,ZnH,ZOR hi',ZnE,ZnD,ZnH,ZnH,ZnH,ZnH];refine⟨Zoj hj',Zoj hi',Zoj hi',Zo3 ⟨by omega,by rw[ZOW];omega⟩,ZnI (by omega),ZnI (by omega), ?_⟩;have:=ih (i'+1,j' - 1,sw d i' j' hi' hj') ⟨s0,by dsimp only;omega,by dsimp only;omega,by dsimp only;omega,sA,sB,hp.trans (ZDt hi' hj' (by omega) (by omega) (by omega) (by omega))⟩ (by dsimp only;omega);rw[show (((i'+1:Nat)):Int)=(i':Int)+1 by omega,show ((j' - 1:Nat):Int)=(j':Int) - 1 by omega]at this;exact this
 ·rw[decide_eq_true (show (i':Int) > (j':Int) by omega),cond_true,ZnD];exact⟨j',d,rfl,h0,by omega,by omega,by rw[show j'+1=i' by omega];exact h3,h7,hp⟩
theorem ZFf {D:List En1} [Gds D] (hn:D.length≤1000) {a b pv:Nat} (hb:b≤D.length) (h1:a≤pv) (h2:pv < b):
  wp (Zqr D (a:Int) (b:Int) (pv:Int)) (Pt2 a b D):=by
 have hpv:pv < D.length:=by omega
 have h00:a < D.length:=by omega
 have Zd:wp (ZqU D (a:Int) (b:Int) (pv:Int)) (Pt2 a b D):=by
  unfold ZqU;simp only[ZnH,ZOM];rw[ZOR hpv,ZOR h00];simp only[ZnE,ZnD,ZnH];have hd0:(D.set a D[pv]).set pv D[a]=sw D a pv h00 hpv:=rfl;rw[hd0];have hlen:=ZDu (d:=D) h00 hpv;have hg0:∃p,(sw D a pv h00 hpv)[a]? =some p:=⟨_,ZOR (by omega)⟩;obtain⟨p,hg0⟩:=hg0;have hperm:=ZDt (d:=D) h00 hpv (ZO0 a) (show a < b by omega) h1 h2;generalize sw D a pv h00 hpv=d at hlen hg0 hperm;haveI:Gds d:=hperm.gds;refine⟨Zo3 ⟨by omega,by omega⟩,Zo3 ⟨by omega,by omega⟩,Zo3 ⟨by omega,by omega⟩,Zo3 ⟨by omega,by rw[ZOW];omega⟩,ZnI (by omega),ZnI (by omega), ?_⟩;have hdn:d.length≤1000:=by omega
  have hbd:b≤d.length:=by omega
  have hA:Lo a d p (a+1):=fun k x h1 h2=>by omega
  have hB:Hi b d p (b - 1):=fun k x hk hkb hx=>by omega
  have:=ZK2 hg0 hdn (i:=a+1) (j:=b - 1) (by omega) (by omega) (by omega) hbd hA;rw[show ((b - 1:Nat):Int)=(b:Int) - 1 by omega,show ((a+1:Nat):Int)=(a:Int)+1 by omega]at this;refine ZnM this ?_;rintro _ ⟨i',rfl,q1,q2,q3,q4⟩;dsimp only;unfold Zsp;rw[ZnE];have:=ZIb hg0 hdn (i:=i') (j:=b - 1) (by omega) (by omega) (by omega) hbd hB;rw[show ((b - 1:Nat):Int)=(b:Int) - 1 by omega]at this;refine ZnM this ?_;rintro _ ⟨j',rfl,q5,q6,q7,q8⟩;dsimp only;unfold Zso
  by_cases hc:i'≤j'
  ·have hi':i' < d.length:=by omega
   have hj':j' < d.length:=by omega
   have g1:=q4 (by omega);have g2:=q8 hc hj';have hlt:i' < j':=by
    rcases ZO1 hc with h |h
    ·exact h
    ·subst h;exact absurd g2 g1
   obtain⟨s0,sA,sB⟩:=ZFV hg0 (by omega) hlt hj' q3 q7 g1 g2;rw[decide_eq_false (show ¬(i':Int) > (j':Int) by omega),cond_false,ZnH,ZOM,ZOM,ZOR hj',ZnE,ZnD,ZnH,ZOR hi',ZnE,ZnD,ZnH,ZnH,ZnH,ZnH,ZnE];refine⟨Zoj hj',Zoj hi',Zoj hi',Zo3 ⟨by omega,by rw[ZOW];omega⟩,ZnI (by omega),ZnI (by omega), ?_⟩;have:=ZGN (D:=D) hn (d0:=sw d i' j' hi' hj') (i0:=i'+1) (j0:=j' - 1) s0 (by omega) (by omega) (by omega) hb sA sB (hperm.trans (ZDt hi' hj' (by omega) (by omega) (by omega) (by omega)));rw[show (((i'+1:Nat)):Int)=(i':Int)+1 by omega,show ((j' - 1:Nat):Int)=(j':Int) - 1 by omega]at this;refine ZnM this ?_;rintro _ ⟨j,d2,rfl,r0,r1,r2,r3,r4,r5⟩;unfold Zsl;dsimp only;have hl2:=r5.len;haveI:=r5.gds;have r00:a < d2.length:=by omega
   have rj:j < d2.length:=by omega
   rw[ZnH,ZOM,ZOR r00,ZnE,ZnD,ZnH,ZOM,ZOR rj,ZnE,ZnD,ZnH,ZnH,ZnD];exact⟨Zoj r00,Zoj rj,Zoj rj,Zo3 ⟨by omega,by rw[ZOW];omega⟩,ZIr r0 r1 r2 (by omega) r3 r4 r5 false⟩
  ·have hj':j' < d.length:=by omega
   have h0d:a < d.length:=by omega
   rw[decide_eq_true (show (i':Int) > (j':Int) by omega),cond_true,ZnH,ZOM,ZOR h0d,ZnE,ZnD,ZnH,ZOM,ZOR hj',ZnE,ZnD,ZnH,ZnH,ZnD];exact⟨Zoj h0d,Zoj hj',Zoj hj',Zo3 ⟨by omega,by rw[ZOW];omega⟩,ZIr hg0 (by omega) (by omega) hbd (by rw[show j'+1=i' by omega];exact q3) q7 hperm true⟩
 unfold Zqr;rw[ZnE];refine ZnM Zd fun x hx=> ?_
 obtain⟨m,e,h3,h4,h5,h6⟩:=hx;rw[ZnH,ZnD];exact⟨by rw[h5.len];simp,m,e,h3,h4,h5,h6⟩
end Go.Proofs
namespace Go.Proofs
open Go Eng
theorem ZD4 {d:List En1} [Gds d] (P:Nat→Prop) (hP:∀k,P k→k < d.length) {a b:Nat} (ha:P a) (hb:P b) (s:Nat) (hs:s≤100):
  wp (ZoX d (a:Int) (b:Int) (s:Int)) (fun x=>∃a' b' s':Nat,x=((a':Int),(b':Int),d,(s':Int))∧P a'∧P b'∧s'≤s+1):=by
 unfold ZoX ZuR;have hal:=hP a ha;have hbl:=hP b hb;rw[ZnE,ZnH,ZOM,ZOR hbl,ZnE,ZnD,ZnH,ZOM,ZOR hal,ZnE,ZnD,ZyM,ZnE,ZnD,ZnV];refine⟨Zoj hbl,Zoj hal,fun _=> ?_,fun _=> ?_⟩
 ·rw[ZnH,ZnD,ZnH,ZnD];exact⟨ZnI (by omega),by simp,b,a,s+1,rfl,hb,ha,ZO0 _⟩
 ·rw[ZnD,ZnH,ZnD];exact⟨by simp,a,b,s,rfl,ha,hb,by omega⟩
theorem ZFi {d:List En1} [Gds d] (P:Nat→Prop) (hP:∀k,P k→k < d.length) {a b c:Nat} (ha:P a) (hb:P b) (hc:P c) (s:Nat) (hs:s≤50):
  wp (ZpO d (a:Int) (b:Int) (c:Int) (s:Int)) (fun x=>∃m s':Nat,x=((m:Int),d,(s':Int))∧P m∧s'≤s+3):=by
 unfold ZpO ZuS;rw[ZnE,ZnE];refine ZnM (ZD4 P hP ha hb s (by omega)) ?_;rintro _ ⟨a1,b1,s1,rfl,q1,q2,q3⟩;dsimp only;rw[ZnE];refine ZnM (ZD4 P hP q2 hc s1 (by omega)) ?_;rintro _ ⟨b2,c1,s2,rfl,q4,q5,q6⟩;dsimp only;rw[ZnE];refine ZnM (ZD4 P hP q1 q4 s2 (by omega)) ?_;rintro _ ⟨a2,b3,s3,rfl,q7,q8,q9⟩;dsimp only;rw[ZnD,ZnH,ZnD];exact⟨by simp,b3,s3,rfl,q8,by omega⟩
theorem ZCX {d:List En1} [Gds d] (P:Nat→Prop) (hP:∀k,P k→k < d.length) (hd:d.length≤1000000) {a:Nat} (h0:1≤a) (ha:P (a - 1)) (hb:P a) (hc:P (a+1)) (s:Nat) (hs:s≤50):
  wp (Zoc d (a:Int) (s:Int)) (fun x=>∃m s':Nat,x=((m:Int),d,(s':Int))∧P m∧s'≤s+3):=by
 have:=hP _ hc;unfold Zoc Zrs;rw[ZnE,ZnH,ZnH,ZnE,show (a:Int) - 1=((a - 1:Nat):Int) by omega,show (a:Int)+1=((a+1:Nat):Int) by omega];refine⟨ZnI (by omega),ZnI (by omega),ZnM (ZFi P hP ha hb hc s hs) ?_⟩;rintro _ ⟨m,s',rfl,h1,h2⟩;dsimp only;rw[ZnD,ZnH,ZnD];exact⟨by simp,m,s',rfl,h1,h2⟩
theorem ZHQ {d:List En1} [Gds d] (hd:d.length≤1000000) {a b:Nat} (hb:b≤d.length) (hab:a+13≤b):
  wp (ZpW d (a:Int) (b:Int)) (fun x=>∃(pv:Nat) (h:Int),x=((pv:Int),h,d)∧a≤pv∧pv < b):=by
 have Zd:wp (Zqu d (a:Int) (b:Int)) (fun x=>∃(pv:Nat) (h:Int),x=((pv:Int),h,d)∧a≤pv∧pv < b):=by
  have hPl:∀k,(a≤k∧k < b)→k < d.length:=fun k hk=>by omega
  unfold Zqu;have eq:Int.tdiv ((b:Int) - (a:Int)) 4=(((b - a) / 4:Nat):Int):=by rw[show (b:Int) - (a:Int)=((b - a:Nat):Int) by omega];rfl
  rw[eq];generalize hq:(b - a) / 4=q;have j2:∀(m s:Nat),a≤m→m < b→wp (ZoN (m:Int) d (s:Int)) (fun x=>∃(pv:Nat) (h:Int),x=((pv:Int),h,d)∧a≤pv∧pv < b):=by intro m s h1 h2;unfold ZoN;rw[ZnV];refine⟨fun _=>by rw[ZnD];exact⟨m,1,rfl,h1,h2⟩,fun _=> ?_⟩;rw[ZnV];exact⟨fun _=>by rw[ZnD];exact⟨m,2,rfl,h1,h2⟩,fun _=>by rw[ZnD];exact⟨m,0,rfl,h1,h2⟩⟩
  have j1:∀(i j k s:Nat),s≤50→(a≤i∧i < b)→(a≤j∧j < b)→(a≤k∧k < b)→wp (ZoO (i:Int) (j:Int) (k:Int) d (s:Int)) (fun x=>∃(pv:Nat) (h:Int),x=((pv:Int),h,d)∧a≤pv∧pv < b):=by intro i j k s hs h1 h2 h3;unfold ZoO;rw[ZnE];refine ZnM (ZFi (fun k=>a≤k∧k < b) hPl h1 h2 h3 s hs) ?_;rintro _ ⟨m,s',rfl,h4,_⟩;exact j2 m s' h4.1 h4.2
  rw[show (q:Int)*1=((q:Nat):Int) by omega,show (q:Int)*2=((q*2:Nat):Int) by omega,show (q:Int)*3=((q*3:Nat):Int) by omega,
   show (a:Int)+((q:Nat):Int)=((a+q:Nat):Int) by omega,show (a:Int)+((q*2:Nat):Int)=((a+q*2:Nat):Int) by omega,show (a:Int)+((q*3:Nat):Int)=((a+q*3:Nat):Int) by omega]
  simp only[ZnH];refine⟨ZnI (by omega),rfl,ZnI (by omega),ZnI (by omega),ZnI (by omega),rfl,ZnI (by omega),ZnI (by omega),ZnI (by omega),rfl,ZnI (by omega),ZnI (by omega),ZnI (by omega), ?_⟩;rw[decide_eq_true (show (b:Int) - (a:Int)≥8 by omega),cond_true,ZnV];refine⟨fun h50=> ?_,fun _=>j1 _ _ _ 0 (by omega) (by omega) (by omega) (by omega)⟩;have h50':(b:Int) - (a:Int)≥50:=of_decide_eq_true h50;rw[ZnE];refine ZnM (ZCX (fun k=>a≤k∧k < b) hPl hd (a:=a+q) (by omega) (by omega) (by omega) (by omega) 0 (by omega)) ?_;rintro _ ⟨i,s1,rfl,p1,t1⟩;dsimp only;rw[ZnE];refine ZnM (ZCX (fun k=>a≤k∧k < b) hPl hd (a:=a+q*2) (by omega) (by omega) (by omega) (by omega) s1 (by omega)) ?_;rintro _ ⟨j,s2,rfl,p2,t2⟩;dsimp only;rw[ZnE];refine ZnM (ZCX (fun k=>a≤k∧k < b) hPl hd (a:=a+q*3) (by omega) (by omega) (by omega) (by omega) s2 (by omega)) ?_;rintro _ ⟨k,s3,rfl,p3,t3⟩;dsimp only;exact j1 i j k s3 (by omega) p1 p2 p3
 unfold ZpW;rw[ZnE];refine ZnM Zd ?_;rintro _ ⟨pv,h,rfl,h1,h2⟩;rw[ZnH,ZnD];exact⟨by simp,pv,h,rfl,h1,h2⟩
end Go.Proofs
namespace Go.Proofs
open Go Eng
theorem ZL5 (x:Int) {y:Nat} (hy:y < 1000000):∃z:Nat,andK .u64 x (y:Int)=(z:Int)∧z≤y:=by
 unfold andK;have h1:(BitVec.ofInt (IntKind.u64).bits x&&& BitVec.ofInt (IntKind.u64).bits (y:Int)).toNat≤y:=by rw[BitVec.toNat_and];refine Nat.le_trans Nat.and_le_right ?_;rw[BitVec.ofInt_natCast,BitVec.toNat_ofNat];exact Nat.mod_le _ _
 refine⟨_,wrap_u64 ⟨by omega,by omega⟩,h1⟩
theorem ZGj:((List.range 201).all fun n:Nat=>match Ztv (n:Int)with |some m=>decide (n=0∨(1≤m∧m≤2*(n:Int))) |none=>false)=true:=by kernel_rfl
theorem ZJj {n:Nat} (h1:1≤n) (h2:n≤200):∃m:Nat,Ztv (n:Int)=some (m:Int)∧1≤m∧m≤2*n:=by have h:=ZON.1 ZGj n (ZOY.2 (by omega));split at h;rotate_left;simp at h;rename_i m hm;have h3:=(of_decide_eq_true h).resolve_left (by omega);refine⟨m.toNat, ?_,by omega,by omega⟩;rw[hm,Int.toNat_of_nonneg (by omega)]
theorem ZJo (r:Int):∃q r',Zue r=some (q,r'):=by unfold Zue;rw[show decide (0≤(13:Int))=true from rfl,show decide (0≤(7:Int))=true from rfl,show decide (0≤(17:Int))=true from rfl,chk_true,chk_true,chk_true];exact⟨_,_,rfl⟩
theorem ZIe {D:List En1} [Gds D] (hn:D.length≤200) {a b:Nat} (hab:a+8≤b) (hb:b≤D.length):
  wp (ZpB D (a:Int) (b:Int)) (fun d=>Rg a b D d):=by
 have Zd:wp (ZpX D (a:Int) (b:Int)) (fun d=>Rg a b D d):=by
  unfold ZpX;obtain⟨L,hL⟩:∃L:Nat,L=b - a:=⟨_,rfl⟩;rw[show (b:Int) - (a:Int)=(L:Int) by omega];have eq:Int.tdiv (L:Int) 4=((L / 4:Nat):Int):=rfl;obtain⟨md,hm,hm1,hm2⟩:=ZJj (n:=L) (by omega) (by omega);rw[ZnH,decide_eq_true (show (L:Int)≥8 by omega),cond_true,hm,ZnE,ZnD,eq,ZnH,ZnH,ZnH,ZnH,ZnH,ZnE];refine⟨ZnI (by omega),rfl,ZnI (by omega),ZnI (by omega),ZnI (by omega),ZnI (by omega), ?_⟩;refine ZnM (ZoV ZxZ (fun s:Nat×List En1×Int=>((a:Int),(L:Int),(md:Int),(s.1:Int),s.2.1,s.2.2)) (fun s=>a≤s.1∧Rg a b D s.2.1) (fun s=>a+L+5 - s.1)
   (Q:=fun d=>Rg a b D d) (a+L / 4*2 - 1,D,IntKind.wrap .u64 (L:Int)) ⟨by dsimp only;omega,.refl _ _ _⟩ (by dsimp only;omega) ?_ |> fun h=>by
    have e:((a+L / 4*2 - 1:Nat):Int)=(a:Int)+((L / 4:Nat):Int)*2 - 1:=by omega
    dsimp only at h;rw[e]at h;exact h) ?_
  ·rintro rec ⟨i,d,r⟩ ⟨h1,h2⟩ ih;dsimp only at h1 h2 ih;have hl:=h2.len;haveI:=h2.gds;unfold ZtN ZqB;dsimp only;rw[eq];simp only[ZnH];refine⟨rfl,ZnI (by omega),ZnI (by omega),ZnI (by omega),ZnI (by omega), ?_⟩
   by_cases hc:(i:Int)≤(a:Int)+((L / 4:Nat):Int)*2+1
   ·obtain⟨q,r',hr⟩:=ZJo r;obtain⟨z,hz,hz2⟩:=ZL5 q (y:=md - 1) (by omega);have hw:IntKind.wrap .u64 ((md:Int) - 1)=((md - 1:Nat):Int):=by rw[wrap_u64 ⟨by omega,by omega⟩];omega
    rw[decide_eq_true hc,cond_true,hr,ZnE,ZnD];dsimp only;rw[hw,hz,wrap_i64 ⟨by omega,by omega⟩];have fin:∀o:Nat,o < L→wp (ZoC (fun a1 l1 m1 i1 d1 r1=>rec (a1,l1,m1,i1,d1,r1)) (a:Int) (L:Int) (md:Int) (i:Int) (o:Int) d r') (fun d=>Rg a b D d):=by
     intro o ho;have ho':a+o < d.length:=by omega
     have hi':i < d.length:=by omega
     unfold ZoC;rw[show (a:Int)+(o:Int)=((a+o:Nat):Int) by omega,ZnH,ZnH,ZnH,ZOM,ZOM,ZOR ho',ZnE,ZnD,ZnH,ZOR hi',ZnE,ZnD,ZnH,ZnH,ZnH];refine⟨ZnI (by omega),ZnI (by omega),Zoj ho',Zoj hi',Zoj hi',Zo3 ⟨by omega,by rw[ZOW];omega⟩,ZnI (by omega), ?_⟩;have:=ih (i+1,sw d i (a+o) hi' ho',r') ⟨by dsimp only;omega,h2.trans (ZDt hi' ho' (by omega) (by omega) (by omega) (by omega))⟩ (by dsimp only;omega);exact this
    by_cases hge:(z:Int)≥(L:Int)
    ·rw[decide_eq_true hge,cond_true,ZnH,show (z:Int) - (L:Int)=((z - L:Nat):Int) by omega];exact⟨ZnI (by omega),fin (z - L) (by omega)⟩
    ·rw[decide_eq_false hge,cond_false];exact fin z (by omega)
   ·rw[decide_eq_false hc,cond_false,ZnD];exact h2
  ·intro d hd;unfold ZqZ;rw[ZnD];exact hd
 unfold ZpB;rw[ZnE];refine ZnM Zd fun d hd=> ?_
 rw[ZnH,ZnD];exact⟨by rw[hd.len];simp,hd⟩
end Go.Proofs
namespace Go.Proofs
open Go Eng
def LoE (a:Nat) (d:List En1) (p:En1) (i:Nat):Prop:=∀k x,a≤k→k < i→d[k]? =some x→¬ZAf p x < 0
def HiE (b:Nat) (d:List En1) (p:En1) (j:Nat):Prop:=∀k x,j < k→k < b→d[k]? =some x→ZAf p x < 0
theorem ZK0 {d:List En1} [Gds d] {p:En1} {a b:Nat} (h0:d[a]? =some p) (hn:d.length≤1000) {i j:Nat} (hi:a+1≤i) (hij:i≤j+1) (hjb:j < b) (hj:b≤d.length) (hA:LoE a d p i):
  wp (Zn6 big (a:Int) (i:Int) (j:Int) d) (fun x=>∃i':Nat,x=((a:Int),(i':Int),(j:Int),d)∧i≤i'∧i'≤j+1∧LoE a d p i'∧∀h:i'≤j,ZAf p (d[i']'(by omega)) < 0):=by
 haveI:Gdm p:=Gds.at h0;refine ZoV ZxT (fun i:Nat=>((a:Int),(i:Int),(j:Int),d)) (fun i'=>i≤i'∧i'≤j+1∧LoE a d p i') (fun i'=>j+1 - i')
  (Q:=fun x=>∃i':Nat,x=((a:Int),(i':Int),(j:Int),d)∧i≤i'∧i'≤j+1∧LoE a d p i'∧∀h:i'≤j,ZAf p (d[i']'(by omega)) < 0) i ⟨ZO0 _,hij,hA⟩ (by omega) ?_
 rintro rec i' ⟨h1,h2,h3⟩ ih;unfold Zts Zqp Zpe;dsimp only
 by_cases hc:i'≤j
 ·have hi':i' < d.length:=by omega
  rw[decide_eq_true (show (i':Int)≤(j:Int) by omega),cond_true,ZnH,ZOM,h0,ZnE,ZnD,ZnH,ZOM,ZOR hi',ZnE,ZnD,ZyM,ZnE,ZnD];refine⟨Zo3 ⟨by omega,by omega⟩,Zoj hi', ?_⟩
  by_cases ho:ZAf p d[i'] < 0
  ·rw[decide_eq_true ho,ZOL,cond_false,ZnD];exact⟨i',rfl,h1,h2,h3,fun _=>ho⟩
  ·rw[decide_eq_false ho,ZLj,cond_true,ZnH];refine⟨ZnI (by omega),ih (i'+1) ⟨by omega,by omega,fun k x hk1 hk2 hx=> ?_⟩ (by omega)⟩
   by_cases e:k=i'
   ·subst e;rw[ZOR hi']at hx;rw[←ZO2 hx];exact ho
   ·exact h3 k x hk1 (by omega) hx
 ·rw[decide_eq_false (show ¬(i':Int)≤(j:Int) by omega),cond_false,cond_false,ZnD];exact⟨i',rfl,h1,h2,h3,fun h=>absurd h hc⟩
theorem ZH9 {d:List En1} [Gds d] {p:En1} {a b:Nat} (h0:d[a]? =some p) (hn:d.length≤1000) {i j:Nat} (hi:a+1≤i) (hij:i≤j+1) (hjb:j < b) (hj:b≤d.length) (hB:HiE b d p j):
  wp (Zn5 big (a:Int) (i:Int) (j:Int) d) (fun x=>∃j':Nat,x=((a:Int),(i:Int),(j':Int),d)∧j'≤j∧i≤j'+1∧HiE b d p j'∧∀h:i≤j',∀hl:j' < d.length,¬ZAf p d[j'] < 0):=by
 haveI:Gdm p:=Gds.at h0;refine ZoV ZxS (fun j:Nat=>((a:Int),(i:Int),(j:Int),d)) (fun j'=>j'≤j∧i≤j'+1∧HiE b d p j') (fun j'=>j')
  (Q:=fun x=>∃j':Nat,x=((a:Int),(i:Int),(j':Int),d)∧j'≤j∧i≤j'+1∧HiE b d p j'∧∀h:i≤j',∀hl:j' < d.length,¬ZAf p d[j'] < 0) j ⟨ZO0 _,hij,hB⟩ (by omega) ?_
 rintro rec j' ⟨h1,h2,h3⟩ ih;unfold Ztq Zqo Zpd;dsimp only
 by_cases hc:i≤j'
 ·have hj':j' < d.length:=by omega
  rw[decide_eq_true (show (i:Int)≤(j':Int) by omega),cond_true,ZnH,ZOM,h0,ZnE,ZnD,ZnH,ZOM,ZOR hj',ZnE,ZnD,ZyM,ZnE,ZnD];refine⟨Zo3 ⟨by omega,by omega⟩,Zoj hj', ?_⟩
  by_cases ho:ZAf p d[j'] < 0
  ·rw[decide_eq_true ho,cond_true,ZnH,show (j':Int) - 1=((j' - 1:Nat):Int) by omega];refine⟨ZnI (by omega),ih (j' - 1) ⟨by omega,by omega,fun k x hk hkb hx=> ?_⟩ (by omega)⟩
   by_cases e:k=j'
   ·subst e;rw[ZOR hj']at hx;rw[←ZO2 hx];exact ho
   ·exact h3 k x (by omega) hkb hx
  ·rw[decide_eq_false ho,cond_false,ZnD];exact⟨j',rfl,h1,h2,h3,fun _ _=>ho⟩
 ·rw[decide_eq_false (show ¬(i:Int)≤(j':Int) by omega),cond_false,cond_false,ZnD];exact⟨j',rfl,h1,h2,h3,fun h=>absurd h hc⟩
def PtE (a b:Nat) (D:List En1) (x:Int×List En1):Prop:=∃m:Nat,x.1=(m:Int)∧a < m∧m≤b∧Rg a b D x.2∧∃p,x.2[a]? =some p∧LoE a x.2 p m∧(∀k y,m≤k→k < b→x.2[k]? =some y→ZAf p y < 0)
theorem ZGk {D:List En1} [Gds D] (hn:D.length≤1000) {a b:Nat} {d0:List En1} [Gds d0] {p:En1} {i0 j0:Nat} (h0:d0[a]? =some p) (hi:a+1≤i0) (hij:i0≤j0+1) (hj:j0 < b) (hb:b≤D.length) (hA:LoE a d0 p i0) (hB:HiE b d0 p j0) (hp:Rg a b D d0):
  wp (Zn0 big (a:Int) (i0:Int) (j0:Int) d0) (fun x=>PtE a b D x∧x.2[a]? =some p):=by
 refine ZoV ZxU (fun s:Nat×Nat×List En1=>((a:Int),(s.1:Int),(s.2.1:Int),s.2.2)) (fun s=>s.2.2[a]? =some p∧a+1≤s.1∧s.1≤s.2.1+1∧s.2.1 < b∧LoE a s.2.2 p s.1∧HiE b s.2.2 p s.2.1∧Rg a b D s.2.2) (fun s=>s.2.1)
  (Q:=fun x=>PtE a b D x∧x.2[a]? =some p) (i0,j0,d0) ⟨h0,hi,hij,hj,hA,hB,hp⟩ (by dsimp only;omega) ?_
 rintro rec ⟨i,j,d⟩ ⟨h0,hi,hij,hj,hA,hB,hp⟩ ih;dsimp only at h0 hi hij hj hA hB hp ih;have hl:=hp.len;haveI:=hp.gds;have hdn:d.length≤1000:=by omega
 have hbd:b≤d.length:=by omega
 unfold Ztu Zqq ZqO ZqN;dsimp only;rw[ZnE];refine ZnM (ZK0 h0 hdn hi hij hj hbd hA) ?_;rintro _ ⟨i',rfl,h1,h2,h3,h4⟩;dsimp only;rw[ZnE];refine ZnM (ZH9 h0 hdn (by omega) h2 hj hbd hB) ?_;rintro _ ⟨j',rfl,h5,h6,h7,h8⟩;dsimp only
 by_cases hc:i'≤j'
 ·have hi':i' < d.length:=by omega
  have hj':j' < d.length:=by omega
  have g1:=h4 (by omega);have g2:=h8 hc hj';have hlt:i' < j':=by
   rcases ZO1 hc with h |h
   ·exact h
   ·subst h;exact absurd g1 g2
  rw[decide_eq_false (show ¬(i':Int) > (j':Int) by omega),cond_false,ZnH,ZOM,ZOM,ZOR hj',ZnE,ZnD,ZnH,ZOR hi',ZnE,ZnD,ZnH,ZnH,ZnH,ZnH];refine⟨Zoj hj',Zoj hi',Zoj hi',Zo3 ⟨by omega,by rw[ZOW];omega⟩,ZnI (by omega),ZnI (by omega), ?_⟩;have s0:(sw d i' j' hi' hj')[a]? =some p:=by rw[ZAA hi' hj' a (by omega),if_neg (by omega),if_neg (by omega),h0]
  have sA:LoE a (sw d i' j' hi' hj') p (i'+1):=by
   intro k x hk1 hk2 hx;rw[ZAA hi' hj' k (by omega),if_neg (by omega)]at hx
   by_cases e:k=i'
   ·rw[if_pos e]at hx;rw[←ZO2 hx];exact g2
   ·rw[if_neg e]at hx;exact h3 k x hk1 (by omega) hx
  have sB:HiE b (sw d i' j' hi' hj') p (j' - 1):=by
   intro k x hk hkb hx;rw[ZAA hi' hj' k (by omega)]at hx
   by_cases e:k=j'
   ·rw[if_pos e]at hx;rw[←ZO2 hx];exact g1
   ·rw[if_neg e,if_neg (by omega)]at hx;exact h7 k x (by omega) hkb hx
  have:=ih (i'+1,j' - 1,sw d i' j' hi' hj') ⟨s0,by dsimp only;omega,by dsimp only;omega,by dsimp only;omega,sA,sB,hp.trans (ZDt hi' hj' (by omega) (by omega) (by omega) (by omega))⟩ (by dsimp only;omega);rw[show (((i'+1:Nat)):Int)=(i':Int)+1 by omega,show ((j' - 1:Nat):Int)=(j':Int) - 1 by omega]at this;exact this
 ·rw[decide_eq_true (show (i':Int) > (j':Int) by omega),cond_true,ZnD];exact⟨⟨i',rfl,by omega,by omega,hp,p,h0,h3,fun k y hk hkb hy=>h7 k y (by omega) hkb hy⟩,h0⟩
theorem ZHR {D:List En1} [Gds D] (hn:D.length≤1000) {a b pv:Nat} (hb:b≤D.length) (h1:a≤pv) (h2:pv < b):
  wp (Zpn D (a:Int) (b:Int) (pv:Int)) (fun x=>PtE a b D x∧x.2[a]? =D[pv]?):=by
 have hpv:pv < D.length:=by omega
 have h00:a < D.length:=by omega
 have Zd:wp (ZpM D (a:Int) (b:Int) (pv:Int)) (fun x=>PtE a b D x∧x.2[a]? =D[pv]?):=by
  unfold ZpM;simp only[ZnH,ZOM];rw[ZOR hpv,ZOR h00];simp only[ZnE,ZnD,ZnH];have hd0:(D.set a D[pv]).set pv D[a]=sw D a pv h00 hpv:=rfl;rw[hd0];have hlen:=ZDu (d:=D) h00 hpv;have hg0:(sw D a pv h00 hpv)[a]? =some D[pv]:=by
   rw[ZAA h00 hpv a h00]
   by_cases e:a=pv
   ·subst e;rw[if_pos rfl]
   ·rw[if_neg e,if_pos rfl]
  have hperm:=ZDt (d:=D) h00 hpv (ZO0 a) (show a < b by omega) h1 h2;generalize sw D a pv h00 hpv=d at hlen hg0 hperm;haveI:Gds d:=hperm.gds;generalize D[pv]=p at hg0;refine⟨Zo3 ⟨by omega,by omega⟩,Zo3 ⟨by omega,by omega⟩,Zo3 ⟨by omega,by omega⟩,Zo3 ⟨by omega,by rw[ZOW];omega⟩,ZnI (by omega),ZnI (by omega), ?_⟩;have hA:LoE a d p (a+1):=fun k x h1 h2 hx=>by
   obtain rfl:k=a:=by omega
   rw[hg0]at hx;rw[←ZO2 hx];have:=ZDa p p;omega
  have hB:HiE b d p (b - 1):=fun k x hk hkb hx=>by omega
  have:=ZGk (D:=D) hn (d0:=d) (i0:=a+1) (j0:=b - 1) hg0 (by omega) (by omega) (by omega) hb hA hB hperm;rw[show ((b - 1:Nat):Int)=(b:Int) - 1 by omega,show ((a+1:Nat):Int)=(a:Int)+1 by omega]at this;refine ZnM this ?_;rintro⟨m,d'⟩ ⟨r1,r2⟩;unfold ZqM;dsimp only;rw[ZnD];exact⟨r1,r2⟩
 unfold Zpn;rw[ZnE];refine ZnM Zd fun x hx=> ?_
 have hx2:=hx;obtain⟨⟨m,e,h3,h4,h5,h6⟩,h7⟩:=hx;rw[ZnH,ZnD];exact⟨by rw[h5.len];simp,hx2⟩
end Go.Proofs
namespace Go.Proofs
open Go Eng
def Le (a b:En1):Prop:=ZAf a b≤0
theorem Le.trans {a b c:En1} (h1:Le a b) (h2:Le b c):Le a c:=by
 unfold Le at*
 by_cases e:ZAf a b=0
 ·rw[ZIs e];exact h2
 ·by_cases e2:ZAf b c=0
  ·have h3:=ZIs (a:=b) (b:=c) (c:=a) e2;have n1:=ZDa a c;have n2:=ZDa a b;omega
  ·have:=ZGl (show ZAf a b < 0 by omega) (show ZAf b c < 0 by omega);omega
theorem Zyn {a b:En1} (h:¬ZAf a b < 0):Le b a:=by have:=ZDa a b;unfold Le;omega
theorem Le.of_lt {a b:En1} (h:ZAf a b < 0):Le a b:=Int.le_of_lt h
theorem Le.rfl' (a:En1):Le a a:=by have:=ZDa a a;unfold Le;omega
def Hx (f lo hi:Nat) (d:List En1) (r:Option Nat):Prop:=∀k c x y,lo≤k→some k≠r→(c=2*k+1∨c=2*k+2)→c < hi→d[f+k]? =some x→d[f+c]? =some y→Le y x
def Gp (f lo hi:Nat) (d:List En1) (r:Nat):Prop:=∀q c x y,lo≤q→(r=2*q+1∨r=2*q+2)→(c=2*r+1∨c=2*r+2)→c < hi→d[f+q]? =some x→d[f+c]? =some y→Le y x
theorem ZGH {f lo hi r ch:Nat} {d:List En1} (hr:f+r < d.length) (hc:f+ch < d.length) (hlr:lo≤r) (hch:ch=2*r+1∨ch=2*r+2) (hchi:ch < hi) (h1:Hx f lo hi d (some r)) (h2:Gp f lo hi d r) (hlt:ZAf d[f+r] d[f+ch] < 0) (hbig:∀c y,(c=2*r+1∨c=2*r+2)→c < hi→d[f+c]? =some y→Le y d[f+ch]):
  Hx f lo hi (sw d (f+r) (f+ch) hr hc) (some ch)∧Gp f lo hi (sw d (f+r) (f+ch) hr hc) ch:=by
 have bound:∀k z,(sw d (f+r) (f+ch) hr hc)[f+k]? =some z→f+k < d.length:=fun k z hz=>by
  have:=(ZOS.1 hz).1
  rwa [ZDu]at this
 refine⟨fun k c x y hk hkr hcc hcl hx hy=> ?_,fun q c x y hq hqr hcc hcl hx hy=> ?_⟩
 ·have hkc:k≠ch:=fun e=>hkr (by rw[e])
  have bx:=bound k x hx;have bY:=bound c y hy;rw[ZAA hr hc _ bx,if_neg (by omega)]at hx;rw[ZAA hr hc _ bY]at hy
  by_cases e:k=r
  ·subst e;rw[if_pos rfl]at hx;obtain rfl:=ZO2 hx
   by_cases e2:c=ch
   ·subst e2;rw[if_pos rfl]at hy;rw[←ZO2 hy];exact .of_lt hlt
   ·rw[if_neg (by omega),if_neg (by omega)]at hy;exact hbig c y hcc hcl hy
  ·rw[if_neg (by omega)]at hx;rw[if_neg (show ¬f+c=f+ch by omega)]at hy
   by_cases e2:c=r
   ·subst e2;rw[if_pos rfl]at hy;rw[←ZO2 hy];exact h2 k ch x _ hk hcc hch hchi hx (ZOR hc)
   ·rw[if_neg (by omega)]at hy;exact h1 k c x y hk (fun h=>e (ZO2 h)) hcc hcl hx hy
 ·obtain rfl:q=r:=by omega
  have bx:=bound q x hx;have bY:=bound c y hy;rw[ZAA hr hc _ bx,if_neg (by omega),if_pos rfl]at hx;rw[ZAA hr hc _ bY,if_neg (by omega),if_neg (by omega)]at hy;obtain rfl:=ZO2 hx;exact h1 ch c _ y (by omega) (fun h=>by have:=ZO2 h;omega) hcc hcl (ZOR hc) hy
theorem ZGI {D:List En1} [Gds D] (hn:D.length≤1000) {f lo hi:Nat} (hhi:f+hi≤D.length) (hlo1:lo≤1000) (hH:Hx f lo hi D (some lo)):
  wp (ZoF D (lo:Int) (hi:Int) (f:Int)) (fun d=>Rg f (f+hi) D d∧Hx f lo hi d none):=by
 have Zd:wp (Zq4 D (lo:Int) (hi:Int) (f:Int)) (fun d=>Rg f (f+hi) D d∧Hx f lo hi d none):=by
  unfold Zq4;rw[ZnE];refine ZnM (Q:=fun x=>∃d,(x= .ret d∨x= .brk d)∧Rg f (f+hi) D d∧Hx f lo hi d none) ?_ ?_
  ·by_cases hlo:lo < hi
   ·refine ZoV Zzt (fun s:Nat×List En1=>((hi:Int),(f:Int),(s.1:Int),s.2)) (fun s=>lo≤s.1∧s.1 < hi∧Rg f (f+hi) D s.2∧Hx f lo hi s.2 (some s.1)∧Gp f lo hi s.2 s.1) (fun s=>hi - s.1)
     (Q:=fun x=>∃d,(x= .ret d∨x= .brk d)∧Rg f (f+hi) D d∧Hx f lo hi d none) (lo,D) ⟨ZO0 _,hlo,.refl _ _ _,hH,fun q c x y hq hqr=>by omega⟩ (by dsimp only;omega) ?_
    rintro rec ⟨r,d⟩ ⟨h1,h2,h3,h4,h5⟩ ih;dsimp only at h1 h2 h3 h4 h5 ih;have hl:=h3.len;haveI:=h3.gds;unfold Zvv ZoW;dsimp only;rw[ZnH,ZnH,show 2*(r:Int)+1=((2*r+1:Nat):Int) by omega];refine⟨ZnI (by omega),ZnI (by omega), ?_⟩;have step:∀ch:Nat,(ch=2*r+1∨ch=2*r+2)→ch < hi→(∀hc:f+ch < d.length,∀c y,(c=2*r+1∨c=2*r+2)→c < hi→d[f+c]? =some y→Le y d[f+ch])→
      wp (Zpb (fun a1 a2 a3 a4=>rec (a1,a2,a3,a4)) (hi:Int) (f:Int) (r:Int) (ch:Int) d) (fun x=>∃d,(x= .ret d∨x= .brk d)∧Rg f (f+hi) D d∧Hx f lo hi d none):=by
     intro ch hch hchi hbig;have hr:f+r < d.length:=by omega
     have hc:f+ch < d.length:=by omega
     unfold Zpb;rw[show (f:Int)+(r:Int)=((f+r:Nat):Int) by omega,show (f:Int)+(ch:Int)=((f+ch:Nat):Int) by omega,ZnH,ZnH,ZOM,ZOM,ZOR hr,ZnE,ZnD,ZnH,ZnH,ZOR hc,ZnE,ZnD,ZyM,ZnE,ZnD];refine⟨ZnI (by omega),Zoj hr,ZnI (by omega),Zoj hc, ?_⟩
     by_cases ho:ZAf d[f+r] d[f+ch] < 0
     ·rw[decide_eq_true ho,ZOL,cond_false];simp only[ZnH,ZnE,ZnD];refine⟨ZnI (by omega),ZnI (by omega),ZnI (by omega),Zoj hc,ZnI (by omega),Zoj hr,Zoj hr,Zo3 ⟨by omega,by rw[ZOW];omega⟩, ?_⟩;obtain⟨s1,s2⟩:=ZGH hr hc h1 hch hchi h4 h5 ho (hbig hc);exact ih (ch,sw d (f+r) (f+ch) hr hc) ⟨by dsimp only;omega,hchi,h3.trans (ZDt hr hc (by omega) (by omega) (by omega) (by omega)),s1,s2⟩ (by dsimp only;omega)
     ·rw[decide_eq_false ho,ZLj,cond_true,ZnD];refine⟨d,.inl rfl,h3,fun k c x y hk _ hcc hcl hx hy=> ?_⟩
      by_cases e:k=r
      ·subst e;rw[ZOR hr]at hx;rw[←ZO2 hx];exact(hbig hc c y hcc hcl hy).trans (Zyn ho)
      ·exact h4 k c x y hk (fun h=>e (ZO2 h)) hcc hcl hx hy
    by_cases hge:hi≤2*r+1
    ·rw[decide_eq_true (show ((2*r+1:Nat):Int)≥(hi:Int) by omega),cond_true,ZnD];refine⟨d,.inr rfl,h3,fun k c x y hk _ hcc hcl hx hy=> ?_⟩
     by_cases e:k=r
     ·omega
     ·exact h4 k c x y hk (fun h=>e (ZO2 h)) hcc hcl hx hy
    ·rw[decide_eq_false (show ¬((2*r+1:Nat):Int)≥(hi:Int) by omega),cond_false,ZnH,show ((2*r+1:Nat):Int)+1=((2*r+2:Nat):Int) by omega];refine⟨ZnI (by omega), ?_⟩;have hc1:f+(2*r+1) < d.length:=by omega
     unfold Zqn
     by_cases h22:2*r+2 < hi
     ·have hc2:f+(2*r+2) < d.length:=by omega
      rw[decide_eq_true (show ((2*r+2:Nat):Int) < (hi:Int) by omega),cond_true,show (f:Int)+((2*r+1:Nat):Int)=((f+(2*r+1):Nat):Int) by omega,show ((f+(2*r+1):Nat):Int)+1=((f+(2*r+2):Nat):Int) by omega,show ((2*r+1:Nat):Int)+1=((2*r+2:Nat):Int) by omega];rw[ZnH,ZnH,ZOM,ZOM,ZOR hc1,ZnE,ZnD,ZnH,ZnH,ZnH,ZOR hc2,ZnE,ZnD,ZyM,ZnE,ZnD];refine⟨ZnI (by omega),Zoj hc1,ZnI (by omega),ZnI (by omega),Zoj hc2, ?_⟩
      by_cases ho:ZAf d[f+(2*r+1)] d[f+(2*r+2)] < 0
      ·rw[decide_eq_true ho,cond_true,ZnH];refine⟨ZnI (by omega),step (2*r+2) (.inr rfl) h22 fun hc c y hcc hcl hy=> ?_⟩;rcases hcc with rfl |rfl
       ·rw[ZOR hc1]at hy;rw[←ZO2 hy];exact .of_lt ho
       ·rw[ZOR hc2]at hy;rw[←ZO2 hy];exact .rfl' _
      ·rw[decide_eq_false ho,cond_false];refine step (2*r+1) (.inl rfl) (by omega) fun hc c y hcc hcl hy=> ?_
       rcases hcc with rfl |rfl
       ·rw[ZOR hc1]at hy;rw[←ZO2 hy];exact .rfl' _
       ·rw[ZOR hc2]at hy;rw[←ZO2 hy];exact Zyn ho
     ·rw[decide_eq_false (show ¬((2*r+2:Nat):Int) < (hi:Int) by omega),cond_false,cond_false];refine step (2*r+1) (.inl rfl) (by omega) fun hc c y hcc hcl hy=> ?_
      obtain rfl:c=2*r+1:=by omega
      rw[ZOR hc1]at hy;rw[←ZO2 hy];exact .rfl' _
   ·obtain⟨n,hbig⟩:=ZEn 1 (by omega);rw[hbig];show wp (ZoW _ (hi:Int) (f:Int) (lo:Int) D) _;unfold ZoW;rw[ZnH,ZnH,decide_eq_true (show 2*(lo:Int)+1≥(hi:Int) by omega),cond_true,ZnD];exact⟨ZnI (by omega),ZnI (by omega),D,.inr rfl,.refl _ _ _,fun k c x y hk _ hcc hcl _ _=>by omega⟩
  ·rintro x ⟨d,rfl |rfl,h⟩
   ·dsimp only;rw[ZnD];exact h
   ·unfold ZsK;dsimp only;rw[ZnD];exact h
 unfold ZoF;rw[ZnE];refine ZnM Zd fun d hd=> ?_
 rw[ZnH,ZnD];exact⟨by rw[hd.1.len];simp,hd⟩
end Go.Proofs
namespace Go.Proofs
open Go Eng
theorem Rg.mid {a b:Nat} {D d:List En1} (h:Rg a b D d) (hab:a≤b):((d.drop a).take (b - a)).Perm ((D.drop a).take (b - a)):=by
 have h1:d.take a=D.take a:=by
  refine List.ext_getElem? fun k=> ?_
  rw[ZOT,ZOT]
  by_cases hk:k < a
  ·rw[if_pos hk,if_pos hk,h.2 k (.inl hk)]
  ·rw[if_neg hk,if_neg hk]
 have h2:(d.drop a).drop (b - a)=(D.drop a).drop (b - a):=by
  refine List.ext_getElem? fun k=> ?_
  rw[ZOQ,ZOQ,ZOQ,ZOQ,h.2 _ (.inr (by omega))]
 have hp:=h.1;rw[←ZOZ a d,←ZOZ a D,h1,List.perm_append_left_iff]at hp;rw[←ZOZ (b - a) (d.drop a),←ZOZ (b - a) (D.drop a),h2,List.perm_append_right_iff]at hp;exact hp
theorem ZGT {a b:Nat} {d:List En1} {x:En1}:x∈(d.drop a).take (b - a)↔∃k,a≤k∧k < b∧d[k]? =some x:=by
 rw[List.mem_iff_getElem?];constructor
 ·rintro⟨k,hk⟩;rw[ZOT]at hk;split at hk;rotate_left;simp at hk;rw[ZOQ]at hk;exact⟨a+k,by omega,by omega,hk⟩
 ·rintro⟨k,h1,h2,h3⟩;refine⟨k - a, ?_⟩;rw[ZOT,if_pos (by omega),ZOQ,show a+(k - a)=k by omega];exact h3
theorem Rg.mem {a b k:Nat} {D d:List En1} {x:En1} (h:Rg a b D d) (h1:a≤k) (h2:k < b) (h3:d[k]? =some x):∃k',a≤k'∧k' < b∧D[k']? =some x:=
 ZGT.1 ((h.mid (by omega)).mem_iff.1 (ZGT.2 ⟨k,h1,h2,h3⟩))
def Srt (a b:Nat) (d:List En1):Prop:=∀i j x y,a≤i→i < j→j < b→d[i]? =some x→d[j]? =some y→Le x y
theorem ZH3 {f n:Nat} {d:List En1} (h:Hx f 0 n d none):∀(k:Nat) (x y:En1),k < n→d[f]? =some x→d[f+k]? =some y→Le y x:=by
 intro k
 induction k using Nat.strongRecOn with
 |ind k ih=>
  intro x y hk hx hy
  by_cases h0:k=0
  ·subst h0;rw[Nat.add_zero,hx]at hy;rw[←ZO2 hy];exact .rfl' _
  ·have hl:f+k < d.length:=(ZOS.1 hy).1;have hq:d[f+(k - 1) / 2]? =some (d[f+(k - 1) / 2]'(by omega)):=ZOR (by omega);exact(h ((k - 1) / 2) k _ y (Nat.zero_le _) (by simp) (by omega) hk hq hy).trans (ih ((k - 1) / 2) (by omega) x _ (by omega) hx hq)
theorem ZJz {D:List En1} [Gds D] (hn:D.length≤1000) {a b:Nat} (hab:a+1≤b) (hb:b≤D.length):
  wp (ZqC D (a:Int) (b:Int)) (fun d=>Rg a b D d∧Srt a b d):=by
 have Zd:wp (Zq5 D (a:Int) (b:Int)) (fun d=>Rg a b D d∧Srt a b d):=by
  obtain⟨n,rfl⟩:∃n,b=a+n:=⟨b - a,by omega⟩;unfold Zq5;rw[show ((a+n:Nat):Int) - (a:Int)=(n:Int) by omega,show (n:Int) - 1=((n - 1:Nat):Int) by omega,show Int.tdiv ((n - 1:Nat):Int) 2=(((n - 1) / 2:Nat):Int)from rfl,ZnH,ZnH,ZnH,ZnH,ZnE];refine⟨ZnI (by omega),ZnI (by omega),rfl,ZnI (by omega), ?_⟩;have l1:=ZoV Zzv (fun s:Nat×List En1=>((a:Int),(0:Int),(n:Int),(s.1:Int) - 1,s.2)) (fun s=>s.1≤n∧Rg a (a+n) D s.2∧Hx a s.1 n s.2 none) (fun s=>s.1)
   (Q:=fun x=>∃d,x=((a:Int),(0:Int),(n:Int),d)∧Rg a (a+n) D d∧Hx a 0 n d none) ((n - 1) / 2+1,D) ⟨by dsimp only;omega,.refl _ _ _,fun k c x y hk _ hcc hcl _ _=>by dsimp only at hk;omega⟩ (by dsimp only;omega) (by
   rintro rec ⟨t,d⟩ ⟨h1,h2,h3⟩ ih;dsimp only at h1 h2 h3 ih;have hl:=h2.len;haveI:=h2.gds;unfold Zvz ZrQ;dsimp only
   by_cases ht:1≤t
   ·rw[decide_eq_true (show (t:Int) - 1≥0 by omega),cond_true,show (t:Int) - 1=((t - 1:Nat):Int) by omega,ZnE];refine ZnM (ZGI (D:=d) (by omega) (f:=a) (lo:=t - 1) (hi:=n) (by omega) (by omega) fun k c x y hk hkr hcc hcl hx hy=>h3 k c x y (by have:k≠t - 1:=fun e=>hkr (by rw[e]);omega) (by simp) hcc hcl hx hy) ?_;rintro d' ⟨r1,r2⟩;rw[ZnH];refine⟨ZnI (by omega),ih (t - 1,d') ⟨by dsimp only;omega,h2.trans r1,r2⟩ (by dsimp only;omega)⟩
   ·obtain rfl:t=0:=by omega
    rw[decide_eq_false (show ¬((0:Nat):Int) - 1≥0 by omega),cond_false,ZnD];exact⟨d,rfl,h2,h3⟩)
  dsimp only at l1;rw[show (((n - 1) / 2+1:Nat):Int) - 1=(((n - 1) / 2:Nat):Int) by omega]at l1;refine ZnM l1 ?_;rintro _ ⟨d1,rfl,g1,g2⟩;dsimp only;unfold ZsM;rw[ZnH,ZnE];refine⟨ZnI (by omega), ?_⟩;have l2:=ZoV Zzu (fun s:Nat×List En1=>((a:Int),(0:Int),(s.1:Int) - 1,s.2)) (fun s=>s.1≤n∧Rg a (a+n) D s.2∧Hx a 0 s.1 s.2 none∧Srt (a+s.1) (a+n) s.2∧∀k j x y,k < s.1→s.1≤j→j < n→s.2[a+k]? =some x→s.2[a+j]? =some y→Le x y) (fun s=>s.1)
   (Q:=fun d=>Rg a (a+n) D d∧Srt a (a+n) d) (n,d1) ⟨ZO0 _,g1,g2,fun i j x y h1 h2 h3=>by dsimp only at h1;omega,fun k j x y h1 h2 h3=>by dsimp only at h2;omega⟩ (by dsimp only;omega) (by
   rintro rec ⟨t,d⟩ ⟨h1,h2,h3,h4,h5⟩ ih;dsimp only at h1 h2 h3 h4 h5 ih;have hl:=h2.len;haveI:=h2.gds;unfold Zvx ZrP;dsimp only
   by_cases ht:1≤t
   ·have hi:a+(t - 1) < d.length:=by omega
    have h0:a < d.length:=by omega
    have hx0:d[a]? =some d[a]:=ZOR h0;rw[decide_eq_true (show (t:Int) - 1≥0 by omega),cond_true,show (t:Int) - 1=((t - 1:Nat):Int) by omega,show (a:Int)+((t - 1:Nat):Int)=((a+(t - 1):Nat):Int) by omega,ZnH,ZnH,ZnH,ZOM,ZOM,ZOR hi,ZnE,ZnD,ZnH,hx0,ZnE,ZnD,ZnH,ZnH,ZnE];refine⟨ZnI (by omega),ZnI (by omega),Zoj hi,Zoj h0,Zoj h0,Zo3 ⟨by omega,by rw[ZOW];omega⟩, ?_⟩;have hsl:=ZDu h0 hi;have hsg:=ZAA h0 hi;have hsr:Rg a (a+n) d (sw d a (a+(t - 1)) h0 hi):=ZDt h0 hi (ZO0 _) (by omega) (by omega) (by omega);have hsr2:Rg a (a+t) d (sw d a (a+(t - 1)) h0 hi):=ZDt h0 hi (ZO0 _) (by omega) (by omega) (by omega);show wp (ZoF (sw d a (a+(t - 1)) h0 hi) ((0:Nat):Int) ((t - 1:Nat):Int) (a:Int)) _;refine ZnM (ZGI (D:=sw d a (a+(t - 1)) h0 hi) (by omega) (f:=a) (lo:=0) (hi:=t - 1) (by omega) (by omega) fun k c x y hk hkr hcc hcl hx hy=> ?_) ?_
    ·have hk0:k≠0:=fun e=>hkr (by rw[e])
     rw[hsg _ (by omega),if_neg (by omega),if_neg (by omega)]at hx;rw[hsg _ (by omega),if_neg (by omega),if_neg (by omega)]at hy;exact h3 k c x y hk (by simp) hcc (by omega) hx hy
    rintro d' ⟨r1,r2⟩;rw[ZnH];have hat:∀j,t - 1≤j→j < n→d'[a+j]? =if j=t - 1 then some d[a]else d[a+j]? :=by
     intro j hj hjn;rw[r1.2 (a+j) (.inr (by omega)),hsg _ (by omega)]
     by_cases e:j=t - 1
     ·rw[if_pos (by omega),if_pos e]
     ·rw[if_neg (by omega),if_neg (by omega),if_neg e]
    have hold:∀k x,k < t - 1→d'[a+k]? =some x→∃k',k' < t∧d[a+k']? =some x:=by intro k x hk hx;obtain⟨k1,q1,q2,q3⟩:=r1.mem (by omega) (show a+k < a+(t - 1) by omega) hx;obtain⟨k2,q4,q5,q6⟩:=hsr2.mem q1 (by omega) q3;exact⟨k2 - a,by omega,by rw[show a+(k2 - a)=k2 by omega];exact q6⟩
    refine⟨ZnI (by omega),ih (t - 1,d') ⟨by dsimp only;omega,(h2.trans hsr).trans (r1.mono (ZO0 _) (by omega)),r2,fun i j x y q1 q2 q3 hx hy=> ?_,fun k j x y q1 q2 q3 hx hy=> ?_⟩ (by dsimp only;omega)⟩
    ·dsimp only at q1;rw[show i=a+(i - a) by omega,hat (i - a) (by omega) (by omega)]at hx;rw[show j=a+(j - a) by omega,hat (j - a) (by omega) (by omega),if_neg (by omega)]at hy
     by_cases e:i - a=t - 1
     ·rw[if_pos e]at hx;rw[←ZO2 hx];exact h5 0 (j - a) _ y (by omega) (by omega) (by omega) hx0 hy
     ·rw[if_neg e]at hx;exact h4 (a+(i - a)) (a+(j - a)) x y (by omega) (by omega) (by omega) hx hy
    ·dsimp only at q1 q2;obtain⟨k',w1,w2⟩:=hold k x q1 hx;rw[hat j (by omega) q3]at hy
     by_cases e:j=t - 1
     ·rw[if_pos e]at hy;rw[←ZO2 hy];exact ZH3 h3 k' _ x w1 hx0 w2
     ·rw[if_neg e]at hy;exact h5 k' j x y w1 (by omega) q3 w2 hy
   ·obtain rfl:t=0:=by omega
    rw[decide_eq_false (show ¬((0:Nat):Int) - 1≥0 by omega),cond_false,ZnD];exact⟨h2,h4⟩)
  refine ZnM l2 ?_;intro d hd;unfold ZsL;rw[ZnD];exact hd
 unfold ZqC;rw[ZnE];refine ZnM Zd fun d hd=> ?_
 rw[ZnH,ZnD];exact⟨by rw[hd.1.len];simp,hd⟩
end Go.Proofs
namespace Go.Proofs
open Go Eng
def Low (a b:Nat) (d:List En1):Prop:=a=0∨∀x,d[a - 1]? =some x→∀k y,a≤k→k < b→d[k]? =some y→Le x y
theorem Low.rg {a b:Nat} {D d:List En1} (h:Low a b D) (hr:Rg a b D d):Low a b d:=by
 rcases h with h |h
 ·exact .inl h
 by_cases h0:a=0
 ·exact .inl h0
 refine .inr fun x hx k y h1 h2 hy=> ?_
 rw[hr.2 (a - 1) (.inl (by omega))]at hx;obtain⟨k',q1,q2,q3⟩:=hr.mem h1 h2 hy;exact h x hx k' y q1 q2 q3
def Ins (a i j:Nat) (d:List En1):Prop:=(∀p q x y,a≤p→p < q→q < i→p≠j→q≠j→d[p]? =some x→d[q]? =some y→Le x y)∧∀q x y,j < q→q < i→d[j]? =some x→d[q]? =some y→Le x y
theorem ZGd {D:List En1} [Gds D] (hn:D.length≤1000) {a b i:Nat} (hai:a+2≤i) (hib:i < b) (hb:b≤D.length) {j0:Int} (hlow:Low a b D) (hI:Ins a i (i - 1) D):
  wp (Zoa big (a:Int) (b:Int) (i:Int) j0 ((i - 1:Nat):Int) D) (fun x=>∃d,x=((a:Int),(b:Int),(i:Int),j0,d)∧Rg a b D d∧Srt a i d):=by
 refine ZoV Zwv (fun s:Nat×List En1=>((a:Int),(b:Int),(i:Int),j0,(s.1:Int),s.2)) (fun s=>a≤s.1∧s.1 < i∧Rg a b D s.2∧Ins a i s.1 s.2) (fun s=>s.1)
  (Q:=fun x=>∃d,x=((a:Int),(b:Int),(i:Int),j0,d)∧Rg a b D d∧Srt a i d) (i - 1,D) ⟨by dsimp only;omega,by dsimp only;omega,.refl _ _ _,hI⟩ (by dsimp only;omega) ?_
 rintro rec ⟨j,d⟩ ⟨h1,h2,h3,h4,h5⟩ ih;dsimp only at h1 h2 h3 h4 h5 ih;have hl:=h3.len;haveI:=h3.gds;have hj:j < d.length:=by omega
 unfold ZrF Zpu;dsimp only;have done:(a < j→∀h:j - 1 < d.length,Le d[j - 1] d[j])→Srt a i d:=by
  intro hle p q x y q1 q2 q3 hx hy
  by_cases e1:p=j
  ·subst e1;exact h5 q x y q2 q3 hx hy
  ·by_cases e2:q=j
   ·subst e2;have hjl:q - 1 < d.length:=by omega
    have hb1:=hle (by omega) hjl;rw[ZOR hj]at hy;rw[←ZO2 hy]
    by_cases e3:p=q - 1
    ·subst e3;rw[ZOR hjl]at hx;rw[←ZO2 hx];exact hb1
    ·exact(h4 p (q - 1) x _ q1 (by omega) (by omega) e1 (by omega) hx (ZOR hjl)).trans hb1
   ·exact h4 p q x y q1 q2 q3 e1 e2 hx hy
 by_cases hc:1≤j
 ·have hj1:j - 1 < d.length:=by omega
  rw[decide_eq_true (show (j:Int)≥1 by omega),cond_true,show (j:Int) - 1=((j - 1:Nat):Int) by omega,ZnH,ZOM,ZOM,ZOR hj,ZnE,ZnD,ZnH,ZnH,ZOR hj1,ZnE,ZnD,ZyM,ZnE,ZnD];refine⟨Zoj hj,ZnI (by omega),Zoj hj1, ?_⟩
  by_cases ho:ZAf d[j] d[j - 1] < 0
  ·have haj:a < j:=by
    rcases ZO1 h1 with h |h
    ·exact h
    ·exfalso;rcases(hlow.rg h3)with h0 |h0
     ·omega
     ·have:=h0 d[j - 1] (by rw[h];exact ZOR hj1) j d[j] (by omega) (by omega) (ZOR hj);unfold Le at this;have:=ZDa d[j - 1] d[j];omega
   rw[decide_eq_true ho,ZOL,cond_false];simp only[ZnH,ZnE,ZnD];refine⟨ZnI (by omega),ZnI (by omega),Zoj hj1,Zoj hj,Zoj hj,Zo3 ⟨by omega,by rw[ZOW];omega⟩,ZnI (by omega), ?_⟩;have hg:=ZAA hj hj1;have hgb:∀k z,(sw d j (j - 1) hj hj1)[k]? =some z→k < d.length:=fun k z hz=>by
    have:=(ZOS.1 hz).1
    rwa [ZDu]at this
   refine ih (j - 1,sw d j (j - 1) hj hj1) ⟨by dsimp only;omega,by dsimp only;omega,h3.trans (ZDt hj hj1 (by omega) (by omega) (by omega) (by omega)),fun p q x y q1 q2 q3 e1 e2 hx hy=> ?_,fun q x y q2 q3 hx hy=> ?_⟩ (by dsimp only;omega)
   ·dsimp only at e1 e2 hx hy;rw[hg _ (hgb _ _ hx),if_neg e1]at hx;rw[hg _ (hgb _ _ hy),if_neg e2]at hy
    by_cases e3:p=j
    ·rw[if_pos e3]at hx;rw[if_neg (by omega)]at hy;rw[←ZO2 hx];exact h4 (j - 1) q _ y (by omega) (by omega) q3 (by omega) (by omega) (ZOR hj1) hy
    ·rw[if_neg e3]at hx
     by_cases e4:q=j
     ·rw[if_pos e4]at hy;rw[←ZO2 hy];exact h4 p (j - 1) x _ q1 (by omega) (by omega) e3 (by omega) hx (ZOR hj1)
     ·rw[if_neg e4]at hy;exact h4 p q x y q1 q2 q3 e3 e4 hx hy
   ·dsimp only at q2 hx hy;rw[hg _ hj1,if_pos rfl]at hx;rw[hg _ (hgb _ _ hy),if_neg (by omega)]at hy;rw[←ZO2 hx]
    by_cases e4:q=j
    ·rw[if_pos e4]at hy;rw[←ZO2 hy];exact .of_lt ho
    ·rw[if_neg e4]at hy;exact h5 q _ y (by omega) q3 (ZOR hj) hy
  ·rw[decide_eq_false ho,ZLj,cond_true,ZnD];exact⟨d,rfl,h3,done fun _ _=>Zyn ho⟩
 ·rw[decide_eq_false (show ¬(j:Int)≥1 by omega),cond_false,ZnD];exact⟨d,rfl,h3,done fun h=>by omega⟩
theorem ZFG {D:List En1} [Gds D] (hn:D.length≤1000) {a b i:Nat} (hai:a+1≤i) (hib:i+2≤b) (hb:b≤D.length) {j0:Int}:
  wp (Zn9 big (a:Int) (b:Int) (i:Int) j0 ((i+1:Nat):Int) D) (fun x=>∃d,x=((a:Int),(b:Int),(i:Int),j0,d)∧Rg i b D d):=by
 refine ZoV Zwu (fun s:Nat×List En1=>((a:Int),(b:Int),(i:Int),j0,(s.1:Int),s.2)) (fun s=>i+1≤s.1∧s.1≤b∧Rg i b D s.2) (fun s=>b - s.1)
  (Q:=fun x=>∃d,x=((a:Int),(b:Int),(i:Int),j0,d)∧Rg i b D d) (i+1,D) ⟨ZO0 _,by dsimp only;omega,.refl _ _ _⟩ (by dsimp only;omega) ?_
 rintro rec ⟨j,d⟩ ⟨h1,h2,h3⟩ ih;dsimp only at h1 h2 h3 ih;have hl:=h3.len;haveI:=h3.gds;unfold ZrD Zpt;dsimp only
 by_cases hc:j < b
 ·have hj:j < d.length:=by omega
  have hj1:j - 1 < d.length:=by omega
  rw[decide_eq_true (show (j:Int) < (b:Int) by omega),cond_true,show (j:Int) - 1=((j - 1:Nat):Int) by omega,ZnH,ZOM,ZOM,ZOR hj,ZnE,ZnD,ZnH,ZnH,ZOR hj1,ZnE,ZnD,ZyM,ZnE,ZnD];refine⟨Zoj hj,ZnI (by omega),Zoj hj1, ?_⟩
  by_cases ho:ZAf d[j] d[j - 1] < 0
  ·rw[decide_eq_true ho,ZOL,cond_false];simp only[ZnH,ZnE,ZnD];refine⟨ZnI (by omega),ZnI (by omega),Zoj hj1,Zoj hj,Zoj hj,Zo3 ⟨by omega,by rw[ZOW];omega⟩,ZnI (by omega), ?_⟩;exact ih (j+1,sw d j (j - 1) hj hj1) ⟨by dsimp only;omega,by dsimp only;omega,h3.trans (ZDt hj hj1 (by omega) (by omega) (by omega) (by omega))⟩ (by dsimp only;omega)
  ·rw[decide_eq_false ho,ZLj,cond_true,ZnD];exact⟨d,rfl,h3⟩
 ·rw[decide_eq_false (show ¬(j:Int) < (b:Int) by omega),cond_false,ZnD];exact⟨d,rfl,h3⟩
end Go.Proofs
namespace Go.Proofs
open Go Eng
theorem ZJd {d:List En1} [Gds d] (hn:d.length≤1000) {a b i:Nat} (hai:a+1≤i) (hib:i≤b) (hb:b≤d.length) {j0:Int} (hS:Srt a i d):
  wp (ZnZ big (a:Int) (b:Int) (i:Int) j0 d) (fun x=>∃i':Nat,x=((a:Int),(b:Int),(i':Int),j0,d)∧a+1≤i'∧i'≤b∧Srt a i' d∧∀h:i' < b,ZAf (d[i']'(by omega)) (d[i' - 1]'(by omega)) < 0):=by
 refine ZoV Zww (fun i:Nat=>((a:Int),(b:Int),(i:Int),j0,d)) (fun i=>a+1≤i∧i≤b∧Srt a i d) (fun i=>b - i)
  (Q:=fun x=>∃i':Nat,x=((a:Int),(b:Int),(i':Int),j0,d)∧a+1≤i'∧i'≤b∧Srt a i' d∧∀h:i' < b,ZAf (d[i']'(by omega)) (d[i' - 1]'(by omega)) < 0) i ⟨hai,hib,hS⟩ (by omega) ?_
 rintro rec i ⟨h1,h2,h3⟩ ih;unfold ZrH Zpv ZoE;dsimp only
 by_cases hc:i < b
 ·have hi:i < d.length:=by omega
  have hi1:i - 1 < d.length:=by omega
  rw[decide_eq_true (show (i:Int) < (b:Int) by omega),cond_true,show (i:Int) - 1=((i - 1:Nat):Int) by omega,ZnH,ZOM,ZOM,ZOR hi,ZnE,ZnD,ZnH,ZnH,ZOR hi1,ZnE,ZnD,ZyM,ZnE,ZnD];refine⟨Zoj hi,ZnI (by omega),Zoj hi1, ?_⟩
  by_cases ho:ZAf d[i] d[i - 1] < 0
  ·rw[decide_eq_true ho,ZOL,cond_false,ZnD];exact⟨i,rfl,h1,h2,h3,fun _=>ho⟩
  ·rw[decide_eq_false ho,ZLj,cond_true,ZnH];refine⟨ZnI (by omega),ih (i+1) ⟨by omega,by omega,fun p q x y q1 q2 q3 hx hy=> ?_⟩ (by omega)⟩
   by_cases e:q=i
   ·subst e;rw[ZOR hi]at hy;rw[←ZO2 hy]
    by_cases e2:p=q - 1
    ·subst e2;rw[ZOR hi1]at hx;rw[←ZO2 hx];exact Zyn ho
    ·exact(h3 p (q - 1) x _ q1 (by omega) (by omega) hx (ZOR hi1)).trans (Zyn ho)
   ·exact h3 p q x y q1 q2 (by omega) hx hy
 ·rw[decide_eq_false (show ¬(i:Int) < (b:Int) by omega),cond_false,cond_false,ZnD];exact⟨i,rfl,h1,h2,h3,fun h=>absurd h hc⟩
theorem Srt.rg {a i b:Nat} {D d:List En1} (h:Srt a i D) (hr:Rg i b D d):Srt a i d:=fun p q x y q1 q2 q3 hx hy=>h p q x y q1 q2 q3 (by rw[←hr.2 p (.inl (by omega))];exact hx) (by rw[←hr.2 q (.inl q3)];exact hy)
theorem ZFI {D:List En1} [Gds D] (hn:D.length≤1000) {a b:Nat} (hab:a+1≤b) (hb:b≤D.length) (hlow:Low a b D):
  wp (ZoJ D (a:Int) (b:Int)) (fun x=>Rg a b D x.2∧(x.1=true→Srt a b x.2)):=by
 have Zd:wp (ZoS D (a:Int) (b:Int)) (fun x=>Rg a b D x.2∧(x.1=true→Srt a b x.2)):=by
  unfold ZoS;rw[ZnH,ZnE,show (a:Int)+1=((a+1:Nat):Int) by omega];refine⟨ZnI (by omega), ?_⟩;refine ZnM (Q:=fun x=>(∃f d,x= .ret (f,d)∧Rg a b D d∧(f=true→Srt a b d))∨∃d,x= .brk d∧Rg a b D d) ?_ ?_
  ·refine ZoV Zwx (fun s:Nat×Nat×List En1=>((a:Int),(b:Int),(s.1:Int),(s.2.1:Int),s.2.2)) (fun s=>a+1≤s.1∧s.1≤b∧s.2.1≤5∧Rg a b D s.2.2∧Srt a s.1 s.2.2) (fun s=>5 - s.2.1)
    (Q:=fun x=>(∃f d,x= .ret (f,d)∧Rg a b D d∧(f=true→Srt a b d))∨∃d,x= .brk d∧Rg a b D d) (a+1,0,D) ⟨ZO0 _,hab,Nat.zero_le _,.refl _ _ _,fun p q x y q1 q2 q3=>by dsimp only at q3;omega⟩ (by dsimp only;omega) ?_
   rintro rec ⟨i,j,d⟩ ⟨h1,h2,h3,h4,h5⟩ ih;dsimp only at h1 h2 h3 h4 h5 ih;have hl:=h4.len;haveI:=h4.gds;unfold ZrJ Zpw;dsimp only
   by_cases hj:j < 5
   ·rw[decide_eq_true (show (j:Int) < 5 by omega),cond_true,ZnE];refine ZnM (ZJd (d:=d) (by omega) h1 h2 (by omega) h5) ?_;rintro _ ⟨i,rfl,g1,g2,g3,g4⟩;dsimp only;unfold ZpH
    by_cases e:i=b
    ·rw[show ((i:Int) == (b:Int))=true by rw[e];simp,cond_true,ZnD];exact .inl ⟨true,d,rfl,h4,fun _=>e▸g3⟩
    ·have hib:i < b:=by omega
     have ho:=g4 hib;have hi:i < d.length:=by omega
     have hi1:i - 1 < d.length:=by omega
     rw[show ((i:Int) == (b:Int))=false by rw[beq_eq_false_iff_ne];omega,cond_false,ZnH,ZnV];refine⟨ZnI (by omega),fun _=> ?_,fun _=> ?_⟩
     ·rw[ZnD];exact .inl ⟨false,d,rfl,h4,fun h=>by cases h⟩
     ·
      have hg:=ZAA hi hi1;have hsr:Rg a b d (sw d i (i - 1) hi hi1):=ZDt hi hi1 (by omega) (by omega) (by omega) (by omega);have next:∀d',Rg a b D d'→Srt a i d'→wp (rec ((a:Int),(b:Int),(i:Int),(j:Int)+1,d')) (fun x=>(∃f d,x= .ret (f,d)∧Rg a b D d∧(f=true→Srt a b d))∨∃d,x= .brk d∧Rg a b D d):=fun d' q1 q2=>ih (i,j+1,d') ⟨g1,by dsimp only;omega,by dsimp only;omega,q1,q2⟩ (by dsimp only;omega)
      have j4:∀d',Rg a b D d'→Srt a i d'→wp (Zob (fun a1 a2 a3 a4 a5=>rec (a1,a2,a3,a4,a5)) (a:Int) (b:Int) (i:Int) (j:Int) (decide ((b:Int) - (i:Int)≥2)) d') (fun x=>(∃f d,x= .ret (f,d)∧Rg a b D d∧(f=true→Srt a b d))∨∃d,x= .brk d∧Rg a b D d):=by
       intro d' q1 q2;haveI:=q1.gds;unfold Zob ZpF
       by_cases hr:i+2≤b
       ·rw[decide_eq_true (show (b:Int) - (i:Int)≥2 by omega),cond_true,ZnH,ZnE,show (i:Int)+1=((i+1:Nat):Int) by omega];refine⟨ZnI (by omega),ZnM (ZFG (D:=d') (by rw[q1.len];omega) g1 hr (by rw[q1.len];omega)) ?_⟩;rintro _ ⟨d2,rfl,w1⟩;dsimp only;rw[ZnH];exact⟨ZnI (by omega),next d2 (q1.trans (w1.mono (by omega) (ZO0 _))) (q2.rg w1)⟩
       ·rw[decide_eq_false (show ¬(b:Int) - (i:Int)≥2 by omega),cond_false,ZnH];exact⟨ZnI (by omega),next d' q1 q2⟩
      rw[show (i:Int) - 1=((i - 1:Nat):Int) by omega];simp only[ZnH,ZOM];rw[ZOR hi1,ZOR hi];simp only[ZnE,ZnD,ZnH];refine⟨ZnI (by omega),ZnI (by omega),Zoj hi1,Zoj hi,Zoj hi,Zo3 ⟨by omega,by rw[ZOW];omega⟩,ZnI (by omega), ?_⟩;show wp (bif decide ((i:Int) - (a:Int)≥2)then _ else _) _
      by_cases h2a:a+2≤i
      ·rw[decide_eq_true (show (i:Int) - (a:Int)≥2 by omega),cond_true];simp only[ZnH,ZnE];refine⟨ZnI (by omega), ?_⟩;have hI:Ins a i (i - 1) (sw d i (i - 1) hi hi1):=by refine⟨fun p q x y q1 q2 q3 e1 e2 hx hy=> ?_,fun q x y q2 q3=>by omega⟩;rw[hg _ (by omega),if_neg e1,if_neg (by omega)]at hx;rw[hg _ (by omega),if_neg e2,if_neg (by omega)]at hy;exact g3 p q x y q1 q2 q3 hx hy
       refine ZnM (ZGd (D:=sw d i (i - 1) hi hi1) (by rw[ZDu];omega) h2a hib (by rw[ZDu];omega) ((hlow.rg h4).rg hsr) hI) ?_;rintro _ ⟨d2,rfl,w1,w2⟩;dsimp only;unfold ZpG;rw[ZnH];exact⟨ZnI (by omega),j4 d2 ((h4.trans hsr).trans w1) w2⟩
      ·rw[decide_eq_false (show ¬(i:Int) - (a:Int)≥2 by omega),cond_false,ZnH];exact⟨ZnI (by omega),j4 _ (h4.trans hsr) fun p q x y q1 q2 q3=>by omega⟩
   ·rw[decide_eq_false (show ¬(j:Int) < 5 by omega),cond_false,ZnD];exact .inr ⟨d,rfl,h4⟩
  ·rintro x (⟨f,d,rfl,r1,r2⟩ |⟨d,rfl,r1⟩)
   ·dsimp only;rw[ZnD];exact⟨r1,r2⟩
   ·unfold ZpE;dsimp only;rw[ZnD];exact⟨r1,fun h=>by cases h⟩
 unfold ZoJ;rw[ZnE];refine ZnM Zd fun x hx=> ?_
 rw[ZnH,ZnD];exact⟨by rw[hx.1.len];simp,hx⟩
end Go.Proofs
namespace Go.Proofs
open Go Eng
theorem ZGq (Pre:List En1) (b i0:Int) {A0 C0:List En1} {x:En1} (hlen:(Pre++(A0++x::C0)).length≤1000) (hA:∀e∈A0,Gdm e) (hx:Gdm x):
  wp (Zod big (Pre.length:Int) b i0 ((Pre.length+A0.length:Nat):Int) (Pre++(A0++x::C0))) (fun y=>y=((Pre.length:Int),b,i0,Pre++(ZEr ltE x A0++C0))):=by
 refine ZoV ZxY (fun(s:List En1×List En1)=>((Pre.length:Int),b,i0,((Pre.length+s.1.length:Nat):Int),Pre++(s.1++x::s.2))) (fun s=>ZEr ltE x s.1++s.2=ZEr ltE x A0++C0∧(Pre++(s.1++x::s.2)).length≤1000∧∀e∈s.1,Gdm e) (fun s=>s.1.length)
  (Q:=fun y=>y=((Pre.length:Int),b,i0,Pre++(ZEr ltE x A0++C0))) (A0,C0) ⟨rfl,hlen,hA⟩ (by dsimp only;simp only[ZOU]at hlen;omega) ?_
 rintro rec ⟨A,C⟩ ⟨hR,hl,hG⟩ ih;dsimp only at hR hl hG ih⊢
 unfold ZtL ZqA Zpo;dsimp only;rcases List.eq_nil_or_concat A with rfl |⟨A,p,rfl⟩
 ·rw[ZnV];refine⟨fun h=>by simp at h,fun _=> ?_⟩;rw[cond_false,ZnD];rw[ZF8]at hR;rw[←hR];rfl
 ·rw[List.concat_eq_append]at*
  simp only[ZOU,ZOV,List.length_nil]at hl;have e0:Pre++((A++[p])++x::C)=(Pre++A)++p::x::C:=by simp
  have hla:(Pre++A).length=Pre.length+A.length:=ZOU;have ei:((Pre.length+(A++[p]).length:Nat):Int)=(((Pre++A).length+1:Nat):Int):=by rw[hla,ZOU,ZOX];omega
  have ej:((Pre.length+(A++[p]).length:Nat):Int) - 1=((Pre++A).length:Int):=by rw[ei];omega
  have g1:((Pre++A)++p::x::C)[(Pre++A).length+1]? =some x:=by rw[ZOP (by omega),show (Pre++A).length+1 - (Pre++A).length=1 by omega];rfl
  have g0:((Pre++A)++p::x::C)[(Pre++A).length]? =some p:=by rw[ZOP (by omega),Nat.sub_self];rfl
  rw[ZnV];refine⟨fun _=> ?_,fun h=>by simp only[decide_eq_false_iff_not]at h;rw[ei,hla]at h;omega⟩;rw[ej,ei,e0];simp only[ZOM,g1,g0,Option.bind_some];have ll:((Pre++A)++p::x::C).length=(Pre++A).length+2+C.length:=by rw[ZOU (bs:=p::x::C)];simp only[ZOV];omega
  have lx:inR (((Pre++A).length+1:Nat):Int) (((Pre++A)++p::x::C).length:Int)=true:=Zo3 ⟨by omega,by omega⟩;have lp:inR ((Pre++A).length:Int) (((Pre++A)++p::x::C).length:Int)=true:=Zo3 ⟨by omega,by omega⟩;have lp':inR ((Pre++A).length:Int) ((((Pre++A)++p::x::C).set ((Pre++A).length+1) p).length:Int)=true:=by rw[ZOW];exact lp
  have ki:inK .i64 ((Pre++A).length:Int)=true:=ZnI (by omega);rw[lx,lp,lp',ki];simp only[chk_true];haveI:Gdm p:=hG p (by simp);rw[ZyM,ZnE,ZnD];rw[ZFn]at hR;have hlt:ltE x p=decide (ZAf x p < 0):=rfl;rw[ZnV];refine⟨fun hc=> ?_,fun hc=> ?_⟩
  ·rw[hlt,if_pos hc]at hR;rw[ZFa];have:=ih (A,p::C) ⟨by rw[←hR];simp,by simp only[ZOU,ZOV];omega,fun e he=>hG e (List.mem_append_left _ he)⟩ (by simp);dsimp only at this;rw[←hla,←List.append_assoc]at this;exact this
  ·rw[hlt,if_neg (by rw[hc];simp)]at hR;rw[ZnD,←hR];simp
theorem ZJx (Pre M Suf:List En1) (hl:(Pre++(M++Suf)).length≤1000) (hM:∀e∈M,Gdm e):
  ZoI (Pre++(M++Suf)) (Pre.length:Int) ((Pre.length+M.length:Nat):Int)=some (Pre++(ZzY ltE M++Suf)):=by
 have hlen:Pre.length+M.length+Suf.length≤1000:=by simp only[ZOU]at hl;omega
 have key:ZpV (Pre++(M++Suf)) (Pre.length:Int) ((Pre.length+M.length:Nat):Int)=some (Pre++(ZzY ltE M++Suf)):=by
  refine ZrY ?_;unfold ZpV ZqX;rw[ZnH,ZnE];refine⟨ZnI (by omega), ?_⟩;have out:∀(k f:Nat),k+1≤M.length→M.length - (k+1) < f→wp (ZoA f (Pre.length:Int) ((Pre.length+M.length:Nat):Int) ((Pre.length+(k+1):Nat):Int) (Pre++((ZzY ltE (M.take (k+1))++M.drop (k+1))++Suf))) (fun y=>y=Pre++(ZzY ltE M++Suf)):=by
   intro k f
   induction f generalizing k with
   |zero=>intro _ h;omega
   |succ f ih=>
    intro hk hf;show wp (Zol _ _ _ _ _) _;unfold Zol ZqY;rw[ZnV];refine⟨fun hc=> ?_,fun hc=> ?_⟩
    ·simp only[decide_eq_true_eq]at hc;have hk2:k+1 < M.length:=by omega
     have hlen2:(ZzY ltE (M.take (k+1))).length=k+1:=by rw[ZA9,List.length_take];omega
     have e:M.drop (k+1)=M[k+1]::M.drop (k+2):=List.drop_eq_getElem_cons hk2;rw[e];have:=ZGq Pre ((Pre.length+M.length:Nat):Int) ((Pre.length+(k+1):Nat):Int) (A0:=ZzY ltE (M.take (k+1))) (C0:=M.drop (k+2)++Suf) (x:=M[k+1]) (by simp only[ZOU,ZOV,hlen2,List.length_drop];omega) (fun e he=>hM e (List.mem_of_mem_take ((ZCm _).mem_iff.1 he))) (hM _ (List.getElem_mem hk2));rw[hlen2]at this;rw[ZnE,List.append_assoc,List.cons_append];refine ZnM this ?_;rintro y rfl;dsimp only;rw[ZnH];refine⟨ZnI (by omega), ?_⟩;have e2:ZEr ltE M[k+1] (ZzY ltE (M.take (k+1)))=ZzY ltE (M.take (k+2)):=by rw[List.take_succ_eq_append_getElem hk2,ZED]
     rw[e2];have:=ih (k+1) (by omega) (by omega);rw[show ((Pre.length+(k+1):Nat):Int)+1=((Pre.length+(k+1+1):Nat):Int) by omega];rw[List.append_assoc]at this;exact this
    ·simp only[decide_eq_false_iff_not]at hc;have:k+1=M.length:=by omega
     rw[ZnD,this,List.take_length,List.drop_of_length_le (ZO0 _),List.append_nil]
  by_cases h0:M.length=0
  ·have:M=[]:=List.eq_nil_of_length_eq_zero h0;subst this;obtain⟨n,hn⟩:=ZEn 1 (by omega);rw[hn];show wp (Zol _ _ _ _ _) _;unfold Zol;rw[List.length_nil,decide_eq_false (by omega),cond_false,ZnD,ZnD];rfl
  ·have:=out 0 big (by omega) (by rw[big_eq];omega);have e:ZzY ltE (M.take (0+1))++M.drop (0+1)=M:=by
    cases M with
    |nil=>simp at h0
    |cons x M=>rfl
   rw[e]at this;rw[show ((Pre.length:Int))+1=((Pre.length+(0+1):Nat):Int) by omega];refine ZnM this ?_;rintro y rfl;rw[ZnD]
 unfold ZoI;rw[key,Option.bind_some];have:(Pre++(ZzY ltE M++Suf)).length=(Pre++(M++Suf)).length:=by simp only[ZOU,ZA9]
 rw[this,decide_eq_true rfl];rfl
theorem ZGW (l:List En1):(ZzY ltE l).Pairwise Le:=
 ZFm (fun _=>True) Le (fun x p _ _ h=>by have:=of_decide_eq_true h;unfold Le;omega) (fun x p _ _ h=>Zyn (of_decide_eq_false h)) (fun a b c _ _ _ h1 h2=>h1.trans h2) l fun _ _=>trivial
theorem ZLC {D:List En1} [Gds D] (hn:D.length≤1000) {a b:Nat} (hab:a≤b) (hb:b≤D.length):
  wp (ZoI D (a:Int) (b:Int)) (fun d=>Rg a b D d∧Srt a b d):=by
 have e:D=D.take a++((D.drop a).take (b - a)++(D.drop a).drop (b - a)):=by rw[ZOZ,ZOZ]
 have l1:(D.take a).length=a:=by rw[List.length_take];omega
 have l2:((D.drop a).take (b - a)).length=b - a:=by rw[List.length_take,List.length_drop];omega
 generalize D.take a=Pre at e l1;generalize (D.drop a).take (b - a)=M at e l2;generalize (D.drop a).drop (b - a)=Suf at e;subst e;have h:=ZJx Pre M Suf hn fun e he=>Gds.all (d:=Pre++(M++Suf)) e (List.mem_append_right _ (List.mem_append_left _ he))
 rw[l1,show ((a+M.length:Nat):Int)=(b:Int) by omega]at h;rw[h,ZnD];have l3:(ZzY ltE M).length=M.length:=ZA9 M;have hs:=ZGW M;refine⟨⟨((ZCm M).append_right Suf).append_left Pre,fun k hk=> ?_⟩,fun i j x y q1 q2 q3 hx hy=> ?_⟩
 ·rcases hk with hk |hk
  ·rw[ZOO (by omega),ZOO (by omega)]
  ·rw[ZOP (by omega),ZOP (by omega),ZOP (by omega),ZOP (by omega),l3]
 ·rw[ZOP (by omega),ZOO (by omega)]at hx hy;obtain⟨hi,rfl⟩:=ZOS.1 hx;obtain⟨hj,rfl⟩:=ZOS.1 hy;exact List.pairwise_iff_getElem.1 hs _ _ hi hj (by omega)
end Go.Proofs
namespace Go.Proofs
open Go Eng
theorem Low.sub {a b c:Nat} {d:List En1} (h:Low a b d) (hc:c≤b):Low a c d:=by
 rcases h with h |h
 ·exact .inl h
 ·exact .inr fun x hx k y h1 h2 hy=>h x hx k y h1 (by omega) hy
theorem ZLk:∀(n:Nat) {D:List En1} [Gds D] (_:D.length≤200) {a0 b0:Nat} (_:a0≤b0) (_:b0≤D.length) (_:b0 - a0 < n) (_:Low a0 b0 D) {lim:Int} (_:0≤lim) (_:lim≤1000),
  wp (ZnJ n D (a0:Int) (b0:Int) lim) (fun d=>Rg a0 b0 D d∧Srt a0 b0 d):=by
 intro n
 induction n with
 |zero=>intro D _ _ a0 b0 _ _ h;omega
 |succ n IH=>
  intro D _ hn a0 b0 hab hb hfu hlow lim hl0 hl1;show wp ((ZqT (ZnJ n) D (a0:Int) (b0:Int) lim).bind _) _;rw[ZnE];refine ZnM (Q:=fun d=>Rg a0 b0 D d∧Srt a0 b0 d) ?_ fun d hd=>by rw[ZnH,ZnD];exact⟨by rw[hd.1.len];simp,hd⟩
  unfold ZqT;rw[ZnE];refine ZnM (ZoV (ZzM (ZnJ n)) (fun s:Nat×Nat×Int×Bool×Bool×List En1=>((s.1:Int),(s.2.1:Int),s.2.2.1,s.2.2.2.1,s.2.2.2.2.1,s.2.2.2.2.2))
   (fun s=>a0≤s.1∧s.1≤s.2.1∧s.2.1≤b0∧(0≤s.2.2.1∧s.2.2.1≤1000)∧Rg a0 b0 D s.2.2.2.2.2∧Low s.1 s.2.1 s.2.2.2.2.2∧∀d',Rg s.1 s.2.1 s.2.2.2.2.2 d'→Srt s.1 s.2.1 d'→Srt a0 b0 d') (fun s=>s.2.1 - s.1)
   (Q:=fun x=>∃d,x= .ret d∧Rg a0 b0 D d∧Srt a0 b0 d) (a0,b0,lim,true,true,D) ⟨ZO0 _,hab,ZO0 _,⟨hl0,hl1⟩,.refl _ _ _,hlow,fun d' _ h=>h⟩ (by dsimp only;omega) ?_) ?_
  ·rintro rec ⟨a,b,lim,wb,wq,d⟩ ⟨h1,h2,h3,⟨h4,h5⟩,h6,h7,h8⟩ ih;dsimp only at h1 h2 h3 h4 h5 h6 h7 h8 ih;have hl:=h6.len;haveI:=h6.gds;have up:∀d',Rg a b d d'→Rg a0 b0 D d':=fun d' h=>h6.trans (h.mono h1 h3)
   unfold ZvT Zsj;dsimp only;rw[ZnH];refine⟨ZnI (by omega), ?_⟩
   by_cases h12:(b:Int) - (a:Int)≤12
   ·rw[decide_eq_true h12,cond_true,ZnE];refine ZnM (ZLC (D:=d) (by omega) h2 (by omega)) ?_;rintro d' ⟨r1,r2⟩;rw[ZnD];exact⟨d',rfl,up d' r1,h8 d' r1 r2⟩
   rw[decide_eq_false h12,cond_false,ZnV];refine⟨fun _=> ?_,fun hlim=> ?_⟩
   ·rw[ZnE];refine ZnM (ZJz (D:=d) (by omega) (a:=a) (b:=b) (by omega) (by omega)) ?_;rintro d' ⟨r1,r2⟩;rw[ZnD];exact⟨d',rfl,up d' r1,h8 d' r1 r2⟩
   have hlim':lim≠0:=by simpa using hlim
   have j5:∀(pv:Nat) (L:Int) (len:Int) (d1:List En1) (f:Bool),a≤pv→pv < b→0≤L→L≤1000→len=((b - a:Nat):Int)→Rg a b d d1→
     (f=true→∃hp:pv < d1.length,∃ha:a - 1 < d1.length,0 < a∧¬ZAf d1[a - 1] d1[pv] < 0)→
     wp (Zpi (ZnJ n) (fun a1 a2 a3 a4 a5 a6=>rec (a1,a2,a3,a4,a5,a6)) (a:Int) (b:Int) L wb wq len (pv:Int) f d1) (fun x=>∃d,x= .ret d∧Rg a0 b0 D d∧Srt a0 b0 d):=by
    intro pv L len d1 f p1 p2 L0 L1 hlen r1 hf;have hl1:=r1.len;haveI:=r1.gds;have hlow1:=h7.rg r1;unfold Zpi;cases f with
    |true=>
     obtain⟨hp,ha,ha0,hnl⟩:=hf rfl;rw[cond_true,ZnE];refine ZnM (ZHR (D:=d1) (by omega) (by omega) p1 p2) ?_;rintro⟨m',d2⟩ ⟨⟨m,e,m1,m2,r2,p,q1,q2,q3⟩,q4⟩;dsimp only at e r2 q1 q2 q3 q4⊢
     subst e;have hpp:d1[pv]=p:=by rw[q1,ZOR hp]at q4;exact(ZO2 q4).symm
     have hl2:=r2.len;haveI:=r2.gds;have hlow2:=hlow1.rg r2;have ha2:d2[a - 1]? =some d1[a - 1]:=by rw[r2.2 (a - 1) (.inl (by omega)),ZOR ha]
     have hpa:Le p d1[a - 1]:=hpp▸Zyn hnl;have hall:∀k y,a≤k→k < b→d2[k]? =some y→Le d1[a - 1] y:=fun k y w1 w2 hy=>by
      rcases hlow2 with h |h
      ·omega
      ·exact h _ ha2 k y w1 w2 hy
     refine ih (m,b,L,wb,wq,d2) ⟨by dsimp only;omega,m2,h3,⟨L0,L1⟩,up d2 (r1.trans r2),.inr fun x hx k y w1 w2 hy=> ?_,fun d' s1 s2=> ?_⟩ (by dsimp only;omega)
     ·dsimp only at hx w1 hy;exact(Zyn (q2 (m - 1) x (by omega) (by omega) hx)).trans (.of_lt (q3 k y w1 w2 hy))
     ·dsimp only at s1 s2;refine h8 d' ((r1.trans r2).trans (s1.mono (by omega) (ZO0 _))) fun i j x y w1 w2 w3 hx hy=> ?_
      by_cases e1:i < m
      ·rw[s1.2 i (.inl e1)]at hx;have hxp:Le x p:=Zyn (q2 i x w1 e1 hx)
       by_cases e2:j < m
       ·rw[s1.2 j (.inl e2)]at hy;exact(hxp.trans hpa).trans (hall j y (by omega) (by omega) hy)
       ·obtain⟨k',u1,u2,u3⟩:=s1.mem (by omega) w3 hy;exact hxp.trans (.of_lt (q3 k' y u1 u2 u3))
      ·exact s2 i j x y (by omega) w2 w3 hx hy
    |false=>
     rw[cond_false,ZnE];refine ZnM (ZFf (D:=d1) (by omega) (by omega) p1 p2) ?_;rintro⟨m',ap,d2⟩ ⟨m,e,m1,m2,r2,p,q1,q2,q3⟩;dsimp only at e r2 q1 q2 q3⊢
     subst e;have hl2:=r2.len;haveI:=r2.gds;have hlow2:=hlow1.rg r2;rw[hlen,ZnH,ZnH,ZnH,ZnH,show Int.tdiv ((b - a:Nat):Int) 8=(((b - a) / 8:Nat):Int)from rfl,ZnV];refine⟨ZnI (by omega),ZnI (by omega),rfl,ZnI (by omega),fun _=> ?_,fun _=> ?_⟩
     ·rw[ZnE];refine ZnM (IH (D:=d2) (by omega) (a0:=a) (b0:=m) m1 (by omega) (by omega) (hlow2.sub (by omega)) L0 L1) ?_;rintro d3 ⟨r3,r4⟩;have hl3:=r3.len;haveI:=r3.gds;rw[ZnH,show (m:Int)+1=((m+1:Nat):Int) by omega];have hpm:d3[m]? =some p:=by rw[r3.2 m (.inr (ZO0 _))];exact q1
      have hhi:∀k y,m < k→k < b→d3[k]? =some y→Le p y:=fun k y w1 w2 hy=>by rw[r3.2 k (.inr (by omega))]at hy;exact Zyn (q3 k y w1 w2 hy)
      have hlo:∀k y,a≤k→k < m→d3[k]? =some y→Le y p:=fun k y w1 w2 hy=>by obtain⟨k',u1,u2,u3⟩:=r3.mem w1 w2 hy;exact .of_lt (q2 k' y u1 u2 u3)
      refine⟨ZnI (by omega),ih (m+1,b,L,_,ap,d3) ⟨by dsimp only;omega,by dsimp only;omega,h3,⟨L0,L1⟩,up d3 ((r1.trans r2).trans (r3.mono (ZO0 _) (by omega))),.inr fun x hx k y w1 w2 hy=> ?_,fun d' s1 s2=> ?_⟩ (by dsimp only;omega)⟩
      ·dsimp only at hx w1 hy;rw[show m+1 - 1=m by omega,hpm]at hx;rw[←ZO2 hx];exact hhi k y (by omega) w2 hy
      ·dsimp only at s1 s2;refine h8 d' (((r1.trans r2).trans (r3.mono (ZO0 _) (by omega))).trans (s1.mono (by omega) (ZO0 _))) fun i j x y w1 w2 w3 hx hy=> ?_
       by_cases e1:i < m
       ·rw[s1.2 i (.inl (by omega))]at hx
        by_cases e2:j < m
        ·rw[s1.2 j (.inl (by omega))]at hy;exact r4 i j x y w1 w2 e2 hx hy
        ·have hxp:=hlo i x w1 e1 hx
         by_cases e3:j=m
         ·subst e3;rw[s1.2 j (.inl (by omega)),hpm]at hy;rw[←ZO2 hy];exact hxp
         ·obtain⟨k',u1,u2,u3⟩:=s1.mem (by omega) w3 hy;exact hxp.trans (hhi k' y (by omega) u2 u3)
       ·by_cases e3:i=m
        ·subst e3;rw[s1.2 i (.inl (by omega)),hpm]at hx;rw[←ZO2 hx];obtain⟨k',u1,u2,u3⟩:=s1.mem (by omega) w3 hy;exact hhi k' y (by omega) u2 u3
        ·exact s2 i j x y (by omega) w2 w3 hx hy
     ·rw[ZnH,ZnE,show (m:Int)+1=((m+1:Nat):Int) by omega];have hlowr:Low (m+1) b d2:= .inr fun x hx k y w1 w2 hy=>by rw[show m+1 - 1=m by omega,q1]at hx;rw[←ZO2 hx];exact Zyn (q3 k y (by omega) w2 hy)
      refine⟨ZnI (by omega),ZnM (IH (D:=d2) (by omega) (a0:=m+1) (b0:=b) (by omega) (by omega) (by omega) hlowr L0 L1) ?_⟩;rintro d3 ⟨r3,r4⟩;have hl3:=r3.len;haveI:=r3.gds;have hpm:d3[m]? =some p:=by rw[r3.2 m (.inl (by omega))];exact q1
      have hhi:∀k y,m < k→k < b→d3[k]? =some y→Le p y:=fun k y w1 w2 hy=>by obtain⟨k',u1,u2,u3⟩:=r3.mem (by omega) w2 hy;exact Zyn (q3 k' y (by omega) u2 u3)
      have hlo:∀k y,a≤k→k < m→d3[k]? =some y→Le y p:=fun k y w1 w2 hy=>by rw[r3.2 k (.inl (by omega))]at hy;exact .of_lt (q2 k y w1 w2 hy)
      have r23:Rg a b d2 d3:=r3.mono (by omega) (ZO0 _);refine ih (a,m,L,_,ap,d3) ⟨h1,m1,by dsimp only;omega,⟨L0,L1⟩,up d3 ((r1.trans r2).trans r23),(hlow2.rg r23).sub (show m≤b by omega),fun d' s1 s2=> ?_⟩ (by dsimp only;omega);dsimp only at s1 s2;refine h8 d' (((r1.trans r2).trans r23).trans (s1.mono (ZO0 _) (by omega))) fun i j x y w1 w2 w3 hx hy=> ?_
      by_cases e2:j < m
      ·exact s2 i j x y w1 w2 e2 hx hy
      ·rw[s1.2 j (.inr (by omega))]at hy
       by_cases e1:i < m
       ·obtain⟨k',u1,u2,u3⟩:=s1.mem w1 e1 hx;have hxp:=hlo k' x u1 u2 u3
        by_cases e3:j=m
        ·subst e3;rw[hpm]at hy;rw[←ZO2 hy];exact hxp
        ·exact hxp.trans (hhi j y (by omega) w3 hy)
       ·rw[s1.2 i (.inr (by omega))]at hx
        by_cases e3:i=m
        ·subst e3;rw[hpm]at hx;rw[←ZO2 hx];exact hhi j y (by omega) w3 hy
        ·exact r4 i j x y (by omega) w2 w3 hx hy
   have j4:∀(pv:Nat) (L:Int) (len:Int) (d1:List En1),a≤pv→pv < b→0≤L→L≤1000→len=((b - a:Nat):Int)→Rg a b d d1→
     wp (Zpj (ZnJ n) (fun a1 a2 a3 a4 a5 a6=>rec (a1,a2,a3,a4,a5,a6)) (a:Int) (b:Int) L wb wq len (pv:Int) d1) (fun x=>∃d,x= .ret d∧Rg a0 b0 D d∧Srt a0 b0 d):=by
    intro pv L len d1 p1 p2 L0 L1 hlen r1;have hl1:=r1.len;haveI:=r1.gds;have hp:pv < d1.length:=by omega
    unfold Zpj
    by_cases ha:0 < a
    ·have ha1:a - 1 < d1.length:=by omega
     rw[decide_eq_true (show (a:Int) > 0 by omega),cond_true,show (a:Int) - 1=((a - 1:Nat):Int) by omega,ZnH,ZnH,ZOM,ZOM,ZOR ha1,ZnE,ZnD,ZnH,ZOR hp,ZnE,ZnD,ZyM,ZnE,ZnD];refine⟨ZnI (by omega),Zoj ha1,Zoj hp,j5 pv L len d1 _ p1 p2 L0 L1 hlen r1 fun hf=>⟨hp,ha1,ha, ?_⟩⟩;simpa using hf
    ·rw[decide_eq_false (show ¬(a:Int) > 0 by omega),cond_false];exact j5 pv L len d1 false p1 p2 L0 L1 hlen r1 fun h=>by cases h
   have j2:∀(pv:Nat) (h L:Int) (len:Int) (d1:List En1),a≤pv→pv < b→0≤L→L≤1000→len=((b - a:Nat):Int)→Rg a b d d1→
     wp (Zpk (ZnJ n) (fun a1 a2 a3 a4 a5 a6=>rec (a1,a2,a3,a4,a5,a6)) (a:Int) (b:Int) L wb wq len (pv:Int) h d1) (fun x=>∃d,x= .ret d∧Rg a0 b0 D d∧Srt a0 b0 d):=by
    intro pv h L len d1 p1 p2 L0 L1 hlen r1;have hl1:=r1.len;haveI:=r1.gds;have j3:∀f:Bool,wp (ZoG (ZnJ n) (fun a1 a2 a3 a4 a5 a6=>rec (a1,a2,a3,a4,a5,a6)) (a:Int) (b:Int) L wb wq len (pv:Int) f d1) (fun x=>∃d,x= .ret d∧Rg a0 b0 D d∧Srt a0 b0 d):=by
     intro f;unfold ZoG;cases f with
     |false=>rw[cond_false];exact j4 pv L len d1 p1 p2 L0 L1 hlen r1
     |true=>
      rw[cond_true,ZnE];refine ZnM (ZFI (D:=d1) (by omega) (by omega) (by omega) (h7.rg r1)) ?_;rintro⟨q,d2⟩ ⟨w1,w2⟩;dsimp only at w1 w2⊢
      cases q with
      |true=>
       rw[cond_true,ZnD];exact⟨d2,rfl,up d2 (r1.trans w1),h8 d2 (r1.trans w1) (w2 rfl)⟩
      |false=>rw[cond_false];exact j4 pv L len d2 p1 p2 L0 L1 hlen (r1.trans w1)
    unfold Zpk;rw[ZnV];refine⟨fun _=> ?_,fun _=>j3 _⟩;rw[ZnV];exact⟨fun _=>j3 _,fun _=>j3 _⟩
   have j1:∀(L:Int) (d1:List En1),0≤L→L≤1000→Rg a b d d1→
     wp (Zpl (ZnJ n) (fun a1 a2 a3 a4 a5 a6=>rec (a1,a2,a3,a4,a5,a6)) (a:Int) (b:Int) L wb wq ((b:Int) - (a:Int)) d1) (fun x=>∃d,x= .ret d∧Rg a0 b0 D d∧Srt a0 b0 d):=by
    intro L d1 L0 L1 r1;have hl1:=r1.len;haveI:=r1.gds;unfold Zpl;rw[ZnE];refine ZnM (ZHQ (d:=d1) (by omega) (a:=a) (b:=b) (by omega) (by omega)) ?_;rintro _ ⟨pv,h,rfl,p1,p2⟩;dsimp only;rw[ZnV];refine⟨fun _=> ?_,fun _=>j2 pv h L _ d1 p1 p2 L0 L1 (by omega) r1⟩;rw[ZnE];refine ZnM (ZGe (D:=d1) (by omega) h2 (by omega)) ?_;intro d2 r2;rw[ZnH,ZnH,ZnH,show (b:Int) - 1 - ((pv:Int) - (a:Int))=((b - 1 - (pv - a):Nat):Int) by omega];exact⟨ZnI (by omega),ZnI (by omega),ZnI (by omega),j2 _ 1 L _ d2 (by omega) (by omega) L0 L1 (by omega) (r1.trans r2)⟩
   rw[ZnV];refine⟨fun _=> ?_,fun _=>j1 lim d h4 h5 (.refl _ _ _)⟩;rw[ZnE];refine ZnM (ZIe (D:=d) (by omega) (a:=a) (b:=b) (by omega) (by omega)) ?_;intro d1 r1;rw[ZnH];exact⟨ZnI (by omega),j1 (lim - 1) d1 (by omega) (by omega) r1⟩
  ·rintro _ ⟨d,rfl,r1,r2⟩;dsimp only;rw[ZnD];exact⟨r1,r2⟩
end Go.Proofs
namespace Go.Proofs
open Go Eng
theorem lens:((List.range 201).all fun n:Nat=>match Zwe (IntKind.wrap .u64 (n:Int))with |some m=>decide (0≤m∧m≤1000) |none=>false)=true:=by kernel_rfl
theorem ZHJ {D:List En1} [Gds D] (hl:D.length≤200):wp (Zqv D) (fun r=>r.Perm D∧r.Pairwise Le):=by have h2:=ZON.1 lens D.length (ZOY.2 (by omega));split at h2;rotate_left;simp at h2;rename_i m hm;obtain⟨h3,h4⟩:=of_decide_eq_true h2;have key:=ZLk big (D:=D) hl (a0:=0) (b0:=D.length) (Nat.zero_le _) (ZO0 _) (by rw[big_eq];omega) (.inl rfl) h3 h4;unfold Zqv Ztw;rw[hm,Option.bind_some,ZnE,ZnE];refine ZnM key ?_;rintro r ⟨hr,hs⟩;rw[ZnD,ZnH,ZnD];refine⟨by rw[hr.len];simp,hr.1,List.pairwise_iff_getElem.2 fun i j hi hj hij=> ?_⟩;have:=hr.len;exact hs i j _ _ (Nat.zero_le _) hij (by omega) (ZOR hi) (ZOR hj)
end Go.Proofs
namespace Go.Proofs
open Go Eng
theorem ZDD {d:ZnA} (hd:ZsF d) {l:List Str} (h0:1≤l.length) (h1:l.length≤1000):wp (Zoe d l) (fun r=>r.1∈l∧ZsF r.2):=by
 unfold Zoe;rw[ZnE];refine ZnM (Zx7 hd (by omega)) fun⟨q,d1⟩ ⟨hq,hd1⟩=> ?_
 dsimp only at hq hd1⊢
 rw[ZnE,ZGz];refine⟨hq.1,by omega, ?_⟩;rw[ZnD];exact⟨List.getElem_mem _,hd1⟩
def ZB0:List Str:=ZDQ++[[105,100],[110,97,109,101],[85,110,105,116,32,80,114,105,99,101],[99,105,116,121],[117,110,105,116],[112,114,105,99,101],[105,100,50],[116],[111,114,100,101,114,115],[115,97,109,101]]
theorem ZG3:(ZB0.all fun s=>decide (Zqf s=some true)&&decide (s.length≤10))=true:=by kernel_rfl
theorem dok {s:Str} (h:s∈ZB0):Zqf s=some true∧s.length≤10:=by have:=ZON.1 ZG3 s h;simpa using this
theorem in_d {s:Str} (h:s∈ZDQ):s∈ZB0:=List.mem_append_left _ h
def ZDo (c:ZnQ):Prop:=ZHB c
theorem ZEJ:ZDo ⟨true,[]⟩:= .inl rfl
theorem ZCp {s:Str} (h:s∈ZDQ):ZDo ⟨false,s⟩:= .inr ⟨s,h,rfl⟩
theorem ZE1 {c:ZnQ} (h:ZDo c):c.Text∈ZB0:=by
 rcases h with rfl |⟨s,hs,rfl⟩
 ·exact(by decide+kernel:([]:Str)∈ZB0)
 ·exact in_d hs
theorem ZI4 {l:List Str} (h:l.all (fun s=>ZDQ.contains s)=true) {s:Str} (hs:s∈l):s∈ZDQ:=by simpa using ZON.1 h s hs
theorem ZI5 {l:List Str} (h:l.all (fun s=>ZB0.contains s)=true) {s:Str} (hs:s∈l):s∈ZB0:=by simpa using ZON.1 h s hs
def ZIl (n:Nat) (c:ZnO):Prop:=c.Name∈ZB0∧c.Cells.length=n∧∀x∈c.Cells,ZDo x
theorem ZLB {n:Int} (h: -3≤n∧n≤8):Lib.itoa n∈ZDQ:=by
 have h1:((List.range 12).all fun i:Nat=>ZDQ.contains (Lib.itoa ((i:Int) - 3)))=true:=by kernel_rfl
 have:=ZON.1 h1 (n+3).toNat (ZOY.2 (by omega));rw[show (((n+3).toNat:Nat):Int) - 3=n by omega]at this;simpa using this
theorem k_d {n:Int} (h:0≤n∧n < 14):([107]:Str)++Lib.itoa n∈ZDQ:=by
 have h1:((List.range 14).all fun i:Nat=>ZDQ.contains (([107]:Str)++Lib.itoa (i:Int)))=true:=by kernel_rfl
 have:=ZON.1 h1 n.toNat (ZOY.2 (by omega));rw[show ((n.toNat:Nat):Int)=n by omega]at this;simpa using this
theorem ZJL {d:ZnA} (hd:ZsF d):wp (ZuQ d) (fun r=>ZDo r.1∧ZsF r.2):=by
 unfold ZuQ;rw[ZnE];refine ZnM (Zx7 hd (by omega)) fun⟨q,d1⟩ ⟨hq,hd1⟩=> ?_
 dsimp only at hq hd1⊢
 rw[ZnV];refine⟨fun _=> ?_,fun _=> ?_⟩
 ·rw[ZnD];exact⟨ZEJ,hd1⟩
 ·rw[ZnE];refine ZnM (ZDD hd1 (by decide) (by decide)) fun⟨s,d2⟩ ⟨hs,hd2⟩=> ?_
  dsimp only at hs hd2⊢
  rw[ZnD];exact⟨ZCp (ZI4 (by decide+kernel) hs),hd2⟩
theorem ZGQ {d:ZnA} (hd:ZsF d):wp (Ztl d) (fun r=>ZDo r.1∧ZsF r.2):=by
 unfold Ztl;rw[ZnE];refine ZnM (Zx7 hd (by omega)) fun⟨q,d1⟩ ⟨hq,hd1⟩=> ?_
 dsimp only at hq hd1⊢
 rw[ZnV];refine⟨fun _=> ?_,fun _=> ?_⟩
 ·rw[ZnD];exact⟨ZEJ,hd1⟩
 rw[ZnV];refine⟨fun _=> ?_,fun _=> ?_⟩
 ·rw[ZnE];refine ZnM (ZDD hd1 (by decide) (by decide)) fun⟨s,d2⟩ ⟨hs,hd2⟩=> ?_
  dsimp only at hs hd2⊢
  rw[ZnD];exact⟨ZCp (ZI4 (by decide+kernel) hs),hd2⟩
 ·rw[ZnE];refine ZnM (Zx7 hd1 (by omega)) fun⟨q,d2⟩ ⟨hq,hd2⟩=> ?_
  dsimp only at hq hd2⊢
  unfold Zyo;rw[ZnH,ZnE,ZnD,ZnD];exact⟨ZnI (by omega),ZCp (ZLB (by omega)),hd2⟩
theorem ZGo {n:Int} (h:0≤n∧n < 14):(Lib.itoa n).length≤2:=by
 have h1:((List.range 14).all fun i:Nat=>decide ((Lib.itoa (i:Int)).length≤2))=true:=by kernel_rfl
 have:=of_decide_eq_true (ZON.1 h1 n.toNat (ZOY.2 (by omega)))
 rwa [show ((n.toNat:Nat):Int)=n by omega]at this
theorem ZFq {d:ZnA} (hd:ZsF d) (rows:Nat) (hr:rows≤14):
  wp (Zrm d (rows:Int)) (fun r=>ZIl rows r.1∧ZsF r.2):=by
 unfold Zrm;rw[ZnE];refine ZnM (ZDD hd (by decide) (by decide)) fun⟨nm,d1⟩ ⟨hnm0,hd1⟩=> ?_
 dsimp only at hd1 hnm0⊢
 have hnm:nm∈ZB0:=ZI5 (by decide+kernel) hnm0;rw[ZnE];refine ZnM (Zx7 hd1 (by omega)) fun⟨kind,d2⟩ ⟨_,hd2⟩=> ?_
 dsimp only at hd2⊢
 rw[ZnE];refine ZnM (Zwo ZBi rows (by omega) (fun i (t:ZnA×List ZnQ)=>(kind,(rows:Int),i,t.1,([]:Str),nm,([]:List ZnQ),t.2))
  (fun k t=>ZsF t.1∧t.2.length=k∧∀c∈t.2,ZDo c) (Q:=fun x=>x.2.2.1=nm∧ZsF x.1∧x.2.2.2.2.length=rows∧∀c∈x.2.2.2.2,ZDo c) (d2,[]) ⟨hd2,rfl,fun c hc=>absurd hc (by simp)⟩ ?_ ?_) ?_
 ·rintro rec k ⟨d,cs⟩ hk ⟨hd,hlen,hcs⟩ ih;dsimp only at hd hlen hcs ih;have next:∀(x:ZnQ) (d':ZnA),ZDo x→ZsF d'→wp (Zps (fun kind t15 i d t4 c t4_1 c_1=>rec (kind,t15,i,d,t4,c,t4_1,c_1)) kind (rows:Int) (k:Int) d' [] nm x [] cs) (fun x=>x.2.2.1=nm∧ZsF x.1∧x.2.2.2.2.length=rows∧∀c∈x.2.2.2.2,ZDo c):=by
   intro x d' hx hd';unfold Zps;rw[ZnH,ZnH];refine⟨Zvm (by rw[ZOX];omega),ZnI (by omega),ih (d',cs++[x]) ⟨hd',by dsimp only;rw[ZOU,ZOX];omega,fun c hc=> ?_⟩⟩;rcases List.mem_append.1 hc with hc |hc
   ·exact hcs c hc
   ·obtain rfl:=List.mem_singleton.1 hc;exact hx
  unfold ZvL Zs4;dsimp only;rw[decide_eq_true (show (k:Int) < (rows:Int) by omega),cond_true,ZnE];refine ZnM (ZJL hd) fun⟨x,d3⟩ ⟨hx,hd3⟩=> ?_
  dsimp only at hx hd3⊢
  rw[ZnV];refine⟨fun _=> ?_,fun _=> ?_⟩
  ·rw[ZnE];exact ZnM (ZGQ hd3) fun⟨y,d4⟩ ⟨hy,hd4⟩=>next y d4 hy hd4
  rw[ZnV];refine⟨fun _=> ?_,fun _=> ?_⟩
  ·unfold Zyo;have:=ZGo (n:=(k:Int)) (by omega);rw[ZnE,ZnD,ZnH];exact⟨decide_eq_true (by rw[ZOX];unfold Zq;omega),next _ d3 (ZCp (k_d (by omega))) hd3⟩
  rw[ZnV];refine⟨fun _=> ?_,fun _=> ?_⟩
  ·rw[ZnE];exact ZnM (ZDD hd3 (by decide) (by decide)) fun⟨s,d4⟩ ⟨hs,hd4⟩=>next _ d4 (ZCp (ZI4 (by decide+kernel) hs)) hd4
  ·exact next x d3 hx hd3
 ·rintro rec ⟨d,cs⟩ ⟨hd,hlen,hcs⟩;unfold ZvL Zs4;dsimp only at hd hlen hcs⊢
  rw[decide_eq_false (show ¬(rows:Int) < (rows:Int) by omega),cond_false,ZnD];exact⟨rfl,hd,hlen,hcs⟩
 ·rintro⟨d,_,nm',_,cs⟩ ⟨h0,h1,h2,h3⟩;unfold ZwG;dsimp only at h0 h1 h2 h3⊢
  subst h0;rw[ZnD];exact⟨⟨hnm,h2,h3⟩,h1⟩
end Go.Proofs
