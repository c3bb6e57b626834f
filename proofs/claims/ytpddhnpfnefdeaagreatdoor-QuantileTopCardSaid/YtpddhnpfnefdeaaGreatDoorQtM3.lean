/- Plain laws over the specs, part 3. -/
import Derived.Test.YtpddhnpfnefdeaaGreatDoorQtM1
import Derived.Test.YtpddhnpfnefdeaaGreatDoorQtM2
import Derived.Test.YtpddhnpfnefdeaaGreatDoorQtM0
set_option linter.all false
open Bool renaming not_true->ZXi, not_false->ZSL
open Int renaming toNat_natCast->ZXj
open List renaming getElem?_eq_getElem->ZXo, length_set->ZXt, length_append->ZXr, getElem?_eq_some_iff->ZXp, range->ZXw, all_eq_true->ZXk, getElem?_append_right->ZXm, getElem?_drop->ZXn, take_append_drop->ZXx, mem_range->ZXv, getElem?_take->ZXq, length_cons->ZXs, length_singleton->ZXu, getElem?_append_left->ZXl
open Nat renaming le_refl->ZXy, lt_or_eq_of_le->ZXz
open Option renaming some.inj->ZXB, bind_some->ZXA
namespace Go.Proofs
open Go Eng
theorem ZQa {a b:List Nat} (h:iL a=iL b):a=b:=by unfold iL at h;exact List.map_inj_right (fun x y h=>by omega) |>.1 h
theorem ZOR {x y:Int} (h:bg x=bg y):x=y:=by
 have c:(bg x).Neg=(bg y).Neg:=by rw[h]
 have a:(bg x).Words=(bg y).Words:=by rw[h]
 rw[ZDs,ZDs,decide_eq_decide]at c;rw[ZpS,ZpS]at a;have b:=ZQa a;have d:x.natAbs=y.natAbs:=by rw[<-ZuA x.natAbs,<-ZuA y.natAbs,b]
 omega
theorem ZN0 {p q:Rat} (h:fOf p=fOf q):p=q:=by
 unfold fOf at h;injection h with a b
 have c:=ZOR a;have d:=ZOR b;exact Rat.ext c (by omega)
def ZSe (x y:Int):Int:=if x < y then -1 else if x > y then 1 else 0
theorem ZHg (x y:Int):Ztv x y=some (ZSe x y):=by
 unfold Ztv ZBX ZSe;rw[ZXA,ZXA,bne_self_eq_false,bne_self_eq_false,cond_false,cond_false]
 by_cases h1:x < y
 ·rw[decide_eq_true h1,if_pos h1];rfl
 ·rw[decide_eq_false h1,if_neg h1,cond_false]
  by_cases h2:x > y
  ·rw[decide_eq_true h2,if_pos h2];rfl
  ·rw[decide_eq_false h2,if_neg h2];rfl
theorem ZOK (a b:Int):ZD6 [a,b]=some (if a≠0 then a else b):=by
 obtain⟨n,j⟩:=ZIn 3 (by omega);have k:idx [a,b] 0=some a:=rfl;have g:idx [a,b] 1=some b:=rfl;have l:((([a,b]:List Int).length:Nat):Int)=2:=rfl;have d:∀c,ZvB c 0 [a,b] 2 0=if a≠0 then some (.ret a)else c 0 [a,b] 2 1:=by
  intro c;unfold ZvB;rw[k,show decide ((0:Int) < 2)=true from rfl,cond_true,ZXA]
  by_cases h:a=0
  ·rw[if_neg (by simp[h]),show (a != 0)=false by simp[h],cond_false];rfl
  ·rw[if_pos h,show (a != 0)=true by simpa using h,cond_true]
 have e:∀c,ZvB c 0 [a,b] 2 1=if b≠0 then some (.ret b)else c 0 [a,b] 2 2:=by
  intro c;unfold ZvB;rw[g,show decide ((1:Int) < 2)=true from rfl,cond_true,ZXA]
  by_cases h:b=0
  ·rw[if_neg (by simp[h]),show (b != 0)=false by simp[h],cond_false];rfl
  ·rw[if_pos h,show (b != 0)=true by simpa using h,cond_true]
 have f:∀c,ZvB c 0 [a,b] 2 2=some (.brk 0):=fun c=>rfl
 have u:∀m t i,ZBY (m+1) 0 [a,b] t i=ZvB (ZBY m) 0 [a,b] t i:=fun _ _ _=>rfl
 unfold ZD6 ZE6;rw[j,l,u (n+2),d]
 by_cases h:a=0
 ·rw[if_neg (by simp[h]),if_neg (by simp[h]),u (n+1),e]
  by_cases h2:b=0
  ·rw[if_neg (by simp[h2]),u n,f,h2];rfl
  ·rw[if_pos h2];rfl
 ·rw[if_pos h,if_pos h];rfl
noncomputable def qOf (f:ZnB):Rat:= @dite _ (∃q,f=fOf q) (Classical.propDecidable _) (fun h=>h.choose) (fun _=>0)
theorem ZHk (q:Rat):qOf (fOf q)=q:=by have h:∃p,fOf q=fOf p:=⟨q,rfl⟩;unfold qOf;rw[dif_pos h];exact(ZN0 h.choose_spec).symm
def ZH2 (a b:ZpV):Int:=if a.Table < b.Table then -1 else if b.Table < a.Table then 1 else if a.Column < b.Column then -1 else if b.Column < a.Column then 1 else 0
theorem ZMr (a b:ZpV):ZDZ a b=some (decide (ZH2 a b < 0)):=by
 unfold ZDZ;rw[ZHg,ZXA,ZHg,ZXA,ZOK,ZXA];have h:((if ZSe a.Table b.Table≠0 then ZSe a.Table b.Table else ZSe a.Column b.Column) < 0)<->ZH2 a b < 0:=by
  unfold ZH2 ZSe
  repeat' split
  all_goals omega
 rw[decide_eq_decide.2 h]
theorem ZKX (a b:ZpV):ZH2 b a= - ZH2 a b:=by
 unfold ZH2
 repeat' split
 all_goals omega
theorem ZPH (a b:ZpV):ZFi a b=some (ZH2 a b):=by
 have c:=ZKX a b;have d:ZH2 a b= -1\/ZH2 a b=0\/ZH2 a b=1:=by
  unfold ZH2
  repeat' split
  all_goals omega
 unfold ZFi;rw[ZMr,ZXA]
 by_cases h:ZH2 a b < 0
 ·rw[decide_eq_true h,cond_true];congr 1;omega
 ·rw[decide_eq_false h,cond_false,ZMr,ZXA]
  by_cases h2:ZH2 b a < 0
  ·rw[decide_eq_true h2,cond_true];congr 1;omega
  ·rw[decide_eq_false h2,cond_false];congr 1;omega
theorem ZOC {a b:ZpV} (h:ZH2 a b=0):a=b:=by
 obtain⟨t,c⟩:=a;obtain⟨d,e⟩:=b;unfold ZH2 at h;dsimp only at h;have:t=d/\c=e:=by
  repeat' split at h
  all_goals omega
 rw[this.1,this.2]
theorem ZLq {a b c:ZpV} (e:ZH2 a b < 0) (d:ZH2 b c < 0):ZH2 a c < 0:=by
 unfold ZH2 at*
 repeat' split at e
 all_goals first |omega |skip
 all_goals (repeat' split at d)
 all_goals first |omega |skip
 all_goals (repeat' split)
 all_goals omega
abbrev En1:=Zoi
noncomputable def ZCN (a b:En1):Int:=if ZGL (qOf b.Score) (qOf a.Score)≠0 then ZGL (qOf b.Score) (qOf a.Score)else ZH2 a.Ref b.Ref
noncomputable def ltE (a b:En1):Bool:=decide (ZCN a b < 0)
class Gdm (x:En1):Prop where
 ok:∃q,x.Score=fOf q/\Sz 400 q
class Gds (d:List En1):Prop where
 all:∀e∈d,Gdm e
instance {d:List En1} [Gds d] {i:Nat} {h:i < d.length}:Gdm (d[i]'h):=Gds.all _ (List.getElem_mem h)
theorem Gds.at {d:List En1} [Gds d] {i:Nat} {p:En1} (h:d[i]? =some p):Gdm p:=Gds.all _ (List.mem_of_getElem? h)
theorem Gds.perm {D d:List En1} [Gds D] (h:d.Perm D):Gds d:=⟨fun e a=>Gds.all _ (h.mem_iff.1 a)⟩
theorem ZBj (a b:En1) [ha:Gdm a] [hb:Gdm b]:ZoG a b=some (ZCN a b):=by obtain⟨p,c,f⟩:=ha.ok;obtain⟨q,e,d⟩:=hb.ok;unfold ZCN ZoG ZFw;rw[c,e,ZJK (d.wq (by omega)) (f.wq (by omega)),ZXA,ZXA,ZPH,ZXA,ZOK,ZXA,ZHk,ZHk]
theorem ZKY (a b:Rat):ZGL b a= - ZGL a b:=by unfold ZGL;split<;>split<;>grind
theorem ZFm (a b:En1):ZCN b a= - ZCN a b:=by have h:=ZKY (qOf a.Score) (qOf b.Score);have c:=ZKX a.Ref b.Ref;unfold ZCN;split<;>split<;>omega
theorem ZI6 (a b:Rat):ZGL a b < 0<->a < b:=by
 unfold ZGL;split
 ·rename_i h;exact⟨fun _=>h,fun _=>by decide⟩
 ·split
  ·rename_i c d;exact⟨fun h=>by omega,fun h=>absurd h c⟩
  ·rename_i c d;exact⟨fun h=>by omega,fun h=>absurd h c⟩
theorem ZJy {a b:Rat} (h:ZGL a b=0):a=b:=by
 unfold ZGL at h;split at h
 ·omega
 ·split at h
  ·omega
  ·rename_i d c;exact Rat.le_antisymm (Rat.not_lt.1 c) (Rat.not_lt.1 d)
theorem ZLw {a b c:En1} (e:ZCN a b < 0) (d:ZCN b c < 0):ZCN a c < 0:=by
 unfold ZCN at*
 by_cases e1:ZGL (qOf b.Score) (qOf a.Score)=0
 ·rw[if_neg (by simp[e1])]at e;have f:=ZJy e1
  by_cases e2:ZGL (qOf c.Score) (qOf b.Score)=0
  ·rw[if_neg (by simp[e2])]at d;rw[<-f,if_neg (by simp[e2])];exact ZLq e d
  ·rw[if_pos e2]at d;rw[<-f,if_pos e2];exact d
 ·rw[if_pos e1]at e
  by_cases e2:ZGL (qOf c.Score) (qOf b.Score)=0
  ·rw[ZJy e2,if_pos e1];exact e
  ·rw[if_pos e2]at d;rw[ZI6]at e d;have g:qOf c.Score < qOf a.Score:=by grind
   have h:=(ZI6 _ _).2 g;rw[if_pos (by omega)];exact h
theorem ZSO {a b:En1} (h:ZCN a b=0):qOf b.Score=qOf a.Score/\a.Ref=b.Ref:=by
 unfold ZCN at h
 by_cases e1:ZGL (qOf b.Score) (qOf a.Score)=0
 ·rw[if_neg (by simp[e1])]at h;exact⟨ZJy e1,ZOC h⟩
 ·rw[if_pos e1]at h;exact absurd h e1
theorem ZOI {a b c:En1} (h:ZCN a b=0):ZCN a c=ZCN b c:=by obtain⟨e,d⟩:=ZSO h;unfold ZCN;rw[e,d]
end Go.Proofs
namespace Go.Proofs
open Go Eng
def sw (d:List En1) (i j:Nat) (hi:i < d.length) (a:j < d.length):List En1:=(d.set i d[j]).set j d[i]
theorem ZL6 {d:List En1} {i j:Nat} (hi:i < d.length) (a:j < d.length):(sw d i j hi a).Perm d:=List.set_set_perm hi a
theorem ZG6 {d:List En1} {i j:Nat} (hi:i < d.length) (a:j < d.length):(sw d i j hi a).length=d.length:=by unfold sw;rw[ZXt,ZXt]
theorem ZDA {d:List En1} {i j:Nat} (hi:i < d.length) (a:j < d.length) (k:Nat) (b:k < d.length):(sw d i j hi a)[k]? =if k=j then some d[i]else if k=i then some d[j]else d[k]? :=by
 unfold sw;rw[List.getElem?_set,List.getElem?_set,ZXt]
 by_cases h1:j=k
 ·rw[if_pos h1,if_pos (by omega),if_pos h1.symm]
 ·rw[if_neg h1]
  by_cases h2:i=k
  ·rw[if_pos h2,if_pos (by omega),if_neg (show ¬k=j by omega),if_pos h2.symm]
  ·rw[if_neg h2,if_neg (show ¬k=j by omega),if_neg (show ¬k=i by omega)]
def Rg (a b:Nat) (D d:List En1):Prop:=d.Perm D/\∀k,k < a\/b<=k->d[k]? =D[k]?
theorem Rg.refl (a b:Nat) (D:List En1):Rg a b D D:=⟨.refl _,fun _ _=>rfl⟩
theorem Rg.trans {a b:Nat} {D d e:List En1} (f:Rg a b D d) (c:Rg a b d e):Rg a b D e:=⟨c.1.trans f.1,fun k g=>(c.2 k g).trans (f.2 k g)⟩
theorem Rg.mono {a b e c:Nat} {D d:List En1} (h:Rg a b D d) (g:e<=a) (f:b<=c):Rg e c D d:=⟨h.1,fun k i=>h.2 k (by omega)⟩
theorem Rg.len {a b:Nat} {D d:List En1} (h:Rg a b D d):d.length=D.length:=h.1.length_eq
theorem ZG5 {d:List En1} {i j a b:Nat} (hi:i < d.length) (c:j < d.length) (l:a<=i) (e:i < b) (f:a<=j) (g:j < b):Rg a b d (sw d i j hi c):=by
 refine⟨ZL6 hi c,fun k m=> ?_⟩
 by_cases h:k < d.length
 ·rw[ZDA hi c k h,if_neg (by omega),if_neg (by omega)]
 ·rw[List.getElem?_eq_none (by rw[ZG6];omega),List.getElem?_eq_none (by omega)]
instance {d:List En1} [Gds d] {i j:Nat} {hi:i < d.length} {hj:j < d.length}:Gds (sw d i j hi hj):=Gds.perm (ZL6 hi hj)
theorem Rg.gds {a b:Nat} {D d:List En1} [Gds D] (h:Rg a b D d):Gds d:=Gds.perm h.1
theorem ZLm {D:List En1} [Gds D] {a b:Nat} (hn:D.length<=1000000) (hab:a<=b) (hb:b<=D.length):
  wp (ZpP D (a:Int) (b:Int)) (fun d=>Rg a b D d):=by
 have Zd:wp (Zqk D (a:Int) (b:Int)) (fun d=>Rg a b D d):=by
  unfold Zqk;rw[ZnF,ZnD];refine⟨ZnH (by omega),ZnK (Zoh ZAJ (fun s:Nat×Int×List En1=>((s.1:Int),s.2.1,s.2.2)) (fun s=>a<=s.1/\s.2.1 < (b:Int)/\ -1<=s.2.1/\Rg a b D s.2.2) (fun s=>(s.2.1+1 - s.1).toNat)
   (Q:=fun d=>Rg a b D d) (a,(b:Int) - 1,D) ⟨ZXy _,by dsimp only;omega,by dsimp only;omega,.refl _ _ _⟩ (by dsimp only;omega) ?_) ?_⟩
  ·rintro rec ⟨i,j,d⟩ ⟨h1,h2,h3,h4⟩ ih;dsimp only at h1 h2 h3 h4 ih;have hl:=h4.len;haveI:=h4.gds;unfold Zvd Zrb;dsimp only
   by_cases hc:(i:Int) < j
   ·obtain⟨j,rfl⟩:=Int.eq_ofNat_of_zero_le (show 0<=j by omega);have hi:i < d.length:=by omega
    have hj:j < d.length:=by omega
    rw[decide_eq_true hc,cond_true,ZnF,ZXj,ZXj,ZXo hj,ZnD,ZnA,ZnF,ZXo hi,ZnD,ZnA,ZnF,ZnF,ZnF,ZnF];refine⟨Zoj hj,Zoj hi,Zoj hi,ZoH ⟨by omega,by rw[ZXt];omega⟩,ZnH (by omega),ZnH (by omega), ?_⟩;have:=ih (i+1,(j:Int) - 1,sw d i j hi hj) ⟨by dsimp only;omega,by dsimp only;omega,by dsimp only;omega,h4.trans (ZG5 hi hj (by omega) (by omega) (by omega) (by omega))⟩ (by dsimp only;omega);exact this
   ·rw[decide_eq_false hc,cond_false,ZnA];exact h4
  ·intro d hd;unfold ZrI;rw[ZnA];exact hd
 unfold ZpP;rw[ZnD];refine ZnK Zd fun d hd=> ?_
 rw[ZnF,ZnA];exact⟨by rw[hd.len];simp,hd⟩
end Go.Proofs
namespace Go.Proofs
open Go Eng
def Lo (a:Nat) (d:List En1) (p:En1) (i:Nat):Prop:=∀k x,a+1<=k->k < i->d[k]? =some x->ZCN x p < 0
def Hi (b:Nat) (d:List En1) (p:En1) (j:Nat):Prop:=∀k x,j < k->k < b->d[k]? =some x->¬ZCN x p < 0
theorem ZSs {d:List En1} [Gds d] {p:En1} {a b:Nat} (h0:d[a]? =some p) (hn:d.length<=1000) {i j:Nat} (hi:a+1<=i) (hij:i<=j+1) (hjb:j < b) (hj:b<=d.length) (hA:Lo a d p i):
  wp (Zor big (a:Int) (i:Int) (j:Int) d) (fun x=>∃i':Nat,x=((a:Int),(i':Int),(j:Int),d)/\i<=i'/\i'<=j+1/\Lo a d p i'/\∀h:i'<=j,¬ZCN (d[i']'(by omega)) p < 0):=by
 haveI:Gdm p:=Gds.at h0;have hp:d[a]'(by omega)=p:=(ZXp.1 h0).2;refine Zoh ZBH (fun i:Nat=>((a:Int),(i:Int),(j:Int),d)) (fun i'=>i<=i'/\i'<=j+1/\Lo a d p i') (fun i'=>j+1 - i')
  (Q:=fun x=>∃i':Nat,x=((a:Int),(i':Int),(j:Int),d)/\i<=i'/\i'<=j+1/\Lo a d p i'/\∀h:i'<=j,¬ZCN (d[i']'(by omega)) p < 0) i ⟨ZXy _,hij,hA⟩ (by omega) ?_
 rintro rec i' ⟨h1,h2,h3⟩ ih;unfold Zwv ZrY Zqo;dsimp only
 by_cases hc:i'<=j
 ·have hi':i' < d.length:=by omega
  rw[decide_eq_true (show (i':Int)<=(j:Int) by omega),cond_true,ZnF,ZXj,ZXo hi',ZnD,ZnA,ZnF,ZXj,h0,ZnD,ZnA,ZBj,ZnD,ZnA];refine⟨Zoj hi',ZoH ⟨by omega,by omega⟩, ?_⟩
  by_cases ho:ZCN d[i'] p < 0
  ·rw[decide_eq_true ho,cond_true,ZnF];refine⟨ZnH (by omega),ih (i'+1) ⟨by omega,by omega,fun k x hk1 hk2 hx=> ?_⟩ (by omega)⟩
   by_cases e:k=i'
   ·subst e;rw[ZXo hi']at hx;rw[<-ZXB hx];exact ho
   ·exact h3 k x hk1 (by omega) hx
  ·rw[decide_eq_false ho,cond_false,ZnA];exact⟨i',rfl,h1,h2,h3,fun _=>ho⟩
 ·rw[decide_eq_false (show ¬(i':Int)<=(j:Int) by omega),cond_false,cond_false,ZnA];exact⟨i',rfl,h1,h2,h3,fun h=>absurd h hc⟩
theorem ZSr {d:List En1} [Gds d] {p:En1} {a b:Nat} (h0:d[a]? =some p) (hn:d.length<=1000) {i j:Nat} (hi:a+1<=i) (hij:i<=j+1) (hjb:j < b) (hj:b<=d.length) (hA:Lo a d p i):
  wp (Zop big (a:Int) (i:Int) (j:Int) d) (fun x=>∃i':Nat,x=((a:Int),(i':Int),(j:Int),d)/\i<=i'/\i'<=j+1/\Lo a d p i'/\∀h:i'<=j,¬ZCN (d[i']'(by omega)) p < 0):=by
 haveI:Gdm p:=Gds.at h0;have hp:d[a]'(by omega)=p:=(ZXp.1 h0).2;refine Zoh ZBE (fun i:Nat=>((a:Int),(i:Int),(j:Int),d)) (fun i'=>i<=i'/\i'<=j+1/\Lo a d p i') (fun i'=>j+1 - i')
  (Q:=fun x=>∃i':Nat,x=((a:Int),(i':Int),(j:Int),d)/\i<=i'/\i'<=j+1/\Lo a d p i'/\∀h:i'<=j,¬ZCN (d[i']'(by omega)) p < 0) i ⟨ZXy _,hij,hA⟩ (by omega) ?_
 rintro rec i' ⟨h1,h2,h3⟩ ih;unfold Zwp ZrV Zqm;dsimp only
 by_cases hc:i'<=j
 ·have hi':i' < d.length:=by omega
  rw[decide_eq_true (show (i':Int)<=(j:Int) by omega),cond_true,ZnF,ZXj,ZXo hi',ZnD,ZnA,ZnF,ZXj,h0,ZnD,ZnA,ZBj,ZnD,ZnA];refine⟨Zoj hi',ZoH ⟨by omega,by omega⟩, ?_⟩
  by_cases ho:ZCN d[i'] p < 0
  ·rw[decide_eq_true ho,cond_true,ZnF];refine⟨ZnH (by omega),ih (i'+1) ⟨by omega,by omega,fun k x hk1 hk2 hx=> ?_⟩ (by omega)⟩
   by_cases e:k=i'
   ·subst e;rw[ZXo hi']at hx;rw[<-ZXB hx];exact ho
   ·exact h3 k x hk1 (by omega) hx
  ·rw[decide_eq_false ho,cond_false,ZnA];exact⟨i',rfl,h1,h2,h3,fun _=>ho⟩
 ·rw[decide_eq_false (show ¬(i':Int)<=(j:Int) by omega),cond_false,cond_false,ZnA];exact⟨i',rfl,h1,h2,h3,fun h=>absurd h hc⟩
theorem ZN6 {d:List En1} [Gds d] {p:En1} {a b:Nat} (h0:d[a]? =some p) (hn:d.length<=1000) {i j:Nat} (hi:a+1<=i) (hij:i<=j+1) (hjb:j < b) (hj:b<=d.length) (hB:Hi b d p j):
  wp (Zoq big (a:Int) (i:Int) (j:Int) d) (fun x=>∃j':Nat,x=((a:Int),(i:Int),(j':Int),d)/\j'<=j/\i<=j'+1/\Hi b d p j'/\∀h:i<=j',∀hl:j' < d.length,ZCN d[j'] p < 0):=by
 haveI:Gdm p:=Gds.at h0;refine Zoh ZBG (fun j:Nat=>((a:Int),(i:Int),(j:Int),d)) (fun j'=>j'<=j/\i<=j'+1/\Hi b d p j') (fun j'=>j')
  (Q:=fun x=>∃j':Nat,x=((a:Int),(i:Int),(j':Int),d)/\j'<=j/\i<=j'+1/\Hi b d p j'/\∀h:i<=j',∀hl:j' < d.length,ZCN d[j'] p < 0) j ⟨ZXy _,hij,hB⟩ (by omega) ?_
 rintro rec j' ⟨h1,h2,h3⟩ ih;unfold Zwt ZrX Zqn;dsimp only
 by_cases hc:i<=j'
 ·have hj':j' < d.length:=by omega
  rw[decide_eq_true (show (i:Int)<=(j':Int) by omega),cond_true,ZnF,ZXj,ZXo hj',ZnD,ZnA,ZnF,ZXj,h0,ZnD,ZnA,ZBj,ZnD,ZnA];refine⟨Zoj hj',ZoH ⟨by omega,by omega⟩, ?_⟩
  by_cases ho:ZCN d[j'] p < 0
  ·rw[decide_eq_true ho,ZXi,cond_false,ZnA];exact⟨j',rfl,h1,h2,h3,fun _ _=>ho⟩
  ·rw[decide_eq_false ho,ZSL,cond_true,ZnF,show (j':Int) - 1=((j' - 1:Nat):Int) by omega];refine⟨ZnH (by omega),ih (j' - 1) ⟨by omega,by omega,fun k x hk hkb hx=> ?_⟩ (by omega)⟩
   by_cases e:k=j'
   ·subst e;rw[ZXo hj']at hx;rw[<-ZXB hx];exact ho
   ·exact h3 k x (by omega) hkb hx
 ·rw[decide_eq_false (show ¬(i:Int)<=(j':Int) by omega),cond_false,cond_false,ZnA];exact⟨j',rfl,h1,h2,h3,fun h=>absurd h hc⟩
theorem ZN5 {d:List En1} [Gds d] {p:En1} {a b:Nat} (h0:d[a]? =some p) (hn:d.length<=1000) {i j:Nat} (hi:a+1<=i) (hij:i<=j+1) (hjb:j < b) (hj:b<=d.length) (hB:Hi b d p j):
  wp (Zoo big (a:Int) (i:Int) (j:Int) d) (fun x=>∃j':Nat,x=((a:Int),(i:Int),(j':Int),d)/\j'<=j/\i<=j'+1/\Hi b d p j'/\∀h:i<=j',∀hl:j' < d.length,ZCN d[j'] p < 0):=by
 haveI:Gdm p:=Gds.at h0;refine Zoh ZBD (fun j:Nat=>((a:Int),(i:Int),(j:Int),d)) (fun j'=>j'<=j/\i<=j'+1/\Hi b d p j') (fun j'=>j')
  (Q:=fun x=>∃j':Nat,x=((a:Int),(i:Int),(j':Int),d)/\j'<=j/\i<=j'+1/\Hi b d p j'/\∀h:i<=j',∀hl:j' < d.length,ZCN d[j'] p < 0) j ⟨ZXy _,hij,hB⟩ (by omega) ?_
 rintro rec j' ⟨h1,h2,h3⟩ ih;unfold Zwn ZrU Zql;dsimp only
 by_cases hc:i<=j'
 ·have hj':j' < d.length:=by omega
  rw[decide_eq_true (show (i:Int)<=(j':Int) by omega),cond_true,ZnF,ZXj,ZXo hj',ZnD,ZnA,ZnF,ZXj,h0,ZnD,ZnA,ZBj,ZnD,ZnA];refine⟨Zoj hj',ZoH ⟨by omega,by omega⟩, ?_⟩
  by_cases ho:ZCN d[j'] p < 0
  ·rw[decide_eq_true ho,ZXi,cond_false,ZnA];exact⟨j',rfl,h1,h2,h3,fun _ _=>ho⟩
  ·rw[decide_eq_false ho,ZSL,cond_true,ZnF,show (j':Int) - 1=((j' - 1:Nat):Int) by omega];refine⟨ZnH (by omega),ih (j' - 1) ⟨by omega,by omega,fun k x hk hkb hx=> ?_⟩ (by omega)⟩
   by_cases e:k=j'
   ·subst e;rw[ZXo hj']at hx;rw[<-ZXB hx];exact ho
   ·exact h3 k x (by omega) hkb hx
 ·rw[decide_eq_false (show ¬(i:Int)<=(j':Int) by omega),cond_false,cond_false,ZnA];exact⟨j',rfl,h1,h2,h3,fun h=>absurd h hc⟩
theorem ZKS {d:List En1} {p:En1} {a b i j:Nat} (t:d[a]? =some p) (hi:a+1<=i) (q:i < j) (g:j < d.length) (o:Lo a d p i) (n:Hi b d p j) (s:¬ZCN (d[i]'(by omega)) p < 0) (r:ZCN d[j] p < 0):
  (sw d i j (by omega) g)[a]? =some p/\Lo a (sw d i j (by omega) g) p (i+1)/\Hi b (sw d i j (by omega) g) p (j - 1):=by
 have f:i < d.length:=by omega
 refine⟨?_,fun k x l u c=> ?_,fun k x v m c=> ?_⟩
 ·rw[ZDA f g a (by omega),if_neg (by omega),if_neg (by omega),t]
 ·rw[ZDA f g k (by omega),if_neg (by omega)]at c
  by_cases e:k=i
  ·rw[if_pos e]at c;rw[<-ZXB c];exact r
  ·rw[if_neg e]at c;exact o k x l (by omega) c
 ·have h:k < d.length:=by
   have:=(ZXp.1 c).1
   rwa [ZG6]at this
  rw[ZDA f g k h]at c
  by_cases e:k=j
  ·rw[if_pos e]at c;rw[<-ZXB c];exact s
  ·rw[if_neg e,if_neg (by omega)]at c;exact n k x (by omega) m c
end Go.Proofs
namespace Go.Proofs
open Go Eng
def Pt2 (a b:Nat) (D:List En1) (x:Int×Bool×List En1):Prop:=∃m:Nat,x.1=(m:Int)/\a<=m/\m < b/\Rg a b D x.2.2/\∃p,x.2.2[m]? =some p/\(∀k y,a<=k->k < m->x.2.2[k]? =some y->ZCN y p < 0)/\(∀k y,m < k->k < b->x.2.2[k]? =some y->¬ZCN y p < 0)
theorem ZOH {D d:List En1} {p:En1} {a b j:Nat} (t:d[a]? =some p) (l:a<=j) (h:j < b) (u:b<=d.length) (n:Lo a d p (j+1)) (r:Hi b d p j) (s:Rg a b D d) (f:Bool):Pt2 a b D ((j:Int),f,sw d j a (by omega) (by omega)):=by
 have g:j < d.length:=by omega
 have m:a < d.length:=by omega
 have i:d[a]=p:=(ZXp.1 t).2;refine⟨j,rfl,l,h,s.trans (ZG5 g m l h (ZXy _) (by omega)),p, ?_,fun k y q o c=> ?_,fun k y q o c=> ?_⟩
 ·dsimp only;rw[ZDA g m j g]
  by_cases e:j=a
  ·subst e;rw[if_pos rfl,i]
  ·rw[if_neg e,if_pos rfl,i]
 ·dsimp only at c;rw[ZDA g m k (by omega)]at c
  by_cases e:k=a
  ·rw[if_pos e]at c;exact n j y (by omega) (by omega) (by rw[ZXo g];exact c)
  ·rw[if_neg e,if_neg (by omega)]at c;exact n k y (by omega) (by omega) c
 ·dsimp only at c;rw[ZDA g m k (by omega),if_neg (by omega),if_neg (by omega)]at c;exact r k y q o c
theorem ZMg {D:List En1} [Gds D] (hn:D.length<=1000) {a b:Nat} {d0:List En1} [Gds d0] {p:En1} {i0 j0:Nat} (h0:d0[a]? =some p) (hi:a+1<=i0) (hij:i0<=j0+1) (hj:j0 < b) (hb:b<=D.length) (hA:Lo a d0 p i0) (hB:Hi b d0 p j0) (hp:Rg a b D d0):
  wp (Zn4 big (a:Int) (i0:Int) (j0:Int) d0) (fun x=>∃(j:Nat) (d:List En1),x=((a:Int),(j:Int),d)/\d[a]? =some p/\a<=j/\j < b/\Lo a d p (j+1)/\Hi b d p j/\Rg a b D d):=by
 refine Zoh ZBF (fun s:Nat×Nat×List En1=>((a:Int),(s.1:Int),(s.2.1:Int),s.2.2)) (fun s=>s.2.2[a]? =some p/\a+1<=s.1/\s.1<=s.2.1+1/\s.2.1 < b/\Lo a s.2.2 p s.1/\Hi b s.2.2 p s.2.1/\Rg a b D s.2.2) (fun s=>s.2.1)
  (Q:=fun x=>∃(j:Nat) (d:List En1),x=((a:Int),(j:Int),d)/\d[a]? =some p/\a<=j/\j < b/\Lo a d p (j+1)/\Hi b d p j/\Rg a b D d) (i0,j0,d0) ⟨h0,hi,hij,hj,hA,hB,hp⟩ (by dsimp only;omega) ?_
 rintro rec ⟨i,j,d⟩ ⟨h0,hi,hij,hj,hA,hB,hp⟩ ih;dsimp only at h0 hi hij hj hA hB hp ih;have hl:=hp.len;haveI:=hp.gds;have hdn:d.length<=1000:=by omega
 have hbd:b<=d.length:=by omega
 unfold Zwr ZrW ZsU ZsT;dsimp only;rw[ZnD];refine ZnK (ZSr h0 hdn hi hij hj hbd hA) ?_;rintro _ ⟨i',rfl,h1,h2,h3,h4⟩;dsimp only;rw[ZnD];refine ZnK (ZN5 h0 hdn (by omega) h2 hj hbd hB) ?_;rintro _ ⟨j',rfl,h5,h6,h7,h8⟩;dsimp only
 by_cases hc:i'<=j'
 ·have hi':i' < d.length:=by omega
  have hj':j' < d.length:=by omega
  have g1:=h4 (by omega);have g2:=h8 hc hj';have hlt:i' < j':=by
   rcases ZXz hc with h |h
   ·exact h
   ·subst h;exact absurd g2 g1
  obtain⟨s0,sA,sB⟩:=ZKS h0 (by omega) hlt hj' h3 h7 g1 g2;rw[decide_eq_false (show ¬(i':Int) > (j':Int) by omega),cond_false,ZnF,ZXj,ZXj,ZXo hj',ZnD,ZnA,ZnF,ZXo hi',ZnD,ZnA,ZnF,ZnF,ZnF,ZnF];refine⟨Zoj hj',Zoj hi',Zoj hi',ZoH ⟨by omega,by rw[ZXt];omega⟩,ZnH (by omega),ZnH (by omega), ?_⟩;have:=ih (i'+1,j' - 1,sw d i' j' hi' hj') ⟨s0,by dsimp only;omega,by dsimp only;omega,by dsimp only;omega,sA,sB,hp.trans (ZG5 hi' hj' (by omega) (by omega) (by omega) (by omega))⟩ (by dsimp only;omega);rw[show (((i'+1:Nat)):Int)=(i':Int)+1 by omega,show ((j' - 1:Nat):Int)=(j':Int) - 1 by omega]at this;exact this
 ·rw[decide_eq_true (show (i':Int) > (j':Int) by omega),cond_true,ZnA];exact⟨j',d,rfl,h0,by omega,by omega,by rw[show j'+1=i' by omega];exact h3,h7,hp⟩
theorem ZJz {D:List En1} [Gds D] (hn:D.length<=1000) {a b pv:Nat} (hb:b<=D.length) (h1:a<=pv) (h2:pv < b):
  wp (ZqJ D (a:Int) (b:Int) (pv:Int)) (Pt2 a b D):=by
 have hpv:pv < D.length:=by omega
 have h00:a < D.length:=by omega
 have Zd:wp (Zrp D (a:Int) (b:Int) (pv:Int)) (Pt2 a b D):=by
  unfold Zrp;simp only[ZnF,ZXj];rw[ZXo hpv,ZXo h00];simp only[ZnD,ZnA,ZnF];have hd0:(D.set a D[pv]).set pv D[a]=sw D a pv h00 hpv:=rfl;rw[hd0];have hlen:=ZG6 (d:=D) h00 hpv;have hg0:∃p,(sw D a pv h00 hpv)[a]? =some p:=⟨_,ZXo (by omega)⟩;obtain⟨p,hg0⟩:=hg0;have hperm:=ZG5 (d:=D) h00 hpv (ZXy a) (show a < b by omega) h1 h2;generalize sw D a pv h00 hpv=d at hlen hg0 hperm;haveI:Gds d:=hperm.gds;refine⟨ZoH ⟨by omega,by omega⟩,ZoH ⟨by omega,by omega⟩,ZoH ⟨by omega,by omega⟩,ZoH ⟨by omega,by rw[ZXt];omega⟩,ZnH (by omega),ZnH (by omega), ?_⟩;have hdn:d.length<=1000:=by omega
  have hbd:b<=d.length:=by omega
  have hA:Lo a d p (a+1):=fun k x h1 h2=>by omega
  have hB:Hi b d p (b - 1):=fun k x hk hkb hx=>by omega
  have:=ZSs hg0 hdn (i:=a+1) (j:=b - 1) (by omega) (by omega) (by omega) hbd hA;rw[show ((b - 1:Nat):Int)=(b:Int) - 1 by omega,show ((a+1:Nat):Int)=(a:Int)+1 by omega]at this;refine ZnK this ?_;rintro _ ⟨i',rfl,q1,q2,q3,q4⟩;dsimp only;unfold ZsW;rw[ZnD];have:=ZN6 hg0 hdn (i:=i') (j:=b - 1) (by omega) (by omega) (by omega) hbd hB;rw[show ((b - 1:Nat):Int)=(b:Int) - 1 by omega]at this;refine ZnK this ?_;rintro _ ⟨j',rfl,q5,q6,q7,q8⟩;dsimp only;unfold ZsV
  by_cases hc:i'<=j'
  ·have hi':i' < d.length:=by omega
   have hj':j' < d.length:=by omega
   have g1:=q4 (by omega);have g2:=q8 hc hj';have hlt:i' < j':=by
    rcases ZXz hc with h |h
    ·exact h
    ·subst h;exact absurd g2 g1
   obtain⟨s0,sA,sB⟩:=ZKS hg0 (by omega) hlt hj' q3 q7 g1 g2;rw[decide_eq_false (show ¬(i':Int) > (j':Int) by omega),cond_false,ZnF,ZXj,ZXj,ZXo hj',ZnD,ZnA,ZnF,ZXo hi',ZnD,ZnA,ZnF,ZnF,ZnF,ZnF,ZnD];refine⟨Zoj hj',Zoj hi',Zoj hi',ZoH ⟨by omega,by rw[ZXt];omega⟩,ZnH (by omega),ZnH (by omega), ?_⟩;have:=ZMg (D:=D) hn (d0:=sw d i' j' hi' hj') (i0:=i'+1) (j0:=j' - 1) s0 (by omega) (by omega) (by omega) hb sA sB (hperm.trans (ZG5 hi' hj' (by omega) (by omega) (by omega) (by omega)));rw[show (((i'+1:Nat)):Int)=(i':Int)+1 by omega,show ((j' - 1:Nat):Int)=(j':Int) - 1 by omega]at this;refine ZnK this ?_;rintro _ ⟨j,d2,rfl,r0,r1,r2,r3,r4,r5⟩;unfold ZsS;dsimp only;have hl2:=r5.len;haveI:=r5.gds;have r00:a < d2.length:=by omega
   have rj:j < d2.length:=by omega
   rw[ZnF,ZXj,ZXo r00,ZnD,ZnA,ZnF,ZXj,ZXo rj,ZnD,ZnA,ZnF,ZnF,ZnA];exact⟨Zoj r00,Zoj rj,Zoj rj,ZoH ⟨by omega,by rw[ZXt];omega⟩,ZOH r0 r1 r2 (by omega) r3 r4 r5 false⟩
  ·have hj':j' < d.length:=by omega
   have h0d:a < d.length:=by omega
   rw[decide_eq_true (show (i':Int) > (j':Int) by omega),cond_true,ZnF,ZXj,ZXo h0d,ZnD,ZnA,ZnF,ZXj,ZXo hj',ZnD,ZnA,ZnF,ZnF,ZnA];exact⟨Zoj h0d,Zoj hj',Zoj hj',ZoH ⟨by omega,by rw[ZXt];omega⟩,ZOH hg0 (by omega) (by omega) hbd (by rw[show j'+1=i' by omega];exact q3) q7 hperm true⟩
 unfold ZqJ;rw[ZnD];refine ZnK Zd fun x hx=> ?_
 obtain⟨m,e,h3,h4,h5,h6⟩:=hx;rw[ZnF,ZnA];exact⟨by rw[h5.len];simp,m,e,h3,h4,h5,h6⟩
end Go.Proofs
namespace Go.Proofs
open Go Eng
theorem ZH4 {d:List En1} [Gds d] (P:Nat->Prop) (hP:∀k,P k->k < d.length) {a b:Nat} (ha:P a) (hb:P b) (s:Nat) (hs:s<=100):
  wp (ZoX d (a:Int) (b:Int) (s:Int)) (fun x=>∃a' b' s':Nat,x=((a':Int),(b':Int),d,(s':Int))/\P a'/\P b'/\s'<=s+1):=by
 unfold ZoX Zwe;have hal:=hP a ha;have hbl:=hP b hb;rw[ZnD,ZnF,ZXj,ZXo hbl,ZnD,ZnA,ZnF,ZXj,ZXo hal,ZnD,ZnA,ZBj,ZnD,ZnA,ZnP];refine⟨Zoj hbl,Zoj hal,fun _=> ?_,fun _=> ?_⟩
 ·rw[ZnF,ZnA,ZnF,ZnA];exact⟨ZnH (by omega),by simp,b,a,s+1,rfl,hb,ha,ZXy _⟩
 ·rw[ZnA,ZnF,ZnA];exact⟨by simp,a,b,s,rfl,ha,hb,by omega⟩
theorem ZJC {d:List En1} [Gds d] (P:Nat->Prop) (hP:∀k,P k->k < d.length) {a b c:Nat} (ha:P a) (hb:P b) (hc:P c) (s:Nat) (hs:s<=50):
  wp (ZpT d (a:Int) (b:Int) (c:Int) (s:Int)) (fun x=>∃m s':Nat,x=((m:Int),d,(s':Int))/\P m/\s'<=s+3):=by
 unfold ZpT Zwf;rw[ZnD,ZnD];refine ZnK (ZH4 P hP ha hb s (by omega)) ?_;rintro _ ⟨a1,b1,s1,rfl,q1,q2,q3⟩;dsimp only;rw[ZnD];refine ZnK (ZH4 P hP q2 hc s1 (by omega)) ?_;rintro _ ⟨b2,c1,s2,rfl,q4,q5,q6⟩;dsimp only;rw[ZnD];refine ZnK (ZH4 P hP q1 q4 s2 (by omega)) ?_;rintro _ ⟨a2,b3,s3,rfl,q7,q8,q9⟩;dsimp only;rw[ZnA,ZnF,ZnA];exact⟨by simp,b3,s3,rfl,q8,by omega⟩
theorem ZGm {d:List En1} [Gds d] (P:Nat->Prop) (hP:∀k,P k->k < d.length) (hd:d.length<=1000000) {a:Nat} (h0:1<=a) (ha:P (a - 1)) (hb:P a) (hc:P (a+1)) (s:Nat) (hs:s<=50):
  wp (Zn8 d (a:Int) (s:Int)) (fun x=>∃m s':Nat,x=((m:Int),d,(s':Int))/\P m/\s'<=s+3):=by
 have:=hP _ hc;unfold Zn8 ZrZ;rw[ZnD,ZnF,ZnF,ZnD,show (a:Int) - 1=((a - 1:Nat):Int) by omega,show (a:Int)+1=((a+1:Nat):Int) by omega];refine⟨ZnH (by omega),ZnH (by omega),ZnK (ZJC P hP ha hb hc s hs) ?_⟩;rintro _ ⟨m,s',rfl,h1,h2⟩;dsimp only;rw[ZnA,ZnF,ZnA];exact⟨by simp,m,s',rfl,h1,h2⟩
theorem ZNI {d:List En1} [Gds d] (hd:d.length<=1000000) {a b:Nat} (hb:b<=d.length) (hab:a+13<=b):
  wp (Zp1 d (a:Int) (b:Int)) (fun x=>∃(pv:Nat) (h:Int),x=((pv:Int),h,d)/\a<=pv/\pv < b):=by
 have Zd:wp (ZqM d (a:Int) (b:Int)) (fun x=>∃(pv:Nat) (h:Int),x=((pv:Int),h,d)/\a<=pv/\pv < b):=by
  have hPl:∀k,(a<=k/\k < b)->k < d.length:=fun k hk=>by omega
  unfold ZqM;have eq:Int.tdiv ((b:Int) - (a:Int)) 4=(((b - a) / 4:Nat):Int):=by rw[show (b:Int) - (a:Int)=((b - a:Nat):Int) by omega];rfl
  rw[eq];generalize hq:(b - a) / 4=q;have j2:∀(m s:Nat),a<=m->m < b->wp (ZoO (m:Int) d (s:Int)) (fun x=>∃(pv:Nat) (h:Int),x=((pv:Int),h,d)/\a<=pv/\pv < b):=by intro m s h1 h2;unfold ZoO;rw[ZnP];refine⟨fun _=>by rw[ZnA];exact⟨m,1,rfl,h1,h2⟩,fun _=> ?_⟩;rw[ZnP];exact⟨fun _=>by rw[ZnA];exact⟨m,2,rfl,h1,h2⟩,fun _=>by rw[ZnA];exact⟨m,0,rfl,h1,h2⟩⟩
  have j1:∀(i j k s:Nat),s<=50->(a<=i/\i < b)->(a<=j/\j < b)->(a<=k/\k < b)->wp (ZoP (i:Int) (j:Int) (k:Int) d (s:Int)) (fun x=>∃(pv:Nat) (h:Int),x=((pv:Int),h,d)/\a<=pv/\pv < b):=by intro i j k s hs h1 h2 h3;unfold ZoP;rw[ZnD];refine ZnK (ZJC (fun k=>a<=k/\k < b) hPl h1 h2 h3 s hs) ?_;rintro _ ⟨m,s',rfl,h4,_⟩;exact j2 m s' h4.1 h4.2
  rw[show (q:Int)*1=((q:Nat):Int) by omega,show (q:Int)*2=((q*2:Nat):Int) by omega,show (q:Int)*3=((q*3:Nat):Int) by omega,
   show (a:Int)+((q:Nat):Int)=((a+q:Nat):Int) by omega,show (a:Int)+((q*2:Nat):Int)=((a+q*2:Nat):Int) by omega,show (a:Int)+((q*3:Nat):Int)=((a+q*3:Nat):Int) by omega]
  simp only[ZnF];refine⟨ZnH (by omega),rfl,ZnH (by omega),ZnH (by omega),ZnH (by omega),rfl,ZnH (by omega),ZnH (by omega),ZnH (by omega),rfl,ZnH (by omega),ZnH (by omega),ZnH (by omega), ?_⟩;rw[decide_eq_true (show (b:Int) - (a:Int)>=8 by omega),cond_true,ZnP];refine⟨fun h50=> ?_,fun _=>j1 _ _ _ 0 (by omega) (by omega) (by omega) (by omega)⟩;have h50':(b:Int) - (a:Int)>=50:=of_decide_eq_true h50;rw[ZnD];refine ZnK (ZGm (fun k=>a<=k/\k < b) hPl hd (a:=a+q) (by omega) (by omega) (by omega) (by omega) 0 (by omega)) ?_;rintro _ ⟨i,s1,rfl,p1,t1⟩;dsimp only;rw[ZnD];refine ZnK (ZGm (fun k=>a<=k/\k < b) hPl hd (a:=a+q*2) (by omega) (by omega) (by omega) (by omega) s1 (by omega)) ?_;rintro _ ⟨j,s2,rfl,p2,t2⟩;dsimp only;rw[ZnD];refine ZnK (ZGm (fun k=>a<=k/\k < b) hPl hd (a:=a+q*3) (by omega) (by omega) (by omega) (by omega) s2 (by omega)) ?_;rintro _ ⟨k,s3,rfl,p3,t3⟩;dsimp only;exact j1 i j k s3 (by omega) p1 p2 p3
 unfold Zp1;rw[ZnD];refine ZnK Zd ?_;rintro _ ⟨pv,h,rfl,h1,h2⟩;rw[ZnF,ZnA];exact⟨by simp,pv,h,rfl,h1,h2⟩
end Go.Proofs
namespace Go.Proofs
open Go Eng
theorem ZTy (x:Int) {y:Nat} (b:y < 1000000):∃z:Nat,andK .u64 x (y:Int)=(z:Int)/\z<=y:=by
 unfold andK;have a:(BitVec.ofInt (IntKind.u64).bits x&&& BitVec.ofInt (IntKind.u64).bits (y:Int)).toNat<=y:=by rw[BitVec.toNat_and];refine Nat.le_trans Nat.and_le_right ?_;rw[BitVec.ofInt_natCast,BitVec.toNat_ofNat];exact Nat.mod_le _ _
 refine⟨_,wrap_u64 ⟨by omega,by omega⟩,a⟩
theorem ZLu:((ZXw 201).all fun n:Nat=>match Zxq (n:Int)with |some m=>decide (n=0\/(1<=m/\m<=2*(n:Int))) |none=>false)=true:=by kernel_rfl
theorem ZPO {n:Nat} (b:1<=n) (c:n<=200):∃m:Nat,Zxq (n:Int)=some (m:Int)/\1<=m/\m<=2*n:=by have h:=ZXk.1 ZLu n (ZXv.2 (by omega));split at h;rotate_left;simp at h;rename_i m a;have d:=(of_decide_eq_true h).resolve_left (by omega);refine⟨m.toNat, ?_,by omega,by omega⟩;rw[a,Int.toNat_of_nonneg (by omega)]
theorem ZP0 (r:Int):∃q a,Zvb r=some (q,a):=by unfold Zvb;rw[show decide (0<=(13:Int))=true from rfl,show decide (0<=(7:Int))=true from rfl,show decide (0<=(17:Int))=true from rfl,chk_true,chk_true,chk_true];exact⟨_,_,rfl⟩
theorem ZOc {D:List En1} [Gds D] (hn:D.length<=200) {a b:Nat} (hab:a+8<=b) (hb:b<=D.length):
  wp (ZpC D (a:Int) (b:Int)) (fun d=>Rg a b D d):=by
 have Zd:wp (Zp2 D (a:Int) (b:Int)) (fun d=>Rg a b D d):=by
  unfold Zp2;obtain⟨L,hL⟩:∃L:Nat,L=b - a:=⟨_,rfl⟩;rw[show (b:Int) - (a:Int)=(L:Int) by omega];have eq:Int.tdiv (L:Int) 4=((L / 4:Nat):Int):=rfl;obtain⟨md,hm,hm1,hm2⟩:=ZPO (n:=L) (by omega) (by omega);rw[ZnF,decide_eq_true (show (L:Int)>=8 by omega),cond_true,hm,ZnD,ZnA,eq,ZnF,ZnF,ZnF,ZnF,ZnF,ZnD];refine⟨ZnH (by omega),rfl,ZnH (by omega),ZnH (by omega),ZnH (by omega),ZnH (by omega), ?_⟩;refine ZnK (Zoh ZAo (fun s:Nat×List En1×Int=>((a:Int),(L:Int),(md:Int),(s.1:Int),s.2.1,s.2.2)) (fun s=>a<=s.1/\Rg a b D s.2.1) (fun s=>a+L+5 - s.1)
   (Q:=fun d=>Rg a b D d) (a+L / 4*2 - 1,D,IntKind.wrap .u64 (L:Int)) ⟨by dsimp only;omega,.refl _ _ _⟩ (by dsimp only;omega) ?_ |> fun h=>by
    have e:((a+L / 4*2 - 1:Nat):Int)=(a:Int)+((L / 4:Nat):Int)*2 - 1:=by omega
    dsimp only at h;rw[e]at h;exact h) ?_
  ·rintro rec ⟨i,d,r⟩ ⟨h1,h2⟩ ih;dsimp only at h1 h2 ih;have hl:=h2.len;haveI:=h2.gds;unfold ZuE Zq0;dsimp only;rw[eq];simp only[ZnF];refine⟨rfl,ZnH (by omega),ZnH (by omega),ZnH (by omega),ZnH (by omega), ?_⟩
   by_cases hc:(i:Int)<=(a:Int)+((L / 4:Nat):Int)*2+1
   ·obtain⟨q,r',hr⟩:=ZP0 r;obtain⟨z,hz,hz2⟩:=ZTy q (y:=md - 1) (by omega);have hw:IntKind.wrap .u64 ((md:Int) - 1)=((md - 1:Nat):Int):=by rw[wrap_u64 ⟨by omega,by omega⟩];omega
    rw[decide_eq_true hc,cond_true,hr,ZnD,ZnA];dsimp only;rw[hw,hz,wrap_i64 ⟨by omega,by omega⟩];have fin:∀o:Nat,o < L->wp (Zox (fun a1 l1 m1 i1 d1 r1=>rec (a1,l1,m1,i1,d1,r1)) (a:Int) (L:Int) (md:Int) (i:Int) (o:Int) d r') (fun d=>Rg a b D d):=by
     intro o ho;have ho':a+o < d.length:=by omega
     have hi':i < d.length:=by omega
     unfold Zox;rw[show (a:Int)+(o:Int)=((a+o:Nat):Int) by omega,ZnF,ZnF,ZnF,ZXj,ZXj,ZXo ho',ZnD,ZnA,ZnF,ZXo hi',ZnD,ZnA,ZnF,ZnF,ZnF];refine⟨ZnH (by omega),ZnH (by omega),Zoj ho',Zoj hi',Zoj hi',ZoH ⟨by omega,by rw[ZXt];omega⟩,ZnH (by omega), ?_⟩;have:=ih (i+1,sw d i (a+o) hi' ho',r') ⟨by dsimp only;omega,h2.trans (ZG5 hi' ho' (by omega) (by omega) (by omega) (by omega))⟩ (by dsimp only;omega);exact this
    by_cases hge:(z:Int)>=(L:Int)
    ·rw[decide_eq_true hge,cond_true,ZnF,show (z:Int) - (L:Int)=((z - L:Nat):Int) by omega];exact⟨ZnH (by omega),fin (z - L) (by omega)⟩
    ·rw[decide_eq_false hge,cond_false];exact fin z (by omega)
   ·rw[decide_eq_false hc,cond_false,ZnA];exact h2
  ·intro d hd;unfold Zrt;rw[ZnA];exact hd
 unfold ZpC;rw[ZnD];refine ZnK Zd fun d hd=> ?_
 rw[ZnF,ZnA];exact⟨by rw[hd.len];simp,hd⟩
end Go.Proofs
namespace Go.Proofs
open Go Eng
def LoE (a:Nat) (d:List En1) (p:En1) (i:Nat):Prop:=∀k x,a<=k->k < i->d[k]? =some x->¬ZCN p x < 0
def HiE (b:Nat) (d:List En1) (p:En1) (j:Nat):Prop:=∀k x,j < k->k < b->d[k]? =some x->ZCN p x < 0
theorem ZSq {d:List En1} [Gds d] {p:En1} {a b:Nat} (h0:d[a]? =some p) (hn:d.length<=1000) {i j:Nat} (hi:a+1<=i) (hij:i<=j+1) (hjb:j < b) (hj:b<=d.length) (hA:LoE a d p i):
  wp (Zn2 big (a:Int) (i:Int) (j:Int) d) (fun x=>∃i':Nat,x=((a:Int),(i':Int),(j:Int),d)/\i<=i'/\i'<=j+1/\LoE a d p i'/\∀h:i'<=j,ZCN p (d[i']'(by omega)) < 0):=by
 haveI:Gdm p:=Gds.at h0;refine Zoh ZAb (fun i:Nat=>((a:Int),(i:Int),(j:Int),d)) (fun i'=>i<=i'/\i'<=j+1/\LoE a d p i') (fun i'=>j+1 - i')
  (Q:=fun x=>∃i':Nat,x=((a:Int),(i':Int),(j:Int),d)/\i<=i'/\i'<=j+1/\LoE a d p i'/\∀h:i'<=j,ZCN p (d[i']'(by omega)) < 0) i ⟨ZXy _,hij,hA⟩ (by omega) ?_
 rintro rec i' ⟨h1,h2,h3⟩ ih;unfold Zuk ZqH Zpc;dsimp only
 by_cases hc:i'<=j
 ·have hi':i' < d.length:=by omega
  rw[decide_eq_true (show (i':Int)<=(j:Int) by omega),cond_true,ZnF,ZXj,h0,ZnD,ZnA,ZnF,ZXj,ZXo hi',ZnD,ZnA,ZBj,ZnD,ZnA];refine⟨ZoH ⟨by omega,by omega⟩,Zoj hi', ?_⟩
  by_cases ho:ZCN p d[i'] < 0
  ·rw[decide_eq_true ho,ZXi,cond_false,ZnA];exact⟨i',rfl,h1,h2,h3,fun _=>ho⟩
  ·rw[decide_eq_false ho,ZSL,cond_true,ZnF];refine⟨ZnH (by omega),ih (i'+1) ⟨by omega,by omega,fun k x hk1 hk2 hx=> ?_⟩ (by omega)⟩
   by_cases e:k=i'
   ·subst e;rw[ZXo hi']at hx;rw[<-ZXB hx];exact ho
   ·exact h3 k x hk1 (by omega) hx
 ·rw[decide_eq_false (show ¬(i':Int)<=(j:Int) by omega),cond_false,cond_false,ZnA];exact⟨i',rfl,h1,h2,h3,fun h=>absurd h hc⟩
theorem ZN4 {d:List En1} [Gds d] {p:En1} {a b:Nat} (h0:d[a]? =some p) (hn:d.length<=1000) {i j:Nat} (hi:a+1<=i) (hij:i<=j+1) (hjb:j < b) (hj:b<=d.length) (hB:HiE b d p j):
  wp (Zn1 big (a:Int) (i:Int) (j:Int) d) (fun x=>∃j':Nat,x=((a:Int),(i:Int),(j':Int),d)/\j'<=j/\i<=j'+1/\HiE b d p j'/\∀h:i<=j',∀hl:j' < d.length,¬ZCN p d[j'] < 0):=by
 haveI:Gdm p:=Gds.at h0;refine Zoh ZAa (fun j:Nat=>((a:Int),(i:Int),(j:Int),d)) (fun j'=>j'<=j/\i<=j'+1/\HiE b d p j') (fun j'=>j')
  (Q:=fun x=>∃j':Nat,x=((a:Int),(i:Int),(j':Int),d)/\j'<=j/\i<=j'+1/\HiE b d p j'/\∀h:i<=j',∀hl:j' < d.length,¬ZCN p d[j'] < 0) j ⟨ZXy _,hij,hB⟩ (by omega) ?_
 rintro rec j' ⟨h1,h2,h3⟩ ih;unfold Zui ZqG Zpb;dsimp only
 by_cases hc:i<=j'
 ·have hj':j' < d.length:=by omega
  rw[decide_eq_true (show (i:Int)<=(j':Int) by omega),cond_true,ZnF,ZXj,h0,ZnD,ZnA,ZnF,ZXj,ZXo hj',ZnD,ZnA,ZBj,ZnD,ZnA];refine⟨ZoH ⟨by omega,by omega⟩,Zoj hj', ?_⟩
  by_cases ho:ZCN p d[j'] < 0
  ·rw[decide_eq_true ho,cond_true,ZnF,show (j':Int) - 1=((j' - 1:Nat):Int) by omega];refine⟨ZnH (by omega),ih (j' - 1) ⟨by omega,by omega,fun k x hk hkb hx=> ?_⟩ (by omega)⟩
   by_cases e:k=j'
   ·subst e;rw[ZXo hj']at hx;rw[<-ZXB hx];exact ho
   ·exact h3 k x (by omega) hkb hx
  ·rw[decide_eq_false ho,cond_false,ZnA];exact⟨j',rfl,h1,h2,h3,fun _ _=>ho⟩
 ·rw[decide_eq_false (show ¬(i:Int)<=(j':Int) by omega),cond_false,cond_false,ZnA];exact⟨j',rfl,h1,h2,h3,fun h=>absurd h hc⟩
def PtE (a b:Nat) (D:List En1) (x:Int×List En1):Prop:=∃m:Nat,x.1=(m:Int)/\a < m/\m<=b/\Rg a b D x.2/\∃p,x.2[a]? =some p/\LoE a x.2 p m/\(∀k y,m<=k->k < b->x.2[k]? =some y->ZCN p y < 0)
theorem ZLv {D:List En1} [Gds D] (hn:D.length<=1000) {a b:Nat} {d0:List En1} [Gds d0] {p:En1} {i0 j0:Nat} (h0:d0[a]? =some p) (hi:a+1<=i0) (hij:i0<=j0+1) (hj:j0 < b) (hb:b<=D.length) (hA:LoE a d0 p i0) (hB:HiE b d0 p j0) (hp:Rg a b D d0):
  wp (ZnW big (a:Int) (i0:Int) (j0:Int) d0) (fun x=>PtE a b D x/\x.2[a]? =some p):=by
 refine Zoh ZAc (fun s:Nat×Nat×List En1=>((a:Int),(s.1:Int),(s.2.1:Int),s.2.2)) (fun s=>s.2.2[a]? =some p/\a+1<=s.1/\s.1<=s.2.1+1/\s.2.1 < b/\LoE a s.2.2 p s.1/\HiE b s.2.2 p s.2.1/\Rg a b D s.2.2) (fun s=>s.2.1)
  (Q:=fun x=>PtE a b D x/\x.2[a]? =some p) (i0,j0,d0) ⟨h0,hi,hij,hj,hA,hB,hp⟩ (by dsimp only;omega) ?_
 rintro rec ⟨i,j,d⟩ ⟨h0,hi,hij,hj,hA,hB,hp⟩ ih;dsimp only at h0 hi hij hj hA hB hp ih;have hl:=hp.len;haveI:=hp.gds;have hdn:d.length<=1000:=by omega
 have hbd:b<=d.length:=by omega
 unfold Zum ZqI Zrf Zre;dsimp only;rw[ZnD];refine ZnK (ZSq h0 hdn hi hij hj hbd hA) ?_;rintro _ ⟨i',rfl,h1,h2,h3,h4⟩;dsimp only;rw[ZnD];refine ZnK (ZN4 h0 hdn (by omega) h2 hj hbd hB) ?_;rintro _ ⟨j',rfl,h5,h6,h7,h8⟩;dsimp only
 by_cases hc:i'<=j'
 ·have hi':i' < d.length:=by omega
  have hj':j' < d.length:=by omega
  have g1:=h4 (by omega);have g2:=h8 hc hj';have hlt:i' < j':=by
   rcases ZXz hc with h |h
   ·exact h
   ·subst h;exact absurd g1 g2
  rw[decide_eq_false (show ¬(i':Int) > (j':Int) by omega),cond_false,ZnF,ZXj,ZXj,ZXo hj',ZnD,ZnA,ZnF,ZXo hi',ZnD,ZnA,ZnF,ZnF,ZnF,ZnF];refine⟨Zoj hj',Zoj hi',Zoj hi',ZoH ⟨by omega,by rw[ZXt];omega⟩,ZnH (by omega),ZnH (by omega), ?_⟩;have s0:(sw d i' j' hi' hj')[a]? =some p:=by rw[ZDA hi' hj' a (by omega),if_neg (by omega),if_neg (by omega),h0]
  have sA:LoE a (sw d i' j' hi' hj') p (i'+1):=by
   intro k x hk1 hk2 hx;rw[ZDA hi' hj' k (by omega),if_neg (by omega)]at hx
   by_cases e:k=i'
   ·rw[if_pos e]at hx;rw[<-ZXB hx];exact g2
   ·rw[if_neg e]at hx;exact h3 k x hk1 (by omega) hx
  have sB:HiE b (sw d i' j' hi' hj') p (j' - 1):=by
   intro k x hk hkb hx;rw[ZDA hi' hj' k (by omega)]at hx
   by_cases e:k=j'
   ·rw[if_pos e]at hx;rw[<-ZXB hx];exact g1
   ·rw[if_neg e,if_neg (by omega)]at hx;exact h7 k x (by omega) hkb hx
  have:=ih (i'+1,j' - 1,sw d i' j' hi' hj') ⟨s0,by dsimp only;omega,by dsimp only;omega,by dsimp only;omega,sA,sB,hp.trans (ZG5 hi' hj' (by omega) (by omega) (by omega) (by omega))⟩ (by dsimp only;omega);rw[show (((i'+1:Nat)):Int)=(i':Int)+1 by omega,show ((j' - 1:Nat):Int)=(j':Int) - 1 by omega]at this;exact this
 ·rw[decide_eq_true (show (i':Int) > (j':Int) by omega),cond_true,ZnA];exact⟨⟨i',rfl,by omega,by omega,hp,p,h0,h3,fun k y hk hkb hy=>h7 k y (by omega) hkb hy⟩,h0⟩
theorem ZNL {D:List En1} [Gds D] (hn:D.length<=1000) {a b pv:Nat} (hb:b<=D.length) (h1:a<=pv) (h2:pv < b):
  wp (Zpm D (a:Int) (b:Int) (pv:Int)) (fun x=>PtE a b D x/\x.2[a]? =D[pv]?):=by
 have hpv:pv < D.length:=by omega
 have h00:a < D.length:=by omega
 have Zd:wp (ZpR D (a:Int) (b:Int) (pv:Int)) (fun x=>PtE a b D x/\x.2[a]? =D[pv]?):=by
  unfold ZpR;simp only[ZnF,ZXj];rw[ZXo hpv,ZXo h00];simp only[ZnD,ZnA,ZnF];have hd0:(D.set a D[pv]).set pv D[a]=sw D a pv h00 hpv:=rfl;rw[hd0];have hlen:=ZG6 (d:=D) h00 hpv;have hg0:(sw D a pv h00 hpv)[a]? =some D[pv]:=by
   rw[ZDA h00 hpv a h00]
   by_cases e:a=pv
   ·subst e;rw[if_pos rfl]
   ·rw[if_neg e,if_pos rfl]
  have hperm:=ZG5 (d:=D) h00 hpv (ZXy a) (show a < b by omega) h1 h2;generalize sw D a pv h00 hpv=d at hlen hg0 hperm;haveI:Gds d:=hperm.gds;generalize D[pv]=p at hg0;refine⟨ZoH ⟨by omega,by omega⟩,ZoH ⟨by omega,by omega⟩,ZoH ⟨by omega,by omega⟩,ZoH ⟨by omega,by rw[ZXt];omega⟩,ZnH (by omega),ZnH (by omega), ?_⟩;have hA:LoE a d p (a+1):=fun k x h1 h2 hx=>by
   obtain rfl:k=a:=by omega
   rw[hg0]at hx;rw[<-ZXB hx];have:=ZFm p p;omega
  have hB:HiE b d p (b - 1):=fun k x hk hkb hx=>by omega
  have:=ZLv (D:=D) hn (d0:=d) (i0:=a+1) (j0:=b - 1) hg0 (by omega) (by omega) (by omega) hb hA hB hperm;rw[show ((b - 1:Nat):Int)=(b:Int) - 1 by omega,show ((a+1:Nat):Int)=(a:Int)+1 by omega]at this;refine ZnK this ?_;rintro⟨m,d'⟩ ⟨r1,r2⟩;unfold Zrd;dsimp only;rw[ZnA];exact⟨r1,r2⟩
 unfold Zpm;rw[ZnD];refine ZnK Zd fun x hx=> ?_
 have hx2:=hx;obtain⟨⟨m,e,h3,h4,h5,h6⟩,h7⟩:=hx;rw[ZnF,ZnA];exact⟨by rw[h5.len];simp,hx2⟩
end Go.Proofs
namespace Go.Proofs
open Go Eng
def Le (a b:En1):Prop:=ZCN a b<=0
theorem Le.trans {a b c:En1} (i:Le a b) (d:Le b c):Le a c:=by
 unfold Le at*
 by_cases e:ZCN a b=0
 ·rw[ZOI e];exact d
 ·by_cases e2:ZCN b c=0
  ·have f:=ZOI (a:=b) (b:=c) (c:=a) e2;have g:=ZFm a c;have h:=ZFm a b;omega
  ·have:=ZLw (show ZCN a b < 0 by omega) (show ZCN b c < 0 by omega);omega
theorem ZAM {a b:En1} (h:¬ZCN a b < 0):Le b a:=by have:=ZFm a b;unfold Le;omega
theorem Le.of_lt {a b:En1} (h:ZCN a b < 0):Le a b:=Int.le_of_lt h
theorem Le.rfl' (a:En1):Le a a:=by have:=ZFm a a;unfold Le;omega
def Hx (f lo hi:Nat) (d:List En1) (r:Option Nat):Prop:=∀k c x y,lo<=k->some k≠r->(c=2*k+1\/c=2*k+2)->c < hi->d[f+k]? =some x->d[f+c]? =some y->Le y x
def Gp (f lo hi:Nat) (d:List En1) (r:Nat):Prop:=∀q c x y,lo<=q->(r=2*q+1\/r=2*q+2)->(c=2*r+1\/c=2*r+2)->c < hi->d[f+q]? =some x->d[f+c]? =some y->Le y x
theorem ZL7 {f lo hi r b:Nat} {d:List En1} (n:f+r < d.length) (m:f+b < d.length) (E:lo<=r) (t:b=2*r+1\/b=2*r+2) (o:b < hi) (A:Hx f lo hi d (some r)) (G:Gp f lo hi d r) (w:ZCN d[f+r] d[f+b] < 0) (p:∀c y,(c=2*r+1\/c=2*r+2)->c < hi->d[f+c]? =some y->Le y d[f+b]):
  Hx f lo hi (sw d (f+r) (f+b) n m) (some b)/\Gp f lo hi (sw d (f+r) (f+b) n m) b:=by
 have a:∀k z,(sw d (f+r) (f+b) n m)[f+k]? =some z->f+k < d.length:=fun k z C=>by
  have:=(ZXp.1 C).1
  rwa [ZG6]at this
 refine⟨fun k c x y B s i l j g=> ?_,fun q c x y H D i l j g=> ?_⟩
 ·have F:k≠b:=fun e=>s (by rw[e])
  have v:=a k x j;have u:=a c y g;rw[ZDA n m _ v,if_neg (by omega)]at j;rw[ZDA n m _ u]at g
  by_cases e:k=r
  ·subst e;rw[if_pos rfl]at j;obtain rfl:=ZXB j
   by_cases e2:c=b
   ·subst e2;rw[if_pos rfl]at g;rw[<-ZXB g];exact .of_lt w
   ·rw[if_neg (by omega),if_neg (by omega)]at g;exact p c y i l g
  ·rw[if_neg (by omega)]at j;rw[if_neg (show ¬f+c=f+b by omega)]at g
   by_cases e2:c=r
   ·subst e2;rw[if_pos rfl]at g;rw[<-ZXB g];exact G k b x _ B i t o j (ZXo m)
   ·rw[if_neg (by omega)]at g;exact A k c x y B (fun h=>e (ZXB h)) i l j g
 ·obtain rfl:q=r:=by omega
  have v:=a q x j;have u:=a c y g;rw[ZDA n m _ v,if_neg (by omega),if_pos rfl]at j;rw[ZDA n m _ u,if_neg (by omega),if_neg (by omega)]at g;obtain rfl:=ZXB j;exact A b c _ y (by omega) (fun h=>by have:=ZXB h;omega) i l (ZXo m) g
theorem ZL8 {D:List En1} [Gds D] (hn:D.length<=1000) {f lo hi:Nat} (hhi:f+hi<=D.length) (hlo1:lo<=1000) (hH:Hx f lo hi D (some lo)):
  wp (ZoA D (lo:Int) (hi:Int) (f:Int)) (fun d=>Rg f (f+hi) D d/\Hx f lo hi d none):=by
 have Zd:wp (Zrx D (lo:Int) (hi:Int) (f:Int)) (fun d=>Rg f (f+hi) D d/\Hx f lo hi d none):=by
  unfold Zrx;rw[ZnD];refine ZnK (Q:=fun x=>∃d,(x= .ret d\/x= .brk d)/\Rg f (f+hi) D d/\Hx f lo hi d none) ?_ ?_
  ·by_cases hlo:lo < hi
   ·refine Zoh ZB4 (fun s:Nat×List En1=>((hi:Int),(f:Int),(s.1:Int),s.2)) (fun s=>lo<=s.1/\s.1 < hi/\Rg f (f+hi) D s.2/\Hx f lo hi s.2 (some s.1)/\Gp f lo hi s.2 s.1) (fun s=>hi - s.1)
     (Q:=fun x=>∃d,(x= .ret d\/x= .brk d)/\Rg f (f+hi) D d/\Hx f lo hi d none) (lo,D) ⟨ZXy _,hlo,.refl _ _ _,hH,fun q c x y hq hqr=>by omega⟩ (by dsimp only;omega) ?_
    rintro rec ⟨r,d⟩ ⟨h1,h2,h3,h4,h5⟩ ih;dsimp only at h1 h2 h3 h4 h5 ih;have hl:=h3.len;haveI:=h3.gds;unfold ZwW ZoW;dsimp only;rw[ZnF,ZnF,show 2*(r:Int)+1=((2*r+1:Nat):Int) by omega];refine⟨ZnH (by omega),ZnH (by omega), ?_⟩;have step:∀ch:Nat,(ch=2*r+1\/ch=2*r+2)->ch < hi->(∀hc:f+ch < d.length,∀c y,(c=2*r+1\/c=2*r+2)->c < hi->d[f+c]? =some y->Le y d[f+ch])->
      wp (Zo9 (fun a1 a2 a3 a4=>rec (a1,a2,a3,a4)) (hi:Int) (f:Int) (r:Int) (ch:Int) d) (fun x=>∃d,(x= .ret d\/x= .brk d)/\Rg f (f+hi) D d/\Hx f lo hi d none):=by
     intro ch hch hchi hbig;have hr:f+r < d.length:=by omega
     have hc:f+ch < d.length:=by omega
     unfold Zo9;rw[show (f:Int)+(r:Int)=((f+r:Nat):Int) by omega,show (f:Int)+(ch:Int)=((f+ch:Nat):Int) by omega,ZnF,ZnF,ZXj,ZXj,ZXo hr,ZnD,ZnA,ZnF,ZnF,ZXo hc,ZnD,ZnA,ZBj,ZnD,ZnA];refine⟨ZnH (by omega),Zoj hr,ZnH (by omega),Zoj hc, ?_⟩
     by_cases ho:ZCN d[f+r] d[f+ch] < 0
     ·rw[decide_eq_true ho,ZXi,cond_false];simp only[ZnF,ZnD,ZnA];refine⟨ZnH (by omega),ZnH (by omega),ZnH (by omega),Zoj hc,ZnH (by omega),Zoj hr,Zoj hr,ZoH ⟨by omega,by rw[ZXt];omega⟩, ?_⟩;obtain⟨s1,s2⟩:=ZL7 hr hc h1 hch hchi h4 h5 ho (hbig hc);exact ih (ch,sw d (f+r) (f+ch) hr hc) ⟨by dsimp only;omega,hchi,h3.trans (ZG5 hr hc (by omega) (by omega) (by omega) (by omega)),s1,s2⟩ (by dsimp only;omega)
     ·rw[decide_eq_false ho,ZSL,cond_true,ZnA];refine⟨d,.inl rfl,h3,fun k c x y hk _ hcc hcl hx hy=> ?_⟩
      by_cases e:k=r
      ·subst e;rw[ZXo hr]at hx;rw[<-ZXB hx];exact(hbig hc c y hcc hcl hy).trans (ZAM ho)
      ·exact h4 k c x y hk (fun h=>e (ZXB h)) hcc hcl hx hy
    by_cases hge:hi<=2*r+1
    ·rw[decide_eq_true (show ((2*r+1:Nat):Int)>=(hi:Int) by omega),cond_true,ZnA];refine⟨d,.inr rfl,h3,fun k c x y hk _ hcc hcl hx hy=> ?_⟩
     by_cases e:k=r
     ·omega
     ·exact h4 k c x y hk (fun h=>e (ZXB h)) hcc hcl hx hy
    ·rw[decide_eq_false (show ¬((2*r+1:Nat):Int)>=(hi:Int) by omega),cond_false,ZnF,show ((2*r+1:Nat):Int)+1=((2*r+2:Nat):Int) by omega];refine⟨ZnH (by omega), ?_⟩;have hc1:f+(2*r+1) < d.length:=by omega
     unfold ZqF
     by_cases h22:2*r+2 < hi
     ·have hc2:f+(2*r+2) < d.length:=by omega
      rw[decide_eq_true (show ((2*r+2:Nat):Int) < (hi:Int) by omega),cond_true,show (f:Int)+((2*r+1:Nat):Int)=((f+(2*r+1):Nat):Int) by omega,show ((f+(2*r+1):Nat):Int)+1=((f+(2*r+2):Nat):Int) by omega,show ((2*r+1:Nat):Int)+1=((2*r+2:Nat):Int) by omega];rw[ZnF,ZnF,ZXj,ZXj,ZXo hc1,ZnD,ZnA,ZnF,ZnF,ZnF,ZXo hc2,ZnD,ZnA,ZBj,ZnD,ZnA];refine⟨ZnH (by omega),Zoj hc1,ZnH (by omega),ZnH (by omega),Zoj hc2, ?_⟩
      by_cases ho:ZCN d[f+(2*r+1)] d[f+(2*r+2)] < 0
      ·rw[decide_eq_true ho,cond_true,ZnF];refine⟨ZnH (by omega),step (2*r+2) (.inr rfl) h22 fun hc c y hcc hcl hy=> ?_⟩;rcases hcc with rfl |rfl
       ·rw[ZXo hc1]at hy;rw[<-ZXB hy];exact .of_lt ho
       ·rw[ZXo hc2]at hy;rw[<-ZXB hy];exact .rfl' _
      ·rw[decide_eq_false ho,cond_false];refine step (2*r+1) (.inl rfl) (by omega) fun hc c y hcc hcl hy=> ?_
       rcases hcc with rfl |rfl
       ·rw[ZXo hc1]at hy;rw[<-ZXB hy];exact .rfl' _
       ·rw[ZXo hc2]at hy;rw[<-ZXB hy];exact ZAM ho
     ·rw[decide_eq_false (show ¬((2*r+2:Nat):Int) < (hi:Int) by omega),cond_false,cond_false];refine step (2*r+1) (.inl rfl) (by omega) fun hc c y hcc hcl hy=> ?_
      obtain rfl:c=2*r+1:=by omega
      rw[ZXo hc1]at hy;rw[<-ZXB hy];exact .rfl' _
   ·obtain⟨n,hbig⟩:=ZIn 1 (by omega);rw[hbig];show wp (ZoW _ (hi:Int) (f:Int) (lo:Int) D) _;unfold ZoW;rw[ZnF,ZnF,decide_eq_true (show 2*(lo:Int)+1>=(hi:Int) by omega),cond_true,ZnA];exact⟨ZnH (by omega),ZnH (by omega),D,.inr rfl,.refl _ _ _,fun k c x y hk _ hcc hcl _ _=>by omega⟩
  ·rintro x ⟨d,rfl |rfl,h⟩
   ·dsimp only;rw[ZnA];exact h
   ·unfold Ztk;dsimp only;rw[ZnA];exact h
 unfold ZoA;rw[ZnD];refine ZnK Zd fun d hd=> ?_
 rw[ZnF,ZnA];exact⟨by rw[hd.1.len];simp,hd⟩
end Go.Proofs
namespace Go.Proofs
open Go Eng
theorem Rg.mid {a b:Nat} {D d:List En1} (h:Rg a b D d) (e:a<=b):((d.drop a).take (b - a)).Perm ((D.drop a).take (b - a)):=by
 have f:d.take a=D.take a:=by
  refine List.ext_getElem? fun k=> ?_
  rw[ZXq,ZXq]
  by_cases hk:k < a
  ·rw[if_pos hk,if_pos hk,h.2 k (.inl hk)]
  ·rw[if_neg hk,if_neg hk]
 have g:(d.drop a).drop (b - a)=(D.drop a).drop (b - a):=by
  refine List.ext_getElem? fun k=> ?_
  rw[ZXn,ZXn,ZXn,ZXn,h.2 _ (.inr (by omega))]
 have c:=h.1;rw[<-ZXx a d,<-ZXx a D,f,List.perm_append_left_iff]at c;rw[<-ZXx (b - a) (d.drop a),<-ZXx (b - a) (D.drop a),g,List.perm_append_right_iff]at c;exact c
theorem ZMp {a b:Nat} {d:List En1} {x:En1}:x∈(d.drop a).take (b - a)<->∃k,a<=k/\k < b/\d[k]? =some x:=by
 rw[List.mem_iff_getElem?];constructor
 ·rintro⟨k,c⟩;rw[ZXq]at c;split at c;rotate_left;simp at c;rw[ZXn]at c;exact⟨a+k,by omega,by omega,c⟩
 ·rintro⟨k,g,f,e⟩;refine⟨k - a, ?_⟩;rw[ZXq,if_pos (by omega),ZXn,show a+(k - a)=k by omega];exact e
theorem Rg.mem {a b k:Nat} {D d:List En1} {x:En1} (h:Rg a b D d) (g:a<=k) (f:k < b) (e:d[k]? =some x):∃c,a<=c/\c < b/\D[c]? =some x:=
 ZMp.1 ((h.mid (by omega)).mem_iff.1 (ZMp.2 ⟨k,g,f,e⟩))
def Srt (a b:Nat) (d:List En1):Prop:=∀i j x y,a<=i->i < j->j < b->d[i]? =some x->d[j]? =some y->Le x y
theorem ZNX {f n:Nat} {d:List En1} (h:Hx f 0 n d none):∀(k:Nat) (x y:En1),k < n->d[f]? =some x->d[f+k]? =some y->Le y x:=by
 intro k
 induction k using Nat.strongRecOn with
 |ind k g=>
  intro x y e b a
  by_cases h0:k=0
  ·subst h0;rw[Nat.add_zero,b]at a;rw[<-ZXB a];exact .rfl' _
  ·have i:f+k < d.length:=(ZXp.1 a).1;have c:d[f+(k - 1) / 2]? =some (d[f+(k - 1) / 2]'(by omega)):=ZXo (by omega);exact(h ((k - 1) / 2) k _ y (Nat.zero_le _) (by simp) (by omega) e c a).trans (g ((k - 1) / 2) (by omega) x _ (by omega) b c)
theorem ZQb {D:List En1} [Gds D] (hn:D.length<=1000) {a b:Nat} (hab:a+1<=b) (hb:b<=D.length):
  wp (Zq1 D (a:Int) (b:Int)) (fun d=>Rg a b D d/\Srt a b d):=by
 have Zd:wp (Zry D (a:Int) (b:Int)) (fun d=>Rg a b D d/\Srt a b d):=by
  obtain⟨n,rfl⟩:∃n,b=a+n:=⟨b - a,by omega⟩;unfold Zry;rw[show ((a+n:Nat):Int) - (a:Int)=(n:Int) by omega,show (n:Int) - 1=((n - 1:Nat):Int) by omega,show Int.tdiv ((n - 1:Nat):Int) 2=(((n - 1) / 2:Nat):Int)from rfl,ZnF,ZnF,ZnF,ZnF,ZnD];refine⟨ZnH (by omega),ZnH (by omega),rfl,ZnH (by omega), ?_⟩;have l1:=Zoh ZB6 (fun s:Nat×List En1=>((a:Int),(0:Int),(n:Int),(s.1:Int) - 1,s.2)) (fun s=>s.1<=n/\Rg a (a+n) D s.2/\Hx a s.1 n s.2 none) (fun s=>s.1)
   (Q:=fun x=>∃d,x=((a:Int),(0:Int),(n:Int),d)/\Rg a (a+n) D d/\Hx a 0 n d none) ((n - 1) / 2+1,D) ⟨by dsimp only;omega,.refl _ _ _,fun k c x y hk _ hcc hcl _ _=>by dsimp only at hk;omega⟩ (by dsimp only;omega) (by
   rintro rec ⟨t,d⟩ ⟨h1,h2,h3⟩ ih;dsimp only at h1 h2 h3 ih;have hl:=h2.len;haveI:=h2.gds;unfold Zw0 Zsn;dsimp only
   by_cases ht:1<=t
   ·rw[decide_eq_true (show (t:Int) - 1>=0 by omega),cond_true,show (t:Int) - 1=((t - 1:Nat):Int) by omega,ZnD];refine ZnK (ZL8 (D:=d) (by omega) (f:=a) (lo:=t - 1) (hi:=n) (by omega) (by omega) fun k c x y hk hkr hcc hcl hx hy=>h3 k c x y (by have:k≠t - 1:=fun e=>hkr (by rw[e]);omega) (by simp) hcc hcl hx hy) ?_;rintro d' ⟨r1,r2⟩;rw[ZnF];refine⟨ZnH (by omega),ih (t - 1,d') ⟨by dsimp only;omega,h2.trans r1,r2⟩ (by dsimp only;omega)⟩
   ·obtain rfl:t=0:=by omega
    rw[decide_eq_false (show ¬((0:Nat):Int) - 1>=0 by omega),cond_false,ZnA];exact⟨d,rfl,h2,h3⟩)
  dsimp only at l1;rw[show (((n - 1) / 2+1:Nat):Int) - 1=(((n - 1) / 2:Nat):Int) by omega]at l1;refine ZnK l1 ?_;rintro _ ⟨d1,rfl,g1,g2⟩;dsimp only;unfold Ztm;rw[ZnF,ZnD];refine⟨ZnH (by omega), ?_⟩;have l2:=Zoh ZB5 (fun s:Nat×List En1=>((a:Int),(0:Int),(s.1:Int) - 1,s.2)) (fun s=>s.1<=n/\Rg a (a+n) D s.2/\Hx a 0 s.1 s.2 none/\Srt (a+s.1) (a+n) s.2/\∀k j x y,k < s.1->s.1<=j->j < n->s.2[a+k]? =some x->s.2[a+j]? =some y->Le x y) (fun s=>s.1)
   (Q:=fun d=>Rg a (a+n) D d/\Srt a (a+n) d) (n,d1) ⟨ZXy _,g1,g2,fun i j x y h1 h2 h3=>by dsimp only at h1;omega,fun k j x y h1 h2 h3=>by dsimp only at h2;omega⟩ (by dsimp only;omega) (by
   rintro rec ⟨t,d⟩ ⟨h1,h2,h3,h4,h5⟩ ih;dsimp only at h1 h2 h3 h4 h5 ih;have hl:=h2.len;haveI:=h2.gds;unfold ZwY Zsm;dsimp only
   by_cases ht:1<=t
   ·have hi:a+(t - 1) < d.length:=by omega
    have h0:a < d.length:=by omega
    have hx0:d[a]? =some d[a]:=ZXo h0;rw[decide_eq_true (show (t:Int) - 1>=0 by omega),cond_true,show (t:Int) - 1=((t - 1:Nat):Int) by omega,show (a:Int)+((t - 1:Nat):Int)=((a+(t - 1):Nat):Int) by omega,ZnF,ZnF,ZnF,ZXj,ZXj,ZXo hi,ZnD,ZnA,ZnF,hx0,ZnD,ZnA,ZnF,ZnF,ZnD];refine⟨ZnH (by omega),ZnH (by omega),Zoj hi,Zoj h0,Zoj h0,ZoH ⟨by omega,by rw[ZXt];omega⟩, ?_⟩;have hsl:=ZG6 h0 hi;have hsg:=ZDA h0 hi;have hsr:Rg a (a+n) d (sw d a (a+(t - 1)) h0 hi):=ZG5 h0 hi (ZXy _) (by omega) (by omega) (by omega);have hsr2:Rg a (a+t) d (sw d a (a+(t - 1)) h0 hi):=ZG5 h0 hi (ZXy _) (by omega) (by omega) (by omega);show wp (ZoA (sw d a (a+(t - 1)) h0 hi) ((0:Nat):Int) ((t - 1:Nat):Int) (a:Int)) _;refine ZnK (ZL8 (D:=sw d a (a+(t - 1)) h0 hi) (by omega) (f:=a) (lo:=0) (hi:=t - 1) (by omega) (by omega) fun k c x y hk hkr hcc hcl hx hy=> ?_) ?_
    ·have hk0:k≠0:=fun e=>hkr (by rw[e])
     rw[hsg _ (by omega),if_neg (by omega),if_neg (by omega)]at hx;rw[hsg _ (by omega),if_neg (by omega),if_neg (by omega)]at hy;exact h3 k c x y hk (by simp) hcc (by omega) hx hy
    rintro d' ⟨r1,r2⟩;rw[ZnF];have hat:∀j,t - 1<=j->j < n->d'[a+j]? =if j=t - 1 then some d[a]else d[a+j]? :=by
     intro j hj hjn;rw[r1.2 (a+j) (.inr (by omega)),hsg _ (by omega)]
     by_cases e:j=t - 1
     ·rw[if_pos (by omega),if_pos e]
     ·rw[if_neg (by omega),if_neg (by omega),if_neg e]
    have hold:∀k x,k < t - 1->d'[a+k]? =some x->∃k',k' < t/\d[a+k']? =some x:=by intro k x hk hx;obtain⟨k1,q1,q2,q3⟩:=r1.mem (by omega) (show a+k < a+(t - 1) by omega) hx;obtain⟨k2,q4,q5,q6⟩:=hsr2.mem q1 (by omega) q3;exact⟨k2 - a,by omega,by rw[show a+(k2 - a)=k2 by omega];exact q6⟩
    refine⟨ZnH (by omega),ih (t - 1,d') ⟨by dsimp only;omega,(h2.trans hsr).trans (r1.mono (ZXy _) (by omega)),r2,fun i j x y q1 q2 q3 hx hy=> ?_,fun k j x y q1 q2 q3 hx hy=> ?_⟩ (by dsimp only;omega)⟩
    ·dsimp only at q1;rw[show i=a+(i - a) by omega,hat (i - a) (by omega) (by omega)]at hx;rw[show j=a+(j - a) by omega,hat (j - a) (by omega) (by omega),if_neg (by omega)]at hy
     by_cases e:i - a=t - 1
     ·rw[if_pos e]at hx;rw[<-ZXB hx];exact h5 0 (j - a) _ y (by omega) (by omega) (by omega) hx0 hy
     ·rw[if_neg e]at hx;exact h4 (a+(i - a)) (a+(j - a)) x y (by omega) (by omega) (by omega) hx hy
    ·dsimp only at q1 q2;obtain⟨k',w1,w2⟩:=hold k x q1 hx;rw[hat j (by omega) q3]at hy
     by_cases e:j=t - 1
     ·rw[if_pos e]at hy;rw[<-ZXB hy];exact ZNX h3 k' _ x w1 hx0 w2
     ·rw[if_neg e]at hy;exact h5 k' j x y w1 (by omega) q3 w2 hy
   ·obtain rfl:t=0:=by omega
    rw[decide_eq_false (show ¬((0:Nat):Int) - 1>=0 by omega),cond_false,ZnA];exact⟨h2,h4⟩)
  refine ZnK l2 ?_;intro d hd;unfold Ztl;rw[ZnA];exact hd
 unfold Zq1;rw[ZnD];refine ZnK Zd fun d hd=> ?_
 rw[ZnF,ZnA];exact⟨by rw[hd.1.len];simp,hd⟩
end Go.Proofs
namespace Go.Proofs
open Go Eng
def Low (a b:Nat) (d:List En1):Prop:=a=0\/∀x,d[a - 1]? =some x->∀k y,a<=k->k < b->d[k]? =some y->Le x y
theorem Low.rg {a b:Nat} {D d:List En1} (h:Low a b D) (e:Rg a b D d):Low a b d:=by
 rcases h with h |h
 ·exact .inl h
 by_cases h0:a=0
 ·exact .inl h0
 refine .inr fun x c k y m l n=> ?_
 rw[e.2 (a - 1) (.inl (by omega))]at c;obtain⟨j,i,g,f⟩:=e.mem m l n;exact h x c j y i g f
def Ins (a i j:Nat) (d:List En1):Prop:=(∀p q x y,a<=p->p < q->q < i->p≠j->q≠j->d[p]? =some x->d[q]? =some y->Le x y)/\∀q x y,j < q->q < i->d[j]? =some x->d[q]? =some y->Le x y
theorem ZLl {D:List En1} [Gds D] (hn:D.length<=1000) {a b i:Nat} (hai:a+2<=i) (hib:i < b) (hb:b<=D.length) {j0:Int} (hlow:Low a b D) (hI:Ins a i (i - 1) D):
  wp (Zn6 big (a:Int) (b:Int) (i:Int) j0 ((i - 1:Nat):Int) D) (fun x=>∃d,x=((a:Int),(b:Int),(i:Int),j0,d)/\Rg a b D d/\Srt a i d):=by
 refine Zoh Zyr (fun s:Nat×List En1=>((a:Int),(b:Int),(i:Int),j0,(s.1:Int),s.2)) (fun s=>a<=s.1/\s.1 < i/\Rg a b D s.2/\Ins a i s.1 s.2) (fun s=>s.1)
  (Q:=fun x=>∃d,x=((a:Int),(b:Int),(i:Int),j0,d)/\Rg a b D d/\Srt a i d) (i - 1,D) ⟨by dsimp only;omega,by dsimp only;omega,.refl _ _ _,hI⟩ (by dsimp only;omega) ?_
 rintro rec ⟨j,d⟩ ⟨h1,h2,h3,h4,h5⟩ ih;dsimp only at h1 h2 h3 h4 h5 ih;have hl:=h3.len;haveI:=h3.gds;have hj:j < d.length:=by omega
 unfold Zsg Zps;dsimp only;have done:(a < j->∀h:j - 1 < d.length,Le d[j - 1] d[j])->Srt a i d:=by
  intro hle p q x y q1 q2 q3 hx hy
  by_cases e1:p=j
  ·subst e1;exact h5 q x y q2 q3 hx hy
  ·by_cases e2:q=j
   ·subst e2;have hjl:q - 1 < d.length:=by omega
    have hb1:=hle (by omega) hjl;rw[ZXo hj]at hy;rw[<-ZXB hy]
    by_cases e3:p=q - 1
    ·subst e3;rw[ZXo hjl]at hx;rw[<-ZXB hx];exact hb1
    ·exact(h4 p (q - 1) x _ q1 (by omega) (by omega) e1 (by omega) hx (ZXo hjl)).trans hb1
   ·exact h4 p q x y q1 q2 q3 e1 e2 hx hy
 by_cases hc:1<=j
 ·have hj1:j - 1 < d.length:=by omega
  rw[decide_eq_true (show (j:Int)>=1 by omega),cond_true,show (j:Int) - 1=((j - 1:Nat):Int) by omega,ZnF,ZXj,ZXj,ZXo hj,ZnD,ZnA,ZnF,ZnF,ZXo hj1,ZnD,ZnA,ZBj,ZnD,ZnA];refine⟨Zoj hj,ZnH (by omega),Zoj hj1, ?_⟩
  by_cases ho:ZCN d[j] d[j - 1] < 0
  ·have haj:a < j:=by
    rcases ZXz h1 with h |h
    ·exact h
    ·exfalso;rcases(hlow.rg h3)with h0 |h0
     ·omega
     ·have:=h0 d[j - 1] (by rw[h];exact ZXo hj1) j d[j] (by omega) (by omega) (ZXo hj);unfold Le at this;have:=ZFm d[j - 1] d[j];omega
   rw[decide_eq_true ho,ZXi,cond_false];simp only[ZnF,ZnD,ZnA];refine⟨ZnH (by omega),ZnH (by omega),Zoj hj1,Zoj hj,Zoj hj,ZoH ⟨by omega,by rw[ZXt];omega⟩,ZnH (by omega), ?_⟩;have hg:=ZDA hj hj1;have hgb:∀k z,(sw d j (j - 1) hj hj1)[k]? =some z->k < d.length:=fun k z hz=>by
    have:=(ZXp.1 hz).1
    rwa [ZG6]at this
   refine ih (j - 1,sw d j (j - 1) hj hj1) ⟨by dsimp only;omega,by dsimp only;omega,h3.trans (ZG5 hj hj1 (by omega) (by omega) (by omega) (by omega)),fun p q x y q1 q2 q3 e1 e2 hx hy=> ?_,fun q x y q2 q3 hx hy=> ?_⟩ (by dsimp only;omega)
   ·dsimp only at e1 e2 hx hy;rw[hg _ (hgb _ _ hx),if_neg e1]at hx;rw[hg _ (hgb _ _ hy),if_neg e2]at hy
    by_cases e3:p=j
    ·rw[if_pos e3]at hx;rw[if_neg (by omega)]at hy;rw[<-ZXB hx];exact h4 (j - 1) q _ y (by omega) (by omega) q3 (by omega) (by omega) (ZXo hj1) hy
    ·rw[if_neg e3]at hx
     by_cases e4:q=j
     ·rw[if_pos e4]at hy;rw[<-ZXB hy];exact h4 p (j - 1) x _ q1 (by omega) (by omega) e3 (by omega) hx (ZXo hj1)
     ·rw[if_neg e4]at hy;exact h4 p q x y q1 q2 q3 e3 e4 hx hy
   ·dsimp only at q2 hx hy;rw[hg _ hj1,if_pos rfl]at hx;rw[hg _ (hgb _ _ hy),if_neg (by omega)]at hy;rw[<-ZXB hx]
    by_cases e4:q=j
    ·rw[if_pos e4]at hy;rw[<-ZXB hy];exact .of_lt ho
    ·rw[if_neg e4]at hy;exact h5 q _ y (by omega) q3 (ZXo hj) hy
  ·rw[decide_eq_false ho,ZSL,cond_true,ZnA];exact⟨d,rfl,h3,done fun _ _=>ZAM ho⟩
 ·rw[decide_eq_false (show ¬(j:Int)>=1 by omega),cond_false,ZnA];exact⟨d,rfl,h3,done fun h=>by omega⟩
theorem ZKb {D:List En1} [Gds D] (hn:D.length<=1000) {a b i:Nat} (hai:a+1<=i) (hib:i+2<=b) (hb:b<=D.length) {j0:Int}:
  wp (Zn5 big (a:Int) (b:Int) (i:Int) j0 ((i+1:Nat):Int) D) (fun x=>∃d,x=((a:Int),(b:Int),(i:Int),j0,d)/\Rg i b D d):=by
 refine Zoh Zyq (fun s:Nat×List En1=>((a:Int),(b:Int),(i:Int),j0,(s.1:Int),s.2)) (fun s=>i+1<=s.1/\s.1<=b/\Rg i b D s.2) (fun s=>b - s.1)
  (Q:=fun x=>∃d,x=((a:Int),(b:Int),(i:Int),j0,d)/\Rg i b D d) (i+1,D) ⟨ZXy _,by dsimp only;omega,.refl _ _ _⟩ (by dsimp only;omega) ?_
 rintro rec ⟨j,d⟩ ⟨h1,h2,h3⟩ ih;dsimp only at h1 h2 h3 ih;have hl:=h3.len;haveI:=h3.gds;unfold Zse Zpr;dsimp only
 by_cases hc:j < b
 ·have hj:j < d.length:=by omega
  have hj1:j - 1 < d.length:=by omega
  rw[decide_eq_true (show (j:Int) < (b:Int) by omega),cond_true,show (j:Int) - 1=((j - 1:Nat):Int) by omega,ZnF,ZXj,ZXj,ZXo hj,ZnD,ZnA,ZnF,ZnF,ZXo hj1,ZnD,ZnA,ZBj,ZnD,ZnA];refine⟨Zoj hj,ZnH (by omega),Zoj hj1, ?_⟩
  by_cases ho:ZCN d[j] d[j - 1] < 0
  ·rw[decide_eq_true ho,ZXi,cond_false];simp only[ZnF,ZnD,ZnA];refine⟨ZnH (by omega),ZnH (by omega),Zoj hj1,Zoj hj,Zoj hj,ZoH ⟨by omega,by rw[ZXt];omega⟩,ZnH (by omega), ?_⟩;exact ih (j+1,sw d j (j - 1) hj hj1) ⟨by dsimp only;omega,by dsimp only;omega,h3.trans (ZG5 hj hj1 (by omega) (by omega) (by omega) (by omega))⟩ (by dsimp only;omega)
  ·rw[decide_eq_false ho,ZSL,cond_true,ZnA];exact⟨d,rfl,h3⟩
 ·rw[decide_eq_false (show ¬(j:Int) < (b:Int) by omega),cond_false,ZnA];exact⟨d,rfl,h3⟩
end Go.Proofs
namespace Go.Proofs
open Go Eng
theorem ZPB {d:List En1} [Gds d] (hn:d.length<=1000) {a b i:Nat} (hai:a+1<=i) (hib:i<=b) (hb:b<=d.length) {j0:Int} (hS:Srt a i d):
  wp (ZnV big (a:Int) (b:Int) (i:Int) j0 d) (fun x=>∃i':Nat,x=((a:Int),(b:Int),(i':Int),j0,d)/\a+1<=i'/\i'<=b/\Srt a i' d/\∀h:i' < b,ZCN (d[i']'(by omega)) (d[i' - 1]'(by omega)) < 0):=by
 refine Zoh Zys (fun i:Nat=>((a:Int),(b:Int),(i:Int),j0,d)) (fun i=>a+1<=i/\i<=b/\Srt a i d) (fun i=>b - i)
  (Q:=fun x=>∃i':Nat,x=((a:Int),(b:Int),(i':Int),j0,d)/\a+1<=i'/\i'<=b/\Srt a i' d/\∀h:i' < b,ZCN (d[i']'(by omega)) (d[i' - 1]'(by omega)) < 0) i ⟨hai,hib,hS⟩ (by omega) ?_
 rintro rec i ⟨h1,h2,h3⟩ ih;unfold Zsi Zpt Zoz;dsimp only
 by_cases hc:i < b
 ·have hi:i < d.length:=by omega
  have hi1:i - 1 < d.length:=by omega
  rw[decide_eq_true (show (i:Int) < (b:Int) by omega),cond_true,show (i:Int) - 1=((i - 1:Nat):Int) by omega,ZnF,ZXj,ZXj,ZXo hi,ZnD,ZnA,ZnF,ZnF,ZXo hi1,ZnD,ZnA,ZBj,ZnD,ZnA];refine⟨Zoj hi,ZnH (by omega),Zoj hi1, ?_⟩
  by_cases ho:ZCN d[i] d[i - 1] < 0
  ·rw[decide_eq_true ho,ZXi,cond_false,ZnA];exact⟨i,rfl,h1,h2,h3,fun _=>ho⟩
  ·rw[decide_eq_false ho,ZSL,cond_true,ZnF];refine⟨ZnH (by omega),ih (i+1) ⟨by omega,by omega,fun p q x y q1 q2 q3 hx hy=> ?_⟩ (by omega)⟩
   by_cases e:q=i
   ·subst e;rw[ZXo hi]at hy;rw[<-ZXB hy]
    by_cases e2:p=q - 1
    ·subst e2;rw[ZXo hi1]at hx;rw[<-ZXB hx];exact ZAM ho
    ·exact(h3 p (q - 1) x _ q1 (by omega) (by omega) hx (ZXo hi1)).trans (ZAM ho)
   ·exact h3 p q x y q1 q2 (by omega) hx hy
 ·rw[decide_eq_false (show ¬(i:Int) < (b:Int) by omega),cond_false,cond_false,ZnA];exact⟨i,rfl,h1,h2,h3,fun h=>absurd h hc⟩
theorem Srt.rg {a i b:Nat} {D d:List En1} (h:Srt a i D) (e:Rg i b D d):Srt a i d:=fun p q x y j f c g k=>h p q x y j f c (by rw[<-e.2 p (.inl (by omega))];exact g) (by rw[<-e.2 q (.inl c)];exact k)
theorem ZKj {D:List En1} [Gds D] (hn:D.length<=1000) {a b:Nat} (hab:a+1<=b) (hb:b<=D.length) (hlow:Low a b D):
  wp (ZoI D (a:Int) (b:Int)) (fun x=>Rg a b D x.2/\(x.1=true->Srt a b x.2)):=by
 have Zd:wp (ZoT D (a:Int) (b:Int)) (fun x=>Rg a b D x.2/\(x.1=true->Srt a b x.2)):=by
  unfold ZoT;rw[ZnF,ZnD,show (a:Int)+1=((a+1:Nat):Int) by omega];refine⟨ZnH (by omega), ?_⟩;refine ZnK (Q:=fun x=>(∃f d,x= .ret (f,d)/\Rg a b D d/\(f=true->Srt a b d))\/∃d,x= .brk d/\Rg a b D d) ?_ ?_
  ·refine Zoh Zyt (fun s:Nat×Nat×List En1=>((a:Int),(b:Int),(s.1:Int),(s.2.1:Int),s.2.2)) (fun s=>a+1<=s.1/\s.1<=b/\s.2.1<=5/\Rg a b D s.2.2/\Srt a s.1 s.2.2) (fun s=>5 - s.2.1)
    (Q:=fun x=>(∃f d,x= .ret (f,d)/\Rg a b D d/\(f=true->Srt a b d))\/∃d,x= .brk d/\Rg a b D d) (a+1,0,D) ⟨ZXy _,hab,Nat.zero_le _,.refl _ _ _,fun p q x y q1 q2 q3=>by dsimp only at q3;omega⟩ (by dsimp only;omega) ?_
   rintro rec ⟨i,j,d⟩ ⟨h1,h2,h3,h4,h5⟩ ih;dsimp only at h1 h2 h3 h4 h5 ih;have hl:=h4.len;haveI:=h4.gds;unfold Zsk Zpu;dsimp only
   by_cases hj:j < 5
   ·rw[decide_eq_true (show (j:Int) < 5 by omega),cond_true,ZnD];refine ZnK (ZPB (d:=d) (by omega) h1 h2 (by omega) h5) ?_;rintro _ ⟨i,rfl,g1,g2,g3,g4⟩;dsimp only;unfold ZpL
    by_cases e:i=b
    ·rw[show ((i:Int) == (b:Int))=true by rw[e];simp,cond_true,ZnA];exact .inl ⟨true,d,rfl,h4,fun _=>e▸g3⟩
    ·have hib:i < b:=by omega
     have ho:=g4 hib;have hi:i < d.length:=by omega
     have hi1:i - 1 < d.length:=by omega
     rw[show ((i:Int) == (b:Int))=false by rw[beq_eq_false_iff_ne];omega,cond_false,ZnF,ZnP];refine⟨ZnH (by omega),fun _=> ?_,fun _=> ?_⟩
     ·rw[ZnA];exact .inl ⟨false,d,rfl,h4,fun h=>by cases h⟩
     ·
      have hg:=ZDA hi hi1;have hsr:Rg a b d (sw d i (i - 1) hi hi1):=ZG5 hi hi1 (by omega) (by omega) (by omega) (by omega);have next:∀d',Rg a b D d'->Srt a i d'->wp (rec ((a:Int),(b:Int),(i:Int),(j:Int)+1,d')) (fun x=>(∃f d,x= .ret (f,d)/\Rg a b D d/\(f=true->Srt a b d))\/∃d,x= .brk d/\Rg a b D d):=fun d' q1 q2=>ih (i,j+1,d') ⟨g1,by dsimp only;omega,by dsimp only;omega,q1,q2⟩ (by dsimp only;omega)
      have j4:∀d',Rg a b D d'->Srt a i d'->wp (Zn7 (fun a1 a2 a3 a4 a5=>rec (a1,a2,a3,a4,a5)) (a:Int) (b:Int) (i:Int) (j:Int) (decide ((b:Int) - (i:Int)>=2)) d') (fun x=>(∃f d,x= .ret (f,d)/\Rg a b D d/\(f=true->Srt a b d))\/∃d,x= .brk d/\Rg a b D d):=by
       intro d' q1 q2;haveI:=q1.gds;unfold Zn7 ZpJ
       by_cases hr:i+2<=b
       ·rw[decide_eq_true (show (b:Int) - (i:Int)>=2 by omega),cond_true,ZnF,ZnD,show (i:Int)+1=((i+1:Nat):Int) by omega];refine⟨ZnH (by omega),ZnK (ZKb (D:=d') (by rw[q1.len];omega) g1 hr (by rw[q1.len];omega)) ?_⟩;rintro _ ⟨d2,rfl,w1⟩;dsimp only;rw[ZnF];exact⟨ZnH (by omega),next d2 (q1.trans (w1.mono (by omega) (ZXy _))) (q2.rg w1)⟩
       ·rw[decide_eq_false (show ¬(b:Int) - (i:Int)>=2 by omega),cond_false,ZnF];exact⟨ZnH (by omega),next d' q1 q2⟩
      rw[show (i:Int) - 1=((i - 1:Nat):Int) by omega];simp only[ZnF,ZXj];rw[ZXo hi1,ZXo hi];simp only[ZnD,ZnA,ZnF];refine⟨ZnH (by omega),ZnH (by omega),Zoj hi1,Zoj hi,Zoj hi,ZoH ⟨by omega,by rw[ZXt];omega⟩,ZnH (by omega), ?_⟩;show wp (bif decide ((i:Int) - (a:Int)>=2)then _ else _) _
      by_cases h2a:a+2<=i
      ·rw[decide_eq_true (show (i:Int) - (a:Int)>=2 by omega),cond_true];simp only[ZnF,ZnD];refine⟨ZnH (by omega), ?_⟩;have hI:Ins a i (i - 1) (sw d i (i - 1) hi hi1):=by refine⟨fun p q x y q1 q2 q3 e1 e2 hx hy=> ?_,fun q x y q2 q3=>by omega⟩;rw[hg _ (by omega),if_neg e1,if_neg (by omega)]at hx;rw[hg _ (by omega),if_neg e2,if_neg (by omega)]at hy;exact g3 p q x y q1 q2 q3 hx hy
       refine ZnK (ZLl (D:=sw d i (i - 1) hi hi1) (by rw[ZG6];omega) h2a hib (by rw[ZG6];omega) ((hlow.rg h4).rg hsr) hI) ?_;rintro _ ⟨d2,rfl,w1,w2⟩;dsimp only;unfold ZpK;rw[ZnF];exact⟨ZnH (by omega),j4 d2 ((h4.trans hsr).trans w1) w2⟩
      ·rw[decide_eq_false (show ¬(i:Int) - (a:Int)>=2 by omega),cond_false,ZnF];exact⟨ZnH (by omega),j4 _ (h4.trans hsr) fun p q x y q1 q2 q3=>by omega⟩
   ·rw[decide_eq_false (show ¬(j:Int) < 5 by omega),cond_false,ZnA];exact .inr ⟨d,rfl,h4⟩
  ·rintro x (⟨f,d,rfl,r1,r2⟩ |⟨d,rfl,r1⟩)
   ·dsimp only;rw[ZnA];exact⟨r1,r2⟩
   ·unfold ZpI;dsimp only;rw[ZnA];exact⟨r1,fun h=>by cases h⟩
 unfold ZoI;rw[ZnD];refine ZnK Zd fun x hx=> ?_
 rw[ZnF,ZnA];exact⟨by rw[hx.1.len];simp,hx⟩
end Go.Proofs
namespace Go.Proofs
open Go Eng
theorem ZLB (Pre:List En1) (b i0:Int) {A0 C0:List En1} {x:En1} (a:(Pre++(A0++x::C0)).length<=1000) (o:∀e∈A0,Gdm e) (D:Gdm x):
  wp (Zn9 big (Pre.length:Int) b i0 ((Pre.length+A0.length:Nat):Int) (Pre++(A0++x::C0))) (fun y=>y=((Pre.length:Int),b,i0,Pre++(ZHS ltE x A0++C0))):=by
 refine Zoh ZAn (fun(s:List En1×List En1)=>((Pre.length:Int),b,i0,((Pre.length+s.1.length:Nat):Int),Pre++(s.1++x::s.2))) (fun s=>ZHS ltE x s.1++s.2=ZHS ltE x A0++C0/\(Pre++(s.1++x::s.2)).length<=1000/\∀e∈s.1,Gdm e) (fun s=>s.1.length)
  (Q:=fun y=>y=((Pre.length:Int),b,i0,Pre++(ZHS ltE x A0++C0))) (A0,C0) ⟨rfl,a,o⟩ (by dsimp only;simp only[ZXr]at a;omega) ?_
 rintro B ⟨A,C⟩ ⟨c,m,g⟩ l;dsimp only at c m g l|-
 unfold ZuC ZqZ Zpn;dsimp only;rcases List.eq_nil_or_concat A with rfl |⟨A,p,rfl⟩
 ·rw[ZnP];refine⟨fun h=>by simp at h,fun _=> ?_⟩;rw[cond_false,ZnA];rw[ZLb]at c;rw[<-c];rfl
 ·rw[List.concat_eq_append]at*
  simp only[ZXr,ZXs,List.length_nil]at m;have z:Pre++((A++[p])++x::C)=(Pre++A)++p::x::C:=by simp
  have d:(Pre++A).length=Pre.length+A.length:=ZXr;have i:((Pre.length+(A++[p]).length:Nat):Int)=(((Pre++A).length+1:Nat):Int):=by rw[d,ZXr,ZXu];omega
  have t:((Pre.length+(A++[p]).length:Nat):Int) - 1=((Pre++A).length:Int):=by rw[i];omega
  have u:((Pre++A)++p::x::C)[(Pre++A).length+1]? =some x:=by rw[ZXm (by omega),show (Pre++A).length+1 - (Pre++A).length=1 by omega];rfl
  have v:((Pre++A)++p::x::C)[(Pre++A).length]? =some p:=by rw[ZXm (by omega),Nat.sub_self];rfl
  rw[ZnP];refine⟨fun _=> ?_,fun h=>by simp only[decide_eq_false_iff_not]at h;rw[i,d]at h;omega⟩;rw[t,i,z];simp only[ZXj,u,v,ZXA];have E:((Pre++A)++p::x::C).length=(Pre++A).length+2+C.length:=by rw[ZXr (bs:=p::x::C)];simp only[ZXs];omega
  have r:inR (((Pre++A).length+1:Nat):Int) (((Pre++A)++p::x::C).length:Int)=true:=ZoH ⟨by omega,by omega⟩;have n:inR ((Pre++A).length:Int) (((Pre++A)++p::x::C).length:Int)=true:=ZoH ⟨by omega,by omega⟩;have k:inR ((Pre++A).length:Int) ((((Pre++A)++p::x::C).set ((Pre++A).length+1) p).length:Int)=true:=by rw[ZXt];exact n
  have w:inK .i64 ((Pre++A).length:Int)=true:=ZnH (by omega);rw[r,n,k,w];simp only[chk_true];haveI:Gdm p:=g p (by simp);rw[ZBj,ZnD,ZnA];rw[ZHc]at c;have f:ltE x p=decide (ZCN x p < 0):=rfl;rw[ZnP];refine⟨fun j=> ?_,fun j=> ?_⟩
  ·rw[f,if_pos j]at c;rw[ZJt];have:=l (A,p::C) ⟨by rw[<-c];simp,by simp only[ZXr,ZXs];omega,fun e q=>g e (List.mem_append_left _ q)⟩ (by simp);dsimp only at this;rw[<-d,<-List.append_assoc]at this;exact this
  ·rw[f,if_neg (by rw[j];simp)]at c;rw[ZnA,<-c];simp
theorem ZP9 (Pre M Suf:List En1) (l:(Pre++(M++Suf)).length<=1000) (j:∀e∈M,Gdm e):
  ZoF (Pre++(M++Suf)) (Pre.length:Int) ((Pre.length+M.length:Nat):Int)=some (Pre++(ZzG ltE M++Suf)):=by
 have i:Pre.length+M.length+Suf.length<=1000:=by simp only[ZXr]at l;omega
 have d:Zp0 (Pre++(M++Suf)) (Pre.length:Int) ((Pre.length+M.length:Nat):Int)=some (Pre++(ZzG ltE M++Suf)):=by
  refine ZpD ?_;unfold Zp0 Zrr;rw[ZnF,ZnD];refine⟨ZnH (by omega), ?_⟩;have g:∀(k f:Nat),k+1<=M.length->M.length - (k+1) < f->wp (Zov f (Pre.length:Int) ((Pre.length+M.length:Nat):Int) ((Pre.length+(k+1):Nat):Int) (Pre++((ZzG ltE (M.take (k+1))++M.drop (k+1))++Suf))) (fun y=>y=Pre++(ZzG ltE M++Suf)):=by
   intro k f
   induction f generalizing k with
   |zero=>intro _ h;omega
   |succ f q=>
    intro s r;show wp (Zon _ _ _ _ _) _;unfold Zon Zrs;rw[ZnP];refine⟨fun c=> ?_,fun c=> ?_⟩
    ·simp only[decide_eq_true_eq]at c;have b:k+1 < M.length:=by omega
     have a:(ZzG ltE (M.take (k+1))).length=k+1:=by rw[ZDp,List.length_take];omega
     have e:M.drop (k+1)=M[k+1]::M.drop (k+2):=List.drop_eq_getElem_cons b;rw[e];have:=ZLB Pre ((Pre.length+M.length:Nat):Int) ((Pre.length+(k+1):Nat):Int) (A0:=ZzG ltE (M.take (k+1))) (C0:=M.drop (k+2)++Suf) (x:=M[k+1]) (by simp only[ZXr,ZXs,a,List.length_drop];omega) (fun e m=>j e (List.mem_of_mem_take ((ZDP _).mem_iff.1 m))) (j _ (List.getElem_mem b));rw[a]at this;rw[ZnD,List.append_assoc,List.cons_append];refine ZnK this ?_;rintro y rfl;dsimp only;rw[ZnF];refine⟨ZnH (by omega), ?_⟩;have o:ZHS ltE M[k+1] (ZzG ltE (M.take (k+1)))=ZzG ltE (M.take (k+2)):=by rw[List.take_succ_eq_append_getElem b,ZGF]
     rw[o];have:=q (k+1) (by omega) (by omega);rw[show ((Pre.length+(k+1):Nat):Int)+1=((Pre.length+(k+1+1):Nat):Int) by omega];rw[List.append_assoc]at this;exact this
    ·simp only[decide_eq_false_iff_not]at c;have:k+1=M.length:=by omega
     rw[ZnA,this,List.take_length,List.drop_of_length_le (ZXy _),List.append_nil]
  by_cases h0:M.length=0
  ·have:M=[]:=List.eq_nil_of_length_eq_zero h0;subst this;obtain⟨n,p⟩:=ZIn 1 (by omega);rw[p];show wp (Zon _ _ _ _ _) _;unfold Zon;rw[List.length_nil,decide_eq_false (by omega),cond_false,ZnA,ZnA];rfl
  ·have:=g 0 big (by omega) (by rw[big_eq];omega);have e:ZzG ltE (M.take (0+1))++M.drop (0+1)=M:=by
    cases M with
    |nil=>simp at h0
    |cons x M=>rfl
   rw[e]at this;rw[show ((Pre.length:Int))+1=((Pre.length+(0+1):Nat):Int) by omega];refine ZnK this ?_;rintro y rfl;rw[ZnA]
 unfold ZoF;rw[d,ZXA];have:(Pre++(ZzG ltE M++Suf)).length=(Pre++(M++Suf)).length:=by simp only[ZXr,ZDp]
 rw[this,decide_eq_true rfl];rfl
theorem ZMt (l:List En1):(ZzG ltE l).Pairwise Le:=
 ZHE (fun _=>True) Le (fun x p _ _ h=>by have:=of_decide_eq_true h;unfold Le;omega) (fun x p _ _ h=>ZAM (of_decide_eq_false h)) (fun a b c _ _ _ e d=>e.trans d) l fun _ _=>trivial
theorem ZS4 {D:List En1} [Gds D] (hn:D.length<=1000) {a b:Nat} (hab:a<=b) (hb:b<=D.length):
  wp (ZoF D (a:Int) (b:Int)) (fun d=>Rg a b D d/\Srt a b d):=by
 have e:D=D.take a++((D.drop a).take (b - a)++(D.drop a).drop (b - a)):=by rw[ZXx,ZXx]
 have l1:(D.take a).length=a:=by rw[List.length_take];omega
 have l2:((D.drop a).take (b - a)).length=b - a:=by rw[List.length_take,List.length_drop];omega
 generalize D.take a=Pre at e l1;generalize (D.drop a).take (b - a)=M at e l2;generalize (D.drop a).drop (b - a)=Suf at e;subst e;have h:=ZP9 Pre M Suf hn fun e he=>Gds.all (d:=Pre++(M++Suf)) e (List.mem_append_right _ (List.mem_append_left _ he))
 rw[l1,show ((a+M.length:Nat):Int)=(b:Int) by omega]at h;rw[h,ZnA];have l3:(ZzG ltE M).length=M.length:=ZDp M;have hs:=ZMt M;refine⟨⟨((ZDP M).append_right Suf).append_left Pre,fun k hk=> ?_⟩,fun i j x y q1 q2 q3 hx hy=> ?_⟩
 ·rcases hk with hk |hk
  ·rw[ZXl (by omega),ZXl (by omega)]
  ·rw[ZXm (by omega),ZXm (by omega),ZXm (by omega),ZXm (by omega),l3]
 ·rw[ZXm (by omega),ZXl (by omega)]at hx hy;obtain⟨hi,rfl⟩:=ZXp.1 hx;obtain⟨hj,rfl⟩:=ZXp.1 hy;exact List.pairwise_iff_getElem.1 hs _ _ hi hj (by omega)
end Go.Proofs
namespace Go.Proofs
open Go Eng
theorem Low.sub {a b c:Nat} {d:List En1} (h:Low a b d) (i:c<=b):Low a c d:=by
 rcases h with h |h
 ·exact .inl h
 ·exact .inr fun x e k y f j g=>h x e k y f (by omega) g
theorem ZSN:∀(n:Nat) {D:List En1} [Gds D] (_:D.length<=200) {a0 b0:Nat} (_:a0<=b0) (_:b0<=D.length) (_:b0 - a0 < n) (_:Low a0 b0 D) {lim:Int} (_:0<=lim) (_:lim<=1000),
  wp (ZnJ n D (a0:Int) (b0:Int) lim) (fun d=>Rg a0 b0 D d/\Srt a0 b0 d):=by
 intro n
 induction n with
 |zero=>intro D _ _ a0 b0 _ _ h;omega
 |succ n IH=>
  intro D _ hn a0 b0 hab hb hfu hlow lim hl0 hl1;show wp ((Zro (ZnJ n) D (a0:Int) (b0:Int) lim).bind _) _;rw[ZnD];refine ZnK (Q:=fun d=>Rg a0 b0 D d/\Srt a0 b0 d) ?_ fun d hd=>by rw[ZnF,ZnA];exact⟨by rw[hd.1.len];simp,hd⟩
  unfold Zro;rw[ZnD];refine ZnK (Zoh (ZCo (ZnJ n)) (fun s:Nat×Nat×Int×Bool×Bool×List En1=>((s.1:Int),(s.2.1:Int),s.2.2.1,s.2.2.2.1,s.2.2.2.2.1,s.2.2.2.2.2))
   (fun s=>a0<=s.1/\s.1<=s.2.1/\s.2.1<=b0/\(0<=s.2.2.1/\s.2.2.1<=1000)/\Rg a0 b0 D s.2.2.2.2.2/\Low s.1 s.2.1 s.2.2.2.2.2/\∀d',Rg s.1 s.2.1 s.2.2.2.2.2 d'->Srt s.1 s.2.1 d'->Srt a0 b0 d') (fun s=>s.2.1 - s.1)
   (Q:=fun x=>∃d,x= .ret d/\Rg a0 b0 D d/\Srt a0 b0 d) (a0,b0,lim,true,true,D) ⟨ZXy _,hab,ZXy _,⟨hl0,hl1⟩,.refl _ _ _,hlow,fun d' _ h=>h⟩ (by dsimp only;omega) ?_) ?_
  ·rintro rec ⟨a,b,lim,wb,wq,d⟩ ⟨h1,h2,h3,⟨h4,h5⟩,h6,h7,h8⟩ ih;dsimp only at h1 h2 h3 h4 h5 h6 h7 h8 ih;have hl:=h6.len;haveI:=h6.gds;have up:∀d',Rg a b d d'->Rg a0 b0 D d':=fun d' h=>h6.trans (h.mono h1 h3)
   unfold Zxy ZsQ;dsimp only;rw[ZnF];refine⟨ZnH (by omega), ?_⟩
   by_cases h12:(b:Int) - (a:Int)<=12
   ·rw[decide_eq_true h12,cond_true,ZnD];refine ZnK (ZS4 (D:=d) (by omega) h2 (by omega)) ?_;rintro d' ⟨r1,r2⟩;rw[ZnA];exact⟨d',rfl,up d' r1,h8 d' r1 r2⟩
   rw[decide_eq_false h12,cond_false,ZnP];refine⟨fun _=> ?_,fun hlim=> ?_⟩
   ·rw[ZnD];refine ZnK (ZQb (D:=d) (by omega) (a:=a) (b:=b) (by omega) (by omega)) ?_;rintro d' ⟨r1,r2⟩;rw[ZnA];exact⟨d',rfl,up d' r1,h8 d' r1 r2⟩
   have hlim':lim≠0:=by simpa using hlim
   have j5:∀(pv:Nat) (L:Int) (len:Int) (d1:List En1) (f:Bool),a<=pv->pv < b->0<=L->L<=1000->len=((b - a:Nat):Int)->Rg a b d d1->
     (f=true->∃hp:pv < d1.length,∃ha:a - 1 < d1.length,0 < a/\¬ZCN d1[a - 1] d1[pv] < 0)->
     wp (Zpi (ZnJ n) (fun a1 a2 a3 a4 a5 a6=>rec (a1,a2,a3,a4,a5,a6)) (a:Int) (b:Int) L wb wq len (pv:Int) f d1) (fun x=>∃d,x= .ret d/\Rg a0 b0 D d/\Srt a0 b0 d):=by
    intro pv L len d1 f p1 p2 L0 L1 hlen r1 hf;have hl1:=r1.len;haveI:=r1.gds;have hlow1:=h7.rg r1;unfold Zpi;cases f with
    |true=>
     obtain⟨hp,ha,ha0,hnl⟩:=hf rfl;rw[cond_true,ZnD];refine ZnK (ZNL (D:=d1) (by omega) (by omega) p1 p2) ?_;rintro⟨m',d2⟩ ⟨⟨m,e,m1,m2,r2,p,q1,q2,q3⟩,q4⟩;dsimp only at e r2 q1 q2 q3 q4|-
     subst e;have hpp:d1[pv]=p:=by rw[q1,ZXo hp]at q4;exact(ZXB q4).symm
     have hl2:=r2.len;haveI:=r2.gds;have hlow2:=hlow1.rg r2;have ha2:d2[a - 1]? =some d1[a - 1]:=by rw[r2.2 (a - 1) (.inl (by omega)),ZXo ha]
     have hpa:Le p d1[a - 1]:=hpp▸ZAM hnl;have hall:∀k y,a<=k->k < b->d2[k]? =some y->Le d1[a - 1] y:=fun k y w1 w2 hy=>by
      rcases hlow2 with h |h
      ·omega
      ·exact h _ ha2 k y w1 w2 hy
     refine ih (m,b,L,wb,wq,d2) ⟨by dsimp only;omega,m2,h3,⟨L0,L1⟩,up d2 (r1.trans r2),.inr fun x hx k y w1 w2 hy=> ?_,fun d' s1 s2=> ?_⟩ (by dsimp only;omega)
     ·dsimp only at hx w1 hy;exact(ZAM (q2 (m - 1) x (by omega) (by omega) hx)).trans (.of_lt (q3 k y w1 w2 hy))
     ·dsimp only at s1 s2;refine h8 d' ((r1.trans r2).trans (s1.mono (by omega) (ZXy _))) fun i j x y w1 w2 w3 hx hy=> ?_
      by_cases e1:i < m
      ·rw[s1.2 i (.inl e1)]at hx;have hxp:Le x p:=ZAM (q2 i x w1 e1 hx)
       by_cases e2:j < m
       ·rw[s1.2 j (.inl e2)]at hy;exact(hxp.trans hpa).trans (hall j y (by omega) (by omega) hy)
       ·obtain⟨k',u1,u2,u3⟩:=s1.mem (by omega) w3 hy;exact hxp.trans (.of_lt (q3 k' y u1 u2 u3))
      ·exact s2 i j x y (by omega) w2 w3 hx hy
    |false=>
     rw[cond_false,ZnD];refine ZnK (ZJz (D:=d1) (by omega) (by omega) p1 p2) ?_;rintro⟨m',ap,d2⟩ ⟨m,e,m1,m2,r2,p,q1,q2,q3⟩;dsimp only at e r2 q1 q2 q3|-
     subst e;have hl2:=r2.len;haveI:=r2.gds;have hlow2:=hlow1.rg r2;rw[hlen,ZnF,ZnF,ZnF,ZnF,show Int.tdiv ((b - a:Nat):Int) 8=(((b - a) / 8:Nat):Int)from rfl,ZnP];refine⟨ZnH (by omega),ZnH (by omega),rfl,ZnH (by omega),fun _=> ?_,fun _=> ?_⟩
     ·rw[ZnD];refine ZnK (IH (D:=d2) (by omega) (a0:=a) (b0:=m) m1 (by omega) (by omega) (hlow2.sub (by omega)) L0 L1) ?_;rintro d3 ⟨r3,r4⟩;have hl3:=r3.len;haveI:=r3.gds;rw[ZnF,show (m:Int)+1=((m+1:Nat):Int) by omega];have hpm:d3[m]? =some p:=by rw[r3.2 m (.inr (ZXy _))];exact q1
      have hhi:∀k y,m < k->k < b->d3[k]? =some y->Le p y:=fun k y w1 w2 hy=>by rw[r3.2 k (.inr (by omega))]at hy;exact ZAM (q3 k y w1 w2 hy)
      have hlo:∀k y,a<=k->k < m->d3[k]? =some y->Le y p:=fun k y w1 w2 hy=>by obtain⟨k',u1,u2,u3⟩:=r3.mem w1 w2 hy;exact .of_lt (q2 k' y u1 u2 u3)
      refine⟨ZnH (by omega),ih (m+1,b,L,_,ap,d3) ⟨by dsimp only;omega,by dsimp only;omega,h3,⟨L0,L1⟩,up d3 ((r1.trans r2).trans (r3.mono (ZXy _) (by omega))),.inr fun x hx k y w1 w2 hy=> ?_,fun d' s1 s2=> ?_⟩ (by dsimp only;omega)⟩
      ·dsimp only at hx w1 hy;rw[show m+1 - 1=m by omega,hpm]at hx;rw[<-ZXB hx];exact hhi k y (by omega) w2 hy
      ·dsimp only at s1 s2;refine h8 d' (((r1.trans r2).trans (r3.mono (ZXy _) (by omega))).trans (s1.mono (by omega) (ZXy _))) fun i j x y w1 w2 w3 hx hy=> ?_
       by_cases e1:i < m
       ·rw[s1.2 i (.inl (by omega))]at hx
        by_cases e2:j < m
        ·rw[s1.2 j (.inl (by omega))]at hy;exact r4 i j x y w1 w2 e2 hx hy
        ·have hxp:=hlo i x w1 e1 hx
         by_cases e3:j=m
         ·subst e3;rw[s1.2 j (.inl (by omega)),hpm]at hy;rw[<-ZXB hy];exact hxp
         ·obtain⟨k',u1,u2,u3⟩:=s1.mem (by omega) w3 hy;exact hxp.trans (hhi k' y (by omega) u2 u3)
       ·by_cases e3:i=m
        ·subst e3;rw[s1.2 i (.inl (by omega)),hpm]at hx;rw[<-ZXB hx];obtain⟨k',u1,u2,u3⟩:=s1.mem (by omega) w3 hy;exact hhi k' y (by omega) u2 u3
        ·exact s2 i j x y (by omega) w2 w3 hx hy
     ·rw[ZnF,ZnD,show (m:Int)+1=((m+1:Nat):Int) by omega];have hlowr:Low (m+1) b d2:= .inr fun x hx k y w1 w2 hy=>by rw[show m+1 - 1=m by omega,q1]at hx;rw[<-ZXB hx];exact ZAM (q3 k y (by omega) w2 hy)
      refine⟨ZnH (by omega),ZnK (IH (D:=d2) (by omega) (a0:=m+1) (b0:=b) (by omega) (by omega) (by omega) hlowr L0 L1) ?_⟩;rintro d3 ⟨r3,r4⟩;have hl3:=r3.len;haveI:=r3.gds;have hpm:d3[m]? =some p:=by rw[r3.2 m (.inl (by omega))];exact q1
      have hhi:∀k y,m < k->k < b->d3[k]? =some y->Le p y:=fun k y w1 w2 hy=>by obtain⟨k',u1,u2,u3⟩:=r3.mem (by omega) w2 hy;exact ZAM (q3 k' y (by omega) u2 u3)
      have hlo:∀k y,a<=k->k < m->d3[k]? =some y->Le y p:=fun k y w1 w2 hy=>by rw[r3.2 k (.inl (by omega))]at hy;exact .of_lt (q2 k y w1 w2 hy)
      have r23:Rg a b d2 d3:=r3.mono (by omega) (ZXy _);refine ih (a,m,L,_,ap,d3) ⟨h1,m1,by dsimp only;omega,⟨L0,L1⟩,up d3 ((r1.trans r2).trans r23),(hlow2.rg r23).sub (show m<=b by omega),fun d' s1 s2=> ?_⟩ (by dsimp only;omega);dsimp only at s1 s2;refine h8 d' (((r1.trans r2).trans r23).trans (s1.mono (ZXy _) (by omega))) fun i j x y w1 w2 w3 hx hy=> ?_
      by_cases e2:j < m
      ·exact s2 i j x y w1 w2 e2 hx hy
      ·rw[s1.2 j (.inr (by omega))]at hy
       by_cases e1:i < m
       ·obtain⟨k',u1,u2,u3⟩:=s1.mem w1 e1 hx;have hxp:=hlo k' x u1 u2 u3
        by_cases e3:j=m
        ·subst e3;rw[hpm]at hy;rw[<-ZXB hy];exact hxp
        ·exact hxp.trans (hhi j y (by omega) w3 hy)
       ·rw[s1.2 i (.inr (by omega))]at hx
        by_cases e3:i=m
        ·subst e3;rw[hpm]at hx;rw[<-ZXB hx];exact hhi j y (by omega) w3 hy
        ·exact r4 i j x y (by omega) w2 w3 hx hy
   have j4:∀(pv:Nat) (L:Int) (len:Int) (d1:List En1),a<=pv->pv < b->0<=L->L<=1000->len=((b - a:Nat):Int)->Rg a b d d1->
     wp (Zpj (ZnJ n) (fun a1 a2 a3 a4 a5 a6=>rec (a1,a2,a3,a4,a5,a6)) (a:Int) (b:Int) L wb wq len (pv:Int) d1) (fun x=>∃d,x= .ret d/\Rg a0 b0 D d/\Srt a0 b0 d):=by
    intro pv L len d1 p1 p2 L0 L1 hlen r1;have hl1:=r1.len;haveI:=r1.gds;have hp:pv < d1.length:=by omega
    unfold Zpj
    by_cases ha:0 < a
    ·have ha1:a - 1 < d1.length:=by omega
     rw[decide_eq_true (show (a:Int) > 0 by omega),cond_true,show (a:Int) - 1=((a - 1:Nat):Int) by omega,ZnF,ZnF,ZXj,ZXj,ZXo ha1,ZnD,ZnA,ZnF,ZXo hp,ZnD,ZnA,ZBj,ZnD,ZnA];refine⟨ZnH (by omega),Zoj ha1,Zoj hp,j5 pv L len d1 _ p1 p2 L0 L1 hlen r1 fun hf=>⟨hp,ha1,ha, ?_⟩⟩;simpa using hf
    ·rw[decide_eq_false (show ¬(a:Int) > 0 by omega),cond_false];exact j5 pv L len d1 false p1 p2 L0 L1 hlen r1 fun h=>by cases h
   have j2:∀(pv:Nat) (h L:Int) (len:Int) (d1:List En1),a<=pv->pv < b->0<=L->L<=1000->len=((b - a:Nat):Int)->Rg a b d d1->
     wp (Zpk (ZnJ n) (fun a1 a2 a3 a4 a5 a6=>rec (a1,a2,a3,a4,a5,a6)) (a:Int) (b:Int) L wb wq len (pv:Int) h d1) (fun x=>∃d,x= .ret d/\Rg a0 b0 D d/\Srt a0 b0 d):=by
    intro pv h L len d1 p1 p2 L0 L1 hlen r1;have hl1:=r1.len;haveI:=r1.gds;have j3:∀f:Bool,wp (ZoB (ZnJ n) (fun a1 a2 a3 a4 a5 a6=>rec (a1,a2,a3,a4,a5,a6)) (a:Int) (b:Int) L wb wq len (pv:Int) f d1) (fun x=>∃d,x= .ret d/\Rg a0 b0 D d/\Srt a0 b0 d):=by
     intro f;unfold ZoB;cases f with
     |false=>rw[cond_false];exact j4 pv L len d1 p1 p2 L0 L1 hlen r1
     |true=>
      rw[cond_true,ZnD];refine ZnK (ZKj (D:=d1) (by omega) (by omega) (by omega) (h7.rg r1)) ?_;rintro⟨q,d2⟩ ⟨w1,w2⟩;dsimp only at w1 w2|-
      cases q with
      |true=>
       rw[cond_true,ZnA];exact⟨d2,rfl,up d2 (r1.trans w1),h8 d2 (r1.trans w1) (w2 rfl)⟩
      |false=>rw[cond_false];exact j4 pv L len d2 p1 p2 L0 L1 hlen (r1.trans w1)
    unfold Zpk;rw[ZnP];refine⟨fun _=> ?_,fun _=>j3 _⟩;rw[ZnP];exact⟨fun _=>j3 _,fun _=>j3 _⟩
   have j1:∀(L:Int) (d1:List En1),0<=L->L<=1000->Rg a b d d1->
     wp (Zpl (ZnJ n) (fun a1 a2 a3 a4 a5 a6=>rec (a1,a2,a3,a4,a5,a6)) (a:Int) (b:Int) L wb wq ((b:Int) - (a:Int)) d1) (fun x=>∃d,x= .ret d/\Rg a0 b0 D d/\Srt a0 b0 d):=by
    intro L d1 L0 L1 r1;have hl1:=r1.len;haveI:=r1.gds;unfold Zpl;rw[ZnD];refine ZnK (ZNI (d:=d1) (by omega) (a:=a) (b:=b) (by omega) (by omega)) ?_;rintro _ ⟨pv,h,rfl,p1,p2⟩;dsimp only;rw[ZnP];refine⟨fun _=> ?_,fun _=>j2 pv h L _ d1 p1 p2 L0 L1 (by omega) r1⟩;rw[ZnD];refine ZnK (ZLm (D:=d1) (by omega) h2 (by omega)) ?_;intro d2 r2;rw[ZnF,ZnF,ZnF,show (b:Int) - 1 - ((pv:Int) - (a:Int))=((b - 1 - (pv - a):Nat):Int) by omega];exact⟨ZnH (by omega),ZnH (by omega),ZnH (by omega),j2 _ 1 L _ d2 (by omega) (by omega) L0 L1 (by omega) (r1.trans r2)⟩
   rw[ZnP];refine⟨fun _=> ?_,fun _=>j1 lim d h4 h5 (.refl _ _ _)⟩;rw[ZnD];refine ZnK (ZOc (D:=d) (by omega) (a:=a) (b:=b) (by omega) (by omega)) ?_;intro d1 r1;rw[ZnF];exact⟨ZnH (by omega),j1 (lim - 1) d1 (by omega) (by omega) r1⟩
  ·rintro _ ⟨d,rfl,r1,r2⟩;dsimp only;rw[ZnA];exact⟨r1,r2⟩
end Go.Proofs
namespace Go.Proofs
open Go Eng
theorem lens:((ZXw 201).all fun n:Nat=>match Zz3 (IntKind.wrap .u64 (n:Int))with |some m=>decide (0<=m/\m<=1000) |none=>false)=true:=by kernel_rfl
theorem ZNw {D:List En1} [Gds D] (hl:D.length<=200):wp (ZqN D) (fun r=>r.Perm D/\r.Pairwise Le):=by have h2:=ZXk.1 lens D.length (ZXv.2 (by omega));split at h2;rotate_left;simp at h2;rename_i m hm;obtain⟨h3,h4⟩:=of_decide_eq_true h2;have key:=ZSN big (D:=D) hl (a0:=0) (b0:=D.length) (Nat.zero_le _) (ZXy _) (by rw[big_eq];omega) (.inl rfl) h3 h4;unfold ZqN Zun;rw[hm,ZXA,ZnD,ZnD];refine ZnK key ?_;rintro r ⟨hr,hs⟩;rw[ZnA,ZnF,ZnA];refine⟨by rw[hr.len];simp,hr.1,List.pairwise_iff_getElem.2 fun i j hi hj hij=> ?_⟩;have:=hr.len;exact hs i j _ _ (Nat.zero_le _) hij (by omega) (ZXo hi) (ZXo hj)
end Go.Proofs
namespace Go.Proofs
open Go Eng
theorem ZHi {d:ZnC} (c:Ztf d) {l:List Str} (g:1<=l.length) (e:l.length<=1000):wp (Zoc d l) (fun r=>r.1∈l/\Ztf r.2):=by
 unfold Zoc;rw[ZnD];refine ZnK (ZAy c (by omega)) fun⟨q,f⟩ ⟨b,a⟩=> ?_
 dsimp only at b a|-
 rw[ZnD,ZF9];refine⟨b.1,by omega, ?_⟩;rw[ZnA];exact⟨List.getElem_mem _,a⟩
def ZFp:List Str:=[[97],[98],[99],[49],[50],[51],[49,48],[120],[45,49,46,53],[100],[],[49,46,50,46,51],[49,46,53,48]]++((ZXw 12).map fun i:Nat=>Lib.itoa ((i:Int) - 3))++((ZXw 14).map fun i:Nat=>([107]:Str)++Lib.itoa (i:Int))++
 [[105,100],[110,97,109,101],[85,110,105,116,32,80,114,105,99,101],[99,105,116,121],[117,110,105,116],[112,114,105,99,101],[105,100,50],[116],[111,114,100,101,114,115],[115,97,109,101]]
theorem ZKp:(ZFp.all fun s=>ZGW s&&decide (s.length<=10))=true:=by kernel_rfl
theorem ZHL {s:Str} (h:s∈ZFp):ZGW s=true/\s.length<=10:=by have:=ZXk.1 ZKp s h;simpa using this
def ZHP (c:G_api_Cell):Prop:=c.Text∈ZFp/\(c.Null=true->c.Text=[])
theorem ZIT:ZHP ⟨true,[]⟩:=⟨by decide+kernel,fun _=>rfl⟩
theorem ZFM {s:Str} (h:s∈ZFp):ZHP ⟨false,s⟩:=⟨h,fun h=>by cases h⟩
theorem ZLk {l:List Str} (h:l.all (fun s=>ZFp.contains s)=true) {s:Str} (a:s∈l):s∈ZFp:=by simpa using ZXk.1 h s a
def ZPi (n:Nat) (c:G_api_Column):Prop:=c.Name∈ZFp/\c.Cells.length=n/\∀x∈c.Cells,ZHP x
theorem ZS2 {n:Int} (h: -3<=n/\n<=8):Lib.itoa n∈ZFp:=by
 have a:((ZXw 12).all fun i:Nat=>ZFp.contains (Lib.itoa ((i:Int) - 3)))=true:=by kernel_rfl
 have:=ZXk.1 a (n+3).toNat (ZXv.2 (by omega));rw[show (((n+3).toNat:Nat):Int) - 3=n by omega]at this;simpa using this
theorem k_d {n:Int} (h:0<=n/\n < 14):([107]:Str)++Lib.itoa n∈ZFp:=by
 have a:((ZXw 14).all fun i:Nat=>ZFp.contains (([107]:Str)++Lib.itoa (i:Int)))=true:=by kernel_rfl
 have:=ZXk.1 a n.toNat (ZXv.2 (by omega));rw[show ((n.toNat:Nat):Int)=n by omega]at this;simpa using this
theorem ZQp {d:ZnC} (e:Ztf d):wp (Zwd d) (fun r=>ZHP r.1/\Ztf r.2):=by
 unfold Zwd;rw[ZnD];refine ZnK (ZAy e (by omega)) fun⟨q,h⟩ ⟨f,a⟩=> ?_
 dsimp only at f a|-
 rw[ZnP];refine⟨fun _=> ?_,fun _=> ?_⟩
 ·rw[ZnA];exact⟨ZIT,a⟩
 ·rw[ZnD];refine ZnK (ZHi a (by decide) (by decide)) fun⟨s,g⟩ ⟨c,b⟩=> ?_
  dsimp only at c b|-
  rw[ZnA];exact⟨ZFM (ZLk (by decide+kernel) c),b⟩
theorem ZMj {d:ZnC} (g:Ztf d):wp (Zue d) (fun r=>ZHP r.1/\Ztf r.2):=by
 unfold Zue;rw[ZnD];refine ZnK (ZAy g (by omega)) fun⟨q,h⟩ ⟨c,b⟩=> ?_
 dsimp only at c b|-
 rw[ZnP];refine⟨fun _=> ?_,fun _=> ?_⟩
 ·rw[ZnA];exact⟨ZIT,b⟩
 rw[ZnP];refine⟨fun _=> ?_,fun _=> ?_⟩
 ·rw[ZnD];refine ZnK (ZHi b (by decide) (by decide)) fun⟨s,f⟩ ⟨e,a⟩=> ?_
  dsimp only at e a|-
  rw[ZnA];exact⟨ZFM (ZLk (by decide+kernel) e),a⟩
 ·rw[ZnD];refine ZnK (ZAy b (by omega)) fun⟨q,f⟩ ⟨c,a⟩=> ?_
  dsimp only at c a|-
  unfold ZAN;rw[ZnF,ZnD,ZnA,ZnA];exact⟨ZnH (by omega),ZFM (ZS2 (by omega)),a⟩
theorem ZLz {n:Int} (h:0<=n/\n < 14):(Lib.itoa n).length<=2:=by
 have a:((ZXw 14).all fun i:Nat=>decide ((Lib.itoa (i:Int)).length<=2))=true:=by kernel_rfl
 have:=of_decide_eq_true (ZXk.1 a n.toNat (ZXv.2 (by omega)))
 rwa [show ((n.toNat:Nat):Int)=n by omega]at this
theorem ZJJ {d:ZnC} (hd:Ztf d) (rows:Nat) (hr:rows<=14):
  wp (ZrT d (rows:Int)) (fun r=>ZPi rows r.1/\Ztf r.2):=by
 unfold ZrT;rw[ZnD];refine ZnK (ZHi hd (by decide) (by decide)) fun⟨nm,d1⟩ ⟨hnm0,hd1⟩=> ?_
 dsimp only at hd1 hnm0|-
 have hnm:nm∈ZFp:=ZLk (by decide+kernel) hnm0;rw[ZnD];refine ZnK (ZAy hd1 (by omega)) fun⟨kind,d2⟩ ⟨_,hd2⟩=> ?_
 dsimp only at hd2|-
 rw[ZnD];refine ZnK (ZvD ZEk rows (by omega) (fun i (t:ZnC×List G_api_Cell)=>(kind,(rows:Int),i,t.1,([]:Str),nm,([]:List G_api_Cell),t.2))
  (fun k t=>Ztf t.1/\t.2.length=k/\∀c∈t.2,ZHP c) (Q:=fun x=>x.2.2.1=nm/\Ztf x.1/\x.2.2.2.2.length=rows/\∀c∈x.2.2.2.2,ZHP c) (d2,[]) ⟨hd2,rfl,fun c hc=>absurd hc (by simp)⟩ ?_ ?_) ?_
 ·rintro rec k ⟨d,cs⟩ hk ⟨hd,hlen,hcs⟩ ih;dsimp only at hd hlen hcs ih;have next:∀(x:G_api_Cell) (d':ZnC),ZHP x->Ztf d'->wp (Zpq (fun kind t15 i d t4 c t4_1 c_1=>rec (kind,t15,i,d,t4,c,t4_1,c_1)) kind (rows:Int) (k:Int) d' [] nm x [] cs) (fun x=>x.2.2.1=nm/\Ztf x.1/\x.2.2.2.2.length=rows/\∀c∈x.2.2.2.2,ZHP c):=by
   intro x d' hx hd';unfold Zpq;rw[ZnF,ZnF];refine⟨Ztn (by rw[ZXu];omega),ZnH (by omega),ih (d',cs++[x]) ⟨hd',by dsimp only;rw[ZXr,ZXu];omega,fun c hc=> ?_⟩⟩;rcases List.mem_append.1 hc with hc |hc
   ·exact hcs c hc
   ·obtain rfl:=List.mem_singleton.1 hc;exact hx
  unfold Zxn ZtK;dsimp only;rw[decide_eq_true (show (k:Int) < (rows:Int) by omega),cond_true,ZnD];refine ZnK (ZQp hd) fun⟨x,d3⟩ ⟨hx,hd3⟩=> ?_
  dsimp only at hx hd3|-
  rw[ZnP];refine⟨fun _=> ?_,fun _=> ?_⟩
  ·rw[ZnD];exact ZnK (ZMj hd3) fun⟨y,d4⟩ ⟨hy,hd4⟩=>next y d4 hy hd4
  rw[ZnP];refine⟨fun _=> ?_,fun _=> ?_⟩
  ·unfold ZAN;have:=ZLz (n:=(k:Int)) (by omega);rw[ZnD,ZnA,ZnF];exact⟨decide_eq_true (by rw[ZXu];unfold Zq;omega),next _ d3 (ZFM (k_d (by omega))) hd3⟩
  rw[ZnP];refine⟨fun _=> ?_,fun _=> ?_⟩
  ·rw[ZnD];exact ZnK (ZHi hd3 (by decide) (by decide)) fun⟨s,d4⟩ ⟨hs,hd4⟩=>next _ d4 (ZFM (ZLk (by decide+kernel) hs)) hd4
  ·exact next x d3 hx hd3
 ·rintro rec ⟨d,cs⟩ ⟨hd,hlen,hcs⟩;unfold Zxn ZtK;dsimp only at hd hlen hcs|-
  rw[decide_eq_false (show ¬(rows:Int) < (rows:Int) by omega),cond_false,ZnA];exact⟨rfl,hd,hlen,hcs⟩
 ·rintro⟨d,_,nm',_,cs⟩ ⟨h0,h1,h2,h3⟩;unfold ZyJ;dsimp only at h0 h1 h2 h3|-
  subst h0;rw[ZnA];exact⟨⟨hnm,h2,h3⟩,h1⟩
end Go.Proofs
