/- Plain laws over the specs, part 2. -/
import Derived.Test.YtpkmihjnkbkcjaaGreatDoorWtM1
import Derived.Test.YtpkmihjnkbkcjaaGreatDoorWtM0
import Derived.Test.YtpkmihjnkbkcjaaGreatDoorQ
import Derived.Test.YtpkmihjnkbkcjaaGreatDoorE4
import Derived.Test.YtpkmihjnkbkcjaaGreatDoorWtU
set_option linter.unusedVariables false
set_option linter.unusedSimpArgs false
set_option linter.unusedSectionVars false
open Bool renaming not_true→ZFw
open Int renaming toNat_natCast→ZIE
open List renaming getElem?_eq_getElem→ZIM, length_append→ZIQ, take_append_drop→ZIX, getElem_mem→ZIP, getElem?_append_right→ZIJ, length_take→ZIU, getElem?_drop→ZIL, append_assoc→ZIF, getElem?_eq_some_iff→ZIN, length_set→ZIT, length_nil→ZIS, flatMap_cons→ZIG, getElem?_take→ZIO, length_cons→ZIR, mem_of_mem_take→ZIV, take_length→ZIY, getD_eq_getElem?_getD→ZIH, getElem?_append_left→ZII, pairwise_iff_getElem→ZIW, getElem?_cons_zero→ZIK
open Nat renaming le_refl→ZIZ
open Option renaming bind_some→ZI0, some.inj→ZI1
namespace Go.Proofs
open Go Eng
theorem Rg.mid {a b:Nat} {D d:List En1} (h:Rg a b D d) (hab:a≤b):((d.drop a).take (b - a)).Perm ((D.drop a).take (b - a)):=by
 have h1:d.take a=D.take a:=by
  refine List.ext_getElem? fun k=> ?_
  rw[ZIO,ZIO]
  by_cases hk:k < a
  ·rw[if_pos hk,if_pos hk,h.2 k (.inl hk)]
  ·rw[if_neg hk,if_neg hk]
 have h2:(d.drop a).drop (b - a)=(D.drop a).drop (b - a):=by
  refine List.ext_getElem? fun k=> ?_
  rw[ZIL,ZIL,ZIL,ZIL,h.2 _ (.inr (by omega))]
 have hp:=h.1;rw[←ZIX a d,←ZIX a D,h1,List.perm_append_left_iff]at hp;rw[←ZIX (b - a) (d.drop a),←ZIX (b - a) (D.drop a),h2,List.perm_append_right_iff]at hp;exact hp
theorem ZCw {a b:Nat} {d:List En1} {x:En1}:x∈(d.drop a).take (b - a)↔∃k,a≤k∧k < b∧d[k]? =some x:=by
 rw[List.mem_iff_getElem?];constructor
 ·rintro⟨k,hk⟩;rw[ZIO]at hk;split at hk;rotate_left;simp at hk;rw[ZIL]at hk;exact⟨a+k,by omega,by omega,hk⟩
 ·rintro⟨k,h1,h2,h3⟩;refine⟨k - a, ?_⟩;rw[ZIO,if_pos (by omega),ZIL,show a+(k - a)=k by omega];exact h3
theorem Rg.mem {a b k:Nat} {D d:List En1} {x:En1} (h:Rg a b D d) (h1:a≤k) (h2:k < b) (h3:d[k]? =some x):∃k',a≤k'∧k' < b∧D[k']? =some x:=
 ZCw.1 ((h.mid (by omega)).mem_iff.1 (ZCw.2 ⟨k,h1,h2,h3⟩))
def Srt (a b:Nat) (d:List En1):Prop:=∀i j x y,a≤i→i < j→j < b→d[i]? =some x→d[j]? =some y→Le x y
theorem ZDe {f n:Nat} {d:List En1} (h:Hx f 0 n d none):∀(k:Nat) (x y:En1),k < n→d[f]? =some x→d[f+k]? =some y→Le y x:=by
 intro k
 induction k using Nat.strongRecOn with
 |ind k ih=>
  intro x y hk hx hy
  by_cases h0:k=0
  ·subst h0;rw[Nat.add_zero,hx]at hy;rw[←ZI1 hy];exact .rfl' _
  ·have hl:f+k < d.length:=(ZIN.1 hy).1;have hq:d[f+(k - 1) / 2]? =some (d[f+(k - 1) / 2]'(by omega)):=ZIM (by omega);exact(h ((k - 1) / 2) k _ y (Nat.zero_le _) (by simp) (by omega) hk hq hy).trans (ih ((k - 1) / 2) (by omega) x _ (by omega) hx hq)
theorem ZEj {D:List En1} [Gds D] (hn:D.length≤1000) {a b:Nat} (hab:a+1≤b) (hb:b≤D.length):
  wp (ZqD D (a:Int) (b:Int)) (fun d=>Rg a b D d∧Srt a b d):=by
 have Ze:wp (Zq3 D (a:Int) (b:Int)) (fun d=>Rg a b D d∧Srt a b d):=by
  obtain⟨n,rfl⟩:∃n,b=a+n:=⟨b - a,by omega⟩;unfold Zq3;rw[show ((a+n:Nat):Int) - (a:Int)=(n:Int) by omega,show (n:Int) - 1=((n - 1:Nat):Int) by omega,show Int.tdiv ((n - 1:Nat):Int) 2=(((n - 1) / 2:Nat):Int)from rfl,Zom,Zom,Zom,Zom,Zol];refine⟨Zoo (by omega),Zoo (by omega),rfl,Zoo (by omega), ?_⟩;have l1:=Zrk ZwF (fun s:Nat×List En1=>((a:Int),(0:Int),(n:Int),(s.1:Int) - 1,s.2)) (fun s=>s.1≤n∧Rg a (a+n) D s.2∧Hx a s.1 n s.2 none) (fun s=>s.1)
   (Q:=fun x=>∃d,x=((a:Int),(0:Int),(n:Int),d)∧Rg a (a+n) D d∧Hx a 0 n d none) ((n - 1) / 2+1,D) ⟨by dsimp only;omega,.refl _ _ _,fun k c x y hk _ hcc hcl _ _=>by dsimp only at hk;omega⟩ (by dsimp only;omega) (by
   rintro rec ⟨t,d⟩ ⟨h1,h2,h3⟩ ih;dsimp only at h1 h2 h3 ih;have hl:=h2.len;haveI:=h2.gds;unfold ZtM Zry;dsimp only
   by_cases ht:1≤t
   ·rw[decide_eq_true (show (t:Int) - 1≥0 by omega),cond_true,show (t:Int) - 1=((t - 1:Nat):Int) by omega,Zol];refine Zow (ZCn (D:=d) (by omega) (f:=a) (lo:=t - 1) (hi:=n) (by omega) (by omega) fun k c x y hk hkr hcc hcl hx hy=>h3 k c x y (by have:k≠t - 1:=fun e=>hkr (by rw[e]);omega) (by simp) hcc hcl hx hy) ?_;rintro d' ⟨r1,r2⟩;rw[Zom];refine⟨Zoo (by omega),ih (t - 1,d') ⟨by dsimp only;omega,h2.trans r1,r2⟩ (by dsimp only;omega)⟩
   ·obtain rfl:t=0:=by omega
    rw[decide_eq_false (show ¬((0:Nat):Int) - 1≥0 by omega),cond_false,Zok];exact⟨d,rfl,h2,h3⟩)
  dsimp only at l1;rw[show (((n - 1) / 2+1:Nat):Int) - 1=(((n - 1) / 2:Nat):Int) by omega]at l1;refine Zow l1 ?_;rintro _ ⟨d1,rfl,g1,g2⟩;dsimp only;unfold Zr2;rw[Zom,Zol];refine⟨Zoo (by omega), ?_⟩;have l2:=Zrk ZwE (fun s:Nat×List En1=>((a:Int),(0:Int),(s.1:Int) - 1,s.2)) (fun s=>s.1≤n∧Rg a (a+n) D s.2∧Hx a 0 s.1 s.2 none∧Srt (a+s.1) (a+n) s.2∧∀k j x y,k < s.1→s.1≤j→j < n→s.2[a+k]? =some x→s.2[a+j]? =some y→Le x y) (fun s=>s.1)
   (Q:=fun d=>Rg a (a+n) D d∧Srt a (a+n) d) (n,d1) ⟨ZIZ _,g1,g2,fun i j x y h1 h2 h3=>by dsimp only at h1;omega,fun k j x y h1 h2 h3=>by dsimp only at h2;omega⟩ (by dsimp only;omega) (by
   rintro rec ⟨t,d⟩ ⟨h1,h2,h3,h4,h5⟩ ih;dsimp only at h1 h2 h3 h4 h5 ih;have hl:=h2.len;haveI:=h2.gds;unfold ZtK Zrx;dsimp only
   by_cases ht:1≤t
   ·have hi:a+(t - 1) < d.length:=by omega
    have h0:a < d.length:=by omega
    have hx0:d[a]? =some d[a]:=ZIM h0;rw[decide_eq_true (show (t:Int) - 1≥0 by omega),cond_true,show (t:Int) - 1=((t - 1:Nat):Int) by omega,show (a:Int)+((t - 1:Nat):Int)=((a+(t - 1):Nat):Int) by omega,Zom,Zom,Zom,ZIE,ZIE,ZIM hi,Zol,Zok,Zom,hx0,Zol,Zok,Zom,Zom,Zol];refine⟨Zoo (by omega),Zoo (by omega),ZoU hi,ZoU h0,ZoU h0,ZpA ⟨by omega,by rw[ZIT];omega⟩, ?_⟩;have hsl:=ZzM h0 hi;have hsg:=Zxr h0 hi;have hsr:Rg a (a+n) d (sw d a (a+(t - 1)) h0 hi):=ZzL h0 hi (ZIZ _) (by omega) (by omega) (by omega);have hsr2:Rg a (a+t) d (sw d a (a+(t - 1)) h0 hi):=ZzL h0 hi (ZIZ _) (by omega) (by omega) (by omega);show wp (Zo5 (sw d a (a+(t - 1)) h0 hi) ((0:Nat):Int) ((t - 1:Nat):Int) (a:Int)) _;refine Zow (ZCn (D:=sw d a (a+(t - 1)) h0 hi) (by omega) (f:=a) (lo:=0) (hi:=t - 1) (by omega) (by omega) fun k c x y hk hkr hcc hcl hx hy=> ?_) ?_
    ·have hk0:k≠0:=fun e=>hkr (by rw[e])
     rw[hsg _ (by omega),if_neg (by omega),if_neg (by omega)]at hx;rw[hsg _ (by omega),if_neg (by omega),if_neg (by omega)]at hy;exact h3 k c x y hk (by simp) hcc (by omega) hx hy
    rintro d' ⟨r1,r2⟩;rw[Zom];have hat:∀j,t - 1≤j→j < n→d'[a+j]? =if j=t - 1 then some d[a]else d[a+j]? :=by
     intro j hj hjn;rw[r1.2 (a+j) (.inr (by omega)),hsg _ (by omega)]
     by_cases e:j=t - 1
     ·rw[if_pos (by omega),if_pos e]
     ·rw[if_neg (by omega),if_neg (by omega),if_neg e]
    have hold:∀k x,k < t - 1→d'[a+k]? =some x→∃k',k' < t∧d[a+k']? =some x:=by intro k x hk hx;obtain⟨k1,q1,q2,q3⟩:=r1.mem (by omega) (show a+k < a+(t - 1) by omega) hx;obtain⟨k2,q4,q5,q6⟩:=hsr2.mem q1 (by omega) q3;exact⟨k2 - a,by omega,by rw[show a+(k2 - a)=k2 by omega];exact q6⟩
    refine⟨Zoo (by omega),ih (t - 1,d') ⟨by dsimp only;omega,(h2.trans hsr).trans (r1.mono (ZIZ _) (by omega)),r2,fun i j x y q1 q2 q3 hx hy=> ?_,fun k j x y q1 q2 q3 hx hy=> ?_⟩ (by dsimp only;omega)⟩
    ·dsimp only at q1;rw[show i=a+(i - a) by omega,hat (i - a) (by omega) (by omega)]at hx;rw[show j=a+(j - a) by omega,hat (j - a) (by omega) (by omega),if_neg (by omega)]at hy
     by_cases e:i - a=t - 1
     ·rw[if_pos e]at hx;rw[←ZI1 hx];exact h5 0 (j - a) _ y (by omega) (by omega) (by omega) hx0 hy
     ·rw[if_neg e]at hx;exact h4 (a+(i - a)) (a+(j - a)) x y (by omega) (by omega) (by omega) hx hy
    ·dsimp only at q1 q2;obtain⟨k',w1,w2⟩:=hold k x q1 hx;rw[hat j (by omega) q3]at hy
     by_cases e:j=t - 1
     ·rw[if_pos e]at hy;rw[←ZI1 hy];exact ZDe h3 k' _ x w1 hx0 w2
     ·rw[if_neg e]at hy;exact h5 k' j x y w1 (by omega) q3 w2 hy
   ·obtain rfl:t=0:=by omega
    rw[decide_eq_false (show ¬((0:Nat):Int) - 1≥0 by omega),cond_false,Zok];exact⟨h2,h4⟩)
  refine Zow l2 ?_;intro d hd;unfold Zr1;rw[Zok];exact hd
 unfold ZqD;rw[Zol];refine Zow Ze fun d hd=> ?_
 rw[Zom,Zok];exact⟨by rw[hd.1.len];simp,hd⟩
end Go.Proofs
namespace Go.Proofs
open Go Eng
def Low (a b:Nat) (d:List En1):Prop:=a=0∨∀x,d[a - 1]? =some x→∀k y,a≤k→k < b→d[k]? =some y→Le x y
theorem Low.rg {a b:Nat} {D d:List En1} (h:Low a b D) (hr:Rg a b D d):Low a b d:=by
 rcases h with h |h
 ·exact .inl h
 by_cases h0:a=0
 ·exact .inl h0
 refine .inr fun x hx k y h1 h2 hy=> ?_
 rw[hr.2 (a - 1) (.inl (by omega))]at hx;obtain⟨k',q1,q2,q3⟩:=hr.mem h1 h2 hy;exact h x hx k' y q1 q2 q3
def Ins (a i j:Nat) (d:List En1):Prop:=(∀p q x y,a≤p→p < q→q < i→p≠j→q≠j→d[p]? =some x→d[q]? =some y→Le x y)∧∀q x y,j < q→q < i→d[j]? =some x→d[q]? =some y→Le x y
theorem ZBX {D:List En1} [Gds D] (hn:D.length≤1000) {a b i:Nat} (hai:a+2≤i) (hib:i < b) (hb:b≤D.length) {j0:Int} (hlow:Low a b D) (hI:Ins a i (i - 1) D):
  wp (ZoG big (a:Int) (b:Int) (i:Int) j0 ((i - 1:Nat):Int) D) (fun x=>∃d,x=((a:Int),(b:Int),(i:Int),j0,d)∧Rg a b D d∧Srt a i d):=by
 refine Zrk Zuw (fun s:Nat×List En1=>((a:Int),(b:Int),(i:Int),j0,(s.1:Int),s.2)) (fun s=>a≤s.1∧s.1 < i∧Rg a b D s.2∧Ins a i s.1 s.2) (fun s=>s.1)
  (Q:=fun x=>∃d,x=((a:Int),(b:Int),(i:Int),j0,d)∧Rg a b D d∧Srt a i d) (i - 1,D) ⟨by dsimp only;omega,by dsimp only;omega,.refl _ _ _,hI⟩ (by dsimp only;omega) ?_
 rintro rec ⟨j,d⟩ ⟨h1,h2,h3,h4,h5⟩ ih;dsimp only at h1 h2 h3 h4 h5 ih;have hl:=h3.len;haveI:=h3.gds;have hj:j < d.length:=by omega
 unfold Zrs ZpK;dsimp only;have done:(a < j→∀h:j - 1 < d.length,Le d[j - 1] d[j])→Srt a i d:=by
  intro hle p q x y q1 q2 q3 hx hy
  by_cases e1:p=j
  ·subst e1;exact h5 q x y q2 q3 hx hy
  ·by_cases e2:q=j
   ·subst e2;have hjl:q - 1 < d.length:=by omega
    have hb1:=hle (by omega) hjl;rw[ZIM hj]at hy;rw[←ZI1 hy]
    by_cases e3:p=q - 1
    ·subst e3;rw[ZIM hjl]at hx;rw[←ZI1 hx];exact hb1
    ·exact(h4 p (q - 1) x _ q1 (by omega) (by omega) e1 (by omega) hx (ZIM hjl)).trans hb1
   ·exact h4 p q x y q1 q2 q3 e1 e2 hx hy
 by_cases hc:1≤j
 ·have hj1:j - 1 < d.length:=by omega
  rw[decide_eq_true (show (j:Int)≥1 by omega),cond_true,show (j:Int) - 1=((j - 1:Nat):Int) by omega,Zom,ZIE,ZIE,ZIM hj,Zol,Zok,Zom,Zom,ZIM hj1,Zol,Zok,Zv5,Zol,Zok];refine⟨ZoU hj,Zoo (by omega),ZoU hj1, ?_⟩
  by_cases ho:Zxe d[j] d[j - 1] < 0
  ·have haj:a < j:=by
    rcases Nat.lt_or_eq_of_le h1 with h |h
    ·exact h
    ·exfalso;rcases(hlow.rg h3)with h0 |h0
     ·omega
     ·have:=h0 d[j - 1] (by rw[h];exact ZIM hj1) j d[j] (by omega) (by omega) (ZIM hj);unfold Le at this;have:=Zzu d[j - 1] d[j];omega
   rw[decide_eq_true ho,ZFw,cond_false];simp only[Zom,Zol,Zok];refine⟨Zoo (by omega),Zoo (by omega),ZoU hj1,ZoU hj,ZoU hj,ZpA ⟨by omega,by rw[ZIT];omega⟩,Zoo (by omega), ?_⟩;have hg:=Zxr hj hj1;have hgb:∀k z,(sw d j (j - 1) hj hj1)[k]? =some z→k < d.length:=fun k z hz=>by
    have:=(ZIN.1 hz).1
    rwa [ZzM]at this
   refine ih (j - 1,sw d j (j - 1) hj hj1) ⟨by dsimp only;omega,by dsimp only;omega,h3.trans (ZzL hj hj1 (by omega) (by omega) (by omega) (by omega)),fun p q x y q1 q2 q3 e1 e2 hx hy=> ?_,fun q x y q2 q3 hx hy=> ?_⟩ (by dsimp only;omega)
   ·dsimp only at e1 e2 hx hy;rw[hg _ (hgb _ _ hx),if_neg e1]at hx;rw[hg _ (hgb _ _ hy),if_neg e2]at hy
    by_cases e3:p=j
    ·rw[if_pos e3]at hx;rw[if_neg (by omega)]at hy;rw[←ZI1 hx];exact h4 (j - 1) q _ y (by omega) (by omega) q3 (by omega) (by omega) (ZIM hj1) hy
    ·rw[if_neg e3]at hx
     by_cases e4:q=j
     ·rw[if_pos e4]at hy;rw[←ZI1 hy];exact h4 p (j - 1) x _ q1 (by omega) (by omega) e3 (by omega) hx (ZIM hj1)
     ·rw[if_neg e4]at hy;exact h4 p q x y q1 q2 q3 e3 e4 hx hy
   ·dsimp only at q2 hx hy;rw[hg _ hj1,if_pos rfl]at hx;rw[hg _ (hgb _ _ hy),if_neg (by omega)]at hy;rw[←ZI1 hx]
    by_cases e4:q=j
    ·rw[if_pos e4]at hy;rw[←ZI1 hy];exact .of_lt ho
    ·rw[if_neg e4]at hy;exact h5 q _ y (by omega) q3 (ZIM hj) hy
  ·rw[decide_eq_false ho,Bool.not_false,cond_true,Zok];exact⟨d,rfl,h3,done fun _ _=>ZvW ho⟩
 ·rw[decide_eq_false (show ¬(j:Int)≥1 by omega),cond_false,Zok];exact⟨d,rfl,h3,done fun h=>by omega⟩
theorem ZBt {D:List En1} [Gds D] (hn:D.length≤1000) {a b i:Nat} (hai:a+1≤i) (hib:i+2≤b) (hb:b≤D.length) {j0:Int}:
  wp (ZoF big (a:Int) (b:Int) (i:Int) j0 ((i+1:Nat):Int) D) (fun x=>∃d,x=((a:Int),(b:Int),(i:Int),j0,d)∧Rg i b D d):=by
 refine Zrk Zuv (fun s:Nat×List En1=>((a:Int),(b:Int),(i:Int),j0,(s.1:Int),s.2)) (fun s=>i+1≤s.1∧s.1≤b∧Rg i b D s.2) (fun s=>b - s.1)
  (Q:=fun x=>∃d,x=((a:Int),(b:Int),(i:Int),j0,d)∧Rg i b D d) (i+1,D) ⟨ZIZ _,by dsimp only;omega,.refl _ _ _⟩ (by dsimp only;omega) ?_
 rintro rec ⟨j,d⟩ ⟨h1,h2,h3⟩ ih;dsimp only at h1 h2 h3 ih;have hl:=h3.len;haveI:=h3.gds;unfold Zrq ZpJ;dsimp only
 by_cases hc:j < b
 ·have hj:j < d.length:=by omega
  have hj1:j - 1 < d.length:=by omega
  rw[decide_eq_true (show (j:Int) < (b:Int) by omega),cond_true,show (j:Int) - 1=((j - 1:Nat):Int) by omega,Zom,ZIE,ZIE,ZIM hj,Zol,Zok,Zom,Zom,ZIM hj1,Zol,Zok,Zv5,Zol,Zok];refine⟨ZoU hj,Zoo (by omega),ZoU hj1, ?_⟩
  by_cases ho:Zxe d[j] d[j - 1] < 0
  ·rw[decide_eq_true ho,ZFw,cond_false];simp only[Zom,Zol,Zok];refine⟨Zoo (by omega),Zoo (by omega),ZoU hj1,ZoU hj,ZoU hj,ZpA ⟨by omega,by rw[ZIT];omega⟩,Zoo (by omega), ?_⟩;exact ih (j+1,sw d j (j - 1) hj hj1) ⟨by dsimp only;omega,by dsimp only;omega,h3.trans (ZzL hj hj1 (by omega) (by omega) (by omega) (by omega))⟩ (by dsimp only;omega)
  ·rw[decide_eq_false ho,Bool.not_false,cond_true,Zok];exact⟨d,rfl,h3⟩
 ·rw[decide_eq_false (show ¬(j:Int) < (b:Int) by omega),cond_false,Zok];exact⟨d,rfl,h3⟩
end Go.Proofs
namespace Go.Proofs
open Go Eng
theorem ZD2 {d:List En1} [Gds d] (hn:d.length≤1000) {a b i:Nat} (hai:a+1≤i) (hib:i≤b) (hb:b≤d.length) {j0:Int} (hS:Srt a i d):
  wp (Zoy big (a:Int) (b:Int) (i:Int) j0 d) (fun x=>∃i':Nat,x=((a:Int),(b:Int),(i':Int),j0,d)∧a+1≤i'∧i'≤b∧Srt a i' d∧∀h:i' < b,Zxe (d[i']'(by omega)) (d[i' - 1]'(by omega)) < 0):=by
 refine Zrk Zux (fun i:Nat=>((a:Int),(b:Int),(i:Int),j0,d)) (fun i=>a+1≤i∧i≤b∧Srt a i d) (fun i=>b - i)
  (Q:=fun x=>∃i':Nat,x=((a:Int),(b:Int),(i':Int),j0,d)∧a+1≤i'∧i'≤b∧Srt a i' d∧∀h:i' < b,Zxe (d[i']'(by omega)) (d[i' - 1]'(by omega)) < 0) i ⟨hai,hib,hS⟩ (by omega) ?_
 rintro rec i ⟨h1,h2,h3⟩ ih;unfold Zru ZpL Zo1;dsimp only
 by_cases hc:i < b
 ·have hi:i < d.length:=by omega
  have hi1:i - 1 < d.length:=by omega
  rw[decide_eq_true (show (i:Int) < (b:Int) by omega),cond_true,show (i:Int) - 1=((i - 1:Nat):Int) by omega,Zom,ZIE,ZIE,ZIM hi,Zol,Zok,Zom,Zom,ZIM hi1,Zol,Zok,Zv5,Zol,Zok];refine⟨ZoU hi,Zoo (by omega),ZoU hi1, ?_⟩
  by_cases ho:Zxe d[i] d[i - 1] < 0
  ·rw[decide_eq_true ho,ZFw,cond_false,Zok];exact⟨i,rfl,h1,h2,h3,fun _=>ho⟩
  ·rw[decide_eq_false ho,Bool.not_false,cond_true,Zom];refine⟨Zoo (by omega),ih (i+1) ⟨by omega,by omega,fun p q x y q1 q2 q3 hx hy=> ?_⟩ (by omega)⟩
   by_cases e:q=i
   ·subst e;rw[ZIM hi]at hy;rw[←ZI1 hy]
    by_cases e2:p=q - 1
    ·subst e2;rw[ZIM hi1]at hx;rw[←ZI1 hx];exact ZvW ho
    ·exact(h3 p (q - 1) x _ q1 (by omega) (by omega) hx (ZIM hi1)).trans (ZvW ho)
   ·exact h3 p q x y q1 q2 (by omega) hx hy
 ·rw[decide_eq_false (show ¬(i:Int) < (b:Int) by omega),cond_false,cond_false,Zok];exact⟨i,rfl,h1,h2,h3,fun h=>absurd h hc⟩
theorem Srt.rg {a i b:Nat} {D d:List En1} (h:Srt a i D) (hr:Rg i b D d):Srt a i d:=fun p q x y q1 q2 q3 hx hy=>h p q x y q1 q2 q3 (by rw[←hr.2 p (.inl (by omega))];exact hx) (by rw[←hr.2 q (.inl q3)];exact hy)
theorem ZBx {D:List En1} [Gds D] (hn:D.length≤1000) {a b:Nat} (hab:a+1≤b) (hb:b≤D.length) (hlow:Low a b D):
  wp (Zpa D (a:Int) (b:Int)) (fun x=>Rg a b D x.2∧(x.1=true→Srt a b x.2)):=by
 have Ze:wp (Zpg D (a:Int) (b:Int)) (fun x=>Rg a b D x.2∧(x.1=true→Srt a b x.2)):=by
  unfold Zpg;rw[Zom,Zol,show (a:Int)+1=((a+1:Nat):Int) by omega];refine⟨Zoo (by omega), ?_⟩;refine Zow (Q:=fun x=>(∃f d,x= .ret (f,d)∧Rg a b D d∧(f=true→Srt a b d))∨∃d,x= .brk d∧Rg a b D d) ?_ ?_
  ·refine Zrk Zuy (fun s:Nat×Nat×List En1=>((a:Int),(b:Int),(s.1:Int),(s.2.1:Int),s.2.2)) (fun s=>a+1≤s.1∧s.1≤b∧s.2.1≤5∧Rg a b D s.2.2∧Srt a s.1 s.2.2) (fun s=>5 - s.2.1)
    (Q:=fun x=>(∃f d,x= .ret (f,d)∧Rg a b D d∧(f=true→Srt a b d))∨∃d,x= .brk d∧Rg a b D d) (a+1,0,D) ⟨ZIZ _,hab,Nat.zero_le _,.refl _ _ _,fun p q x y q1 q2 q3=>by dsimp only at q3;omega⟩ (by dsimp only;omega) ?_
   rintro rec ⟨i,j,d⟩ ⟨h1,h2,h3,h4,h5⟩ ih;dsimp only at h1 h2 h3 h4 h5 ih;have hl:=h4.len;haveI:=h4.gds;unfold Zrw ZpM;dsimp only
   by_cases hj:j < 5
   ·rw[decide_eq_true (show (j:Int) < 5 by omega),cond_true,Zol];refine Zow (ZD2 (d:=d) (by omega) h1 h2 (by omega) h5) ?_;rintro _ ⟨i,rfl,g1,g2,g3,g4⟩;dsimp only;unfold ZpW
    by_cases e:i=b
    ·rw[show ((i:Int) == (b:Int))=true by rw[e];simp,cond_true,Zok];exact .inl ⟨true,d,rfl,h4,fun _=>e▸g3⟩
    ·have hib:i < b:=by omega
     have ho:=g4 hib;have hi:i < d.length:=by omega
     have hi1:i - 1 < d.length:=by omega
     rw[show ((i:Int) == (b:Int))=false by rw[beq_eq_false_iff_ne];omega,cond_false,Zom,ZoW];refine⟨Zoo (by omega),fun _=> ?_,fun _=> ?_⟩
     ·rw[Zok];exact .inl ⟨false,d,rfl,h4,fun h=>by cases h⟩
     ·
      have hg:=Zxr hi hi1;have hsr:Rg a b d (sw d i (i - 1) hi hi1):=ZzL hi hi1 (by omega) (by omega) (by omega) (by omega);have next:∀d',Rg a b D d'→Srt a i d'→wp (rec ((a:Int),(b:Int),(i:Int),(j:Int)+1,d')) (fun x=>(∃f d,x= .ret (f,d)∧Rg a b D d∧(f=true→Srt a b d))∨∃d,x= .brk d∧Rg a b D d):=fun d' q1 q2=>ih (i,j+1,d') ⟨g1,by dsimp only;omega,by dsimp only;omega,q1,q2⟩ (by dsimp only;omega)
      have j4:∀d',Rg a b D d'→Srt a i d'→wp (ZoH (fun a1 a2 a3 a4 a5=>rec (a1,a2,a3,a4,a5)) (a:Int) (b:Int) (i:Int) (j:Int) (decide ((b:Int) - (i:Int)≥2)) d') (fun x=>(∃f d,x= .ret (f,d)∧Rg a b D d∧(f=true→Srt a b d))∨∃d,x= .brk d∧Rg a b D d):=by
       intro d' q1 q2;haveI:=q1.gds;unfold ZoH ZpU
       by_cases hr:i+2≤b
       ·rw[decide_eq_true (show (b:Int) - (i:Int)≥2 by omega),cond_true,Zom,Zol,show (i:Int)+1=((i+1:Nat):Int) by omega];refine⟨Zoo (by omega),Zow (ZBt (D:=d') (by rw[q1.len];omega) g1 hr (by rw[q1.len];omega)) ?_⟩;rintro _ ⟨d2,rfl,w1⟩;dsimp only;rw[Zom];exact⟨Zoo (by omega),next d2 (q1.trans (w1.mono (by omega) (ZIZ _))) (q2.rg w1)⟩
       ·rw[decide_eq_false (show ¬(b:Int) - (i:Int)≥2 by omega),cond_false,Zom];exact⟨Zoo (by omega),next d' q1 q2⟩
      rw[show (i:Int) - 1=((i - 1:Nat):Int) by omega];simp only[Zom,ZIE];rw[ZIM hi1,ZIM hi];simp only[Zol,Zok,Zom];refine⟨Zoo (by omega),Zoo (by omega),ZoU hi1,ZoU hi,ZoU hi,ZpA ⟨by omega,by rw[ZIT];omega⟩,Zoo (by omega), ?_⟩;show wp (bif decide ((i:Int) - (a:Int)≥2)then _ else _) _
      by_cases h2a:a+2≤i
      ·rw[decide_eq_true (show (i:Int) - (a:Int)≥2 by omega),cond_true];simp only[Zom,Zol];refine⟨Zoo (by omega), ?_⟩;have hI:Ins a i (i - 1) (sw d i (i - 1) hi hi1):=by refine⟨fun p q x y q1 q2 q3 e1 e2 hx hy=> ?_,fun q x y q2 q3=>by omega⟩;rw[hg _ (by omega),if_neg e1,if_neg (by omega)]at hx;rw[hg _ (by omega),if_neg e2,if_neg (by omega)]at hy;exact g3 p q x y q1 q2 q3 hx hy
       refine Zow (ZBX (D:=sw d i (i - 1) hi hi1) (by rw[ZzM];omega) h2a hib (by rw[ZzM];omega) ((hlow.rg h4).rg hsr) hI) ?_;rintro _ ⟨d2,rfl,w1,w2⟩;dsimp only;unfold ZpV;rw[Zom];exact⟨Zoo (by omega),j4 d2 ((h4.trans hsr).trans w1) w2⟩
      ·rw[decide_eq_false (show ¬(i:Int) - (a:Int)≥2 by omega),cond_false,Zom];exact⟨Zoo (by omega),j4 _ (h4.trans hsr) fun p q x y q1 q2 q3=>by omega⟩
   ·rw[decide_eq_false (show ¬(j:Int) < 5 by omega),cond_false,Zok];exact .inr ⟨d,rfl,h4⟩
  ·rintro x (⟨f,d,rfl,r1,r2⟩ |⟨d,rfl,r1⟩)
   ·dsimp only;rw[Zok];exact⟨r1,r2⟩
   ·unfold ZpT;dsimp only;rw[Zok];exact⟨r1,fun h=>by cases h⟩
 unfold Zpa;rw[Zol];refine Zow Ze fun x hx=> ?_
 rw[Zom,Zok];exact⟨by rw[hx.1.len];simp,hx⟩
end Go.Proofs
namespace Go.Proofs
open Go Eng
theorem ZB9 (Pre:List En1) (b i0:Int) {A0 C0:List En1} {x:En1} (hlen:(Pre++(A0++x::C0)).length≤1000) (hA:∀e∈A0,Gdm e) (hx:Gdm x):
  wp (ZoK big (Pre.length:Int) b i0 ((Pre.length+A0.length:Nat):Int) (Pre++(A0++x::C0))) (fun y=>y=((Pre.length:Int),b,i0,Pre++(ZBr ltE x A0++C0))):=by
 refine Zrk ZvG (fun(s:List En1×List En1)=>((Pre.length:Int),b,i0,((Pre.length+s.1.length:Nat):Int),Pre++(s.1++x::s.2))) (fun s=>ZBr ltE x s.1++s.2=ZBr ltE x A0++C0∧(Pre++(s.1++x::s.2)).length≤1000∧∀e∈s.1,Gdm e) (fun s=>s.1.length)
  (Q:=fun y=>y=((Pre.length:Int),b,i0,Pre++(ZBr ltE x A0++C0))) (A0,C0) ⟨rfl,hlen,hA⟩ (by dsimp only;simp only[ZIQ]at hlen;omega) ?_
 rintro rec ⟨A,C⟩ ⟨hR,hl,hG⟩ ih;dsimp only at hR hl hG ih⊢
 unfold ZsH ZqB ZpH;dsimp only;rcases List.eq_nil_or_concat A with rfl |⟨A,p,rfl⟩
 ·rw[ZoW];refine⟨fun h=>by simp at h,fun _=> ?_⟩;rw[cond_false,Zok];rw[ZDc]at hR;rw[←hR];rfl
 ·rw[List.concat_eq_append]at*
  simp only[ZIQ,ZIR,ZIS]at hl;have e0:Pre++((A++[p])++x::C)=(Pre++A)++p::x::C:=by simp
  have hla:(Pre++A).length=Pre.length+A.length:=ZIQ;have ei:((Pre.length+(A++[p]).length:Nat):Int)=(((Pre++A).length+1:Nat):Int):=by rw[hla,ZIQ,List.length_singleton];omega
  have ej:((Pre.length+(A++[p]).length:Nat):Int) - 1=((Pre++A).length:Int):=by rw[ei];omega
  have g1:((Pre++A)++p::x::C)[(Pre++A).length+1]? =some x:=by rw[ZIJ (by omega),show (Pre++A).length+1 - (Pre++A).length=1 by omega];rfl
  have g0:((Pre++A)++p::x::C)[(Pre++A).length]? =some p:=by rw[ZIJ (by omega),Nat.sub_self];rfl
  rw[ZoW];refine⟨fun _=> ?_,fun h=>by simp only[decide_eq_false_iff_not]at h;rw[ei,hla]at h;omega⟩;rw[ej,ei,e0];simp only[ZIE,g1,g0,ZI0];have ll:((Pre++A)++p::x::C).length=(Pre++A).length+2+C.length:=by rw[ZIQ (bs:=p::x::C)];simp only[ZIR];omega
  have lx:inR (((Pre++A).length+1:Nat):Int) (((Pre++A)++p::x::C).length:Int)=true:=ZpA ⟨by omega,by omega⟩;have lp:inR ((Pre++A).length:Int) (((Pre++A)++p::x::C).length:Int)=true:=ZpA ⟨by omega,by omega⟩;have lp':inR ((Pre++A).length:Int) ((((Pre++A)++p::x::C).set ((Pre++A).length+1) p).length:Int)=true:=by rw[ZIT];exact lp
  have ki:inK .i64 ((Pre++A).length:Int)=true:=Zoo (by omega);rw[lx,lp,lp',ki];simp only[chk_true];haveI:Gdm p:=hG p (by simp);rw[Zv5,Zol,Zok];rw[ZCz]at hR;have hlt:ltE x p=decide (Zxe x p < 0):=rfl;rw[ZoW];refine⟨fun hc=> ?_,fun hc=> ?_⟩
  ·rw[hlt,if_pos hc]at hR;rw[ZCq];have:=ih (A,p::C) ⟨by rw[←hR];simp,by simp only[ZIQ,ZIR];omega,fun e he=>hG e (List.mem_append_left _ he)⟩ (by simp);dsimp only at this;rw[←hla,←ZIF]at this;exact this
  ·rw[hlt,if_neg (by rw[hc];simp)]at hR;rw[Zok,←hR];simp
theorem ZEh (Pre M Suf:List En1) (hl:(Pre++(M++Suf)).length≤1000) (hM:∀e∈M,Gdm e):
  Zo8 (Pre++(M++Suf)) (Pre.length:Int) ((Pre.length+M.length:Nat):Int)=some (Pre++(ZyX ltE M++Suf)):=by
 have hlen:Pre.length+M.length+Suf.length≤1000:=by simp only[ZIQ]at hl;omega
 have key:Zp3 (Pre++(M++Suf)) (Pre.length:Int) ((Pre.length+M.length:Nat):Int)=some (Pre++(ZyX ltE M++Suf)):=by
  refine ZuQ ?_;unfold Zp3 ZqX;rw[Zom,Zol];refine⟨Zoo (by omega), ?_⟩;have out:∀(k f:Nat),k+1≤M.length→M.length - (k+1) < f→wp (ZoX f (Pre.length:Int) ((Pre.length+M.length:Nat):Int) ((Pre.length+(k+1):Nat):Int) (Pre++((ZyX ltE (M.take (k+1))++M.drop (k+1))++Suf))) (fun y=>y=Pre++(ZyX ltE M++Suf)):=by
   intro k f
   induction f generalizing k with
   |zero=>intro _ h;omega
   |succ f ih=>
    intro hk hf;show wp (ZoO _ _ _ _ _) _;unfold ZoO ZqY;rw[ZoW];refine⟨fun hc=> ?_,fun hc=> ?_⟩
    ·simp only[decide_eq_true_eq]at hc;have hk2:k+1 < M.length:=by omega
     have hlen2:(ZyX ltE (M.take (k+1))).length=k+1:=by rw[ZAw,ZIU];omega
     have e:M.drop (k+1)=M[k+1]::M.drop (k+2):=List.drop_eq_getElem_cons hk2;rw[e];have:=ZB9 Pre ((Pre.length+M.length:Nat):Int) ((Pre.length+(k+1):Nat):Int) (A0:=ZyX ltE (M.take (k+1))) (C0:=M.drop (k+2)++Suf) (x:=M[k+1]) (by simp only[ZIQ,ZIR,hlen2,List.length_drop];omega) (fun e he=>hM e (ZIV ((Zz2 _).mem_iff.1 he))) (hM _ (ZIP hk2));rw[hlen2]at this;rw[Zol,ZIF,List.cons_append];refine Zow this ?_;rintro y rfl;dsimp only;rw[Zom];refine⟨Zoo (by omega), ?_⟩;have e2:ZBr ltE M[k+1] (ZyX ltE (M.take (k+1)))=ZyX ltE (M.take (k+2)):=by rw[List.take_succ_eq_append_getElem hk2,ZB8]
     rw[e2];have:=ih (k+1) (by omega) (by omega);rw[show ((Pre.length+(k+1):Nat):Int)+1=((Pre.length+(k+1+1):Nat):Int) by omega];rw[ZIF]at this;exact this
    ·simp only[decide_eq_false_iff_not]at hc;have:k+1=M.length:=by omega
     rw[Zok,this,ZIY,List.drop_of_length_le (ZIZ _),List.append_nil]
  by_cases h0:M.length=0
  ·have:M=[]:=List.eq_nil_of_length_eq_zero h0;subst this;obtain⟨n,hn⟩:=ZA5 1 (by omega);rw[hn];show wp (ZoO _ _ _ _ _) _;unfold ZoO;rw[ZIS,decide_eq_false (by omega),cond_false,Zok,Zok];rfl
  ·have:=out 0 big (by omega) (by rw[big_eq];omega);have e:ZyX ltE (M.take (0+1))++M.drop (0+1)=M:=by
    cases M with
    |nil=>simp at h0
    |cons x M=>rfl
   rw[e]at this;rw[show ((Pre.length:Int))+1=((Pre.length+(0+1):Nat):Int) by omega];refine Zow this ?_;rintro y rfl;rw[Zok]
 unfold Zo8;rw[key,ZI0];have:(Pre++(ZyX ltE M++Suf)).length=(Pre++(M++Suf)).length:=by simp only[ZIQ,ZAw]
 rw[this,decide_eq_true rfl];rfl
theorem ZCy (l:List En1):(ZyX ltE l).Pairwise Le:=
 ZBj (fun _=>True) Le (fun x p _ _ h=>by have:=of_decide_eq_true h;unfold Le;omega) (fun x p _ _ h=>ZvW (of_decide_eq_false h)) (fun a b c _ _ _ h1 h2=>h1.trans h2) l fun _ _=>trivial
theorem ZFP {D:List En1} [Gds D] (hn:D.length≤1000) {a b:Nat} (hab:a≤b) (hb:b≤D.length):
  wp (Zo8 D (a:Int) (b:Int)) (fun d=>Rg a b D d∧Srt a b d):=by
 have e:D=D.take a++((D.drop a).take (b - a)++(D.drop a).drop (b - a)):=by rw[ZIX,ZIX]
 have l1:(D.take a).length=a:=by rw[ZIU];omega
 have l2:((D.drop a).take (b - a)).length=b - a:=by rw[ZIU,List.length_drop];omega
 generalize D.take a=Pre at e l1;generalize (D.drop a).take (b - a)=M at e l2;generalize (D.drop a).drop (b - a)=Suf at e;subst e;have h:=ZEh Pre M Suf hn fun e he=>Gds.all (d:=Pre++(M++Suf)) e (List.mem_append_right _ (List.mem_append_left _ he))
 rw[l1,show ((a+M.length:Nat):Int)=(b:Int) by omega]at h;rw[h,Zok];have l3:(ZyX ltE M).length=M.length:=ZAw M;have hs:=ZCy M;refine⟨⟨((Zz2 M).append_right Suf).append_left Pre,fun k hk=> ?_⟩,fun i j x y q1 q2 q3 hx hy=> ?_⟩
 ·rcases hk with hk |hk
  ·rw[ZII (by omega),ZII (by omega)]
  ·rw[ZIJ (by omega),ZIJ (by omega),ZIJ (by omega),ZIJ (by omega),l3]
 ·rw[ZIJ (by omega),ZII (by omega)]at hx hy;obtain⟨hi,rfl⟩:=ZIN.1 hx;obtain⟨hj,rfl⟩:=ZIN.1 hy;exact ZIW.1 hs _ _ hi hj (by omega)
end Go.Proofs
namespace Go.Proofs
open Go Eng
theorem Low.sub {a b c:Nat} {d:List En1} (h:Low a b d) (hc:c≤b):Low a c d:=by
 rcases h with h |h
 ·exact .inl h
 ·exact .inr fun x hx k y h1 h2 hy=>h x hx k y h1 (by omega) hy
theorem ZFx:∀(n:Nat) {D:List En1} [Gds D] (_:D.length≤200) {a0 b0:Nat} (_:a0≤b0) (_:b0≤D.length) (_:b0 - a0 < n) (_:Low a0 b0 D) {lim:Int} (_:0≤lim) (_:lim≤1000),
  wp (Zon n D (a0:Int) (b0:Int) lim) (fun d=>Rg a0 b0 D d∧Srt a0 b0 d):=by
 intro n
 induction n with
 |zero=>intro D _ _ a0 b0 _ _ h;omega
 |succ n IH=>
  intro D _ hn a0 b0 hab hb hfu hlow lim hl0 hl1;show wp ((ZqT (Zon n) D (a0:Int) (b0:Int) lim).bind _) _;rw[Zol];refine Zow (Q:=fun d=>Rg a0 b0 D d∧Srt a0 b0 d) ?_ fun d hd=>by rw[Zom,Zok];exact⟨by rw[hd.1.len];simp,hd⟩
  unfold ZqT;rw[Zol];refine Zow (Zrk (ZwO (Zon n)) (fun s:Nat×Nat×Int×Bool×Bool×List En1=>((s.1:Int),(s.2.1:Int),s.2.2.1,s.2.2.2.1,s.2.2.2.2.1,s.2.2.2.2.2))
   (fun s=>a0≤s.1∧s.1≤s.2.1∧s.2.1≤b0∧(0≤s.2.2.1∧s.2.2.1≤1000)∧Rg a0 b0 D s.2.2.2.2.2∧Low s.1 s.2.1 s.2.2.2.2.2∧∀d',Rg s.1 s.2.1 s.2.2.2.2.2 d'→Srt s.1 s.2.1 d'→Srt a0 b0 d') (fun s=>s.2.1 - s.1)
   (Q:=fun x=>∃d,x= .ret d∧Rg a0 b0 D d∧Srt a0 b0 d) (a0,b0,lim,true,true,D) ⟨ZIZ _,hab,ZIZ _,⟨hl0,hl1⟩,.refl _ _ _,hlow,fun d' _ h=>h⟩ (by dsimp only;omega) ?_) ?_
  ·rintro rec ⟨a,b,lim,wb,wq,d⟩ ⟨h1,h2,h3,⟨h4,h5⟩,h6,h7,h8⟩ ih;dsimp only at h1 h2 h3 h4 h5 h6 h7 h8 ih;have hl:=h6.len;haveI:=h6.gds;have up:∀d',Rg a b d d'→Rg a0 b0 D d':=fun d' h=>h6.trans (h.mono h1 h3)
   unfold Zt0 ZrH;dsimp only;rw[Zom];refine⟨Zoo (by omega), ?_⟩
   by_cases h12:(b:Int) - (a:Int)≤12
   ·rw[decide_eq_true h12,cond_true,Zol];refine Zow (ZFP (D:=d) (by omega) h2 (by omega)) ?_;rintro d' ⟨r1,r2⟩;rw[Zok];exact⟨d',rfl,up d' r1,h8 d' r1 r2⟩
   rw[decide_eq_false h12,cond_false,ZoW];refine⟨fun _=> ?_,fun hlim=> ?_⟩
   ·rw[Zol];refine Zow (ZEj (D:=d) (by omega) (a:=a) (b:=b) (by omega) (by omega)) ?_;rintro d' ⟨r1,r2⟩;rw[Zok];exact⟨d',rfl,up d' r1,h8 d' r1 r2⟩
   have hlim':lim≠0:=by simpa using hlim
   have j5:∀(pv:Nat) (L:Int) (len:Int) (d1:List En1) (f:Bool),a≤pv→pv < b→0≤L→L≤1000→len=((b - a:Nat):Int)→Rg a b d d1→
     (f=true→∃hp:pv < d1.length,∃ha:a - 1 < d1.length,0 < a∧¬Zxe d1[a - 1] d1[pv] < 0)→
     wp (ZpC (Zon n) (fun a1 a2 a3 a4 a5 a6=>rec (a1,a2,a3,a4,a5,a6)) (a:Int) (b:Int) L wb wq len (pv:Int) f d1) (fun x=>∃d,x= .ret d∧Rg a0 b0 D d∧Srt a0 b0 d):=by
    intro pv L len d1 f p1 p2 L0 L1 hlen r1 hf;have hl1:=r1.len;haveI:=r1.gds;have hlow1:=h7.rg r1;unfold ZpC;cases f with
    |true=>
     obtain⟨hp,ha,ha0,hnl⟩:=hf rfl;rw[cond_true,Zol];refine Zow (ZC4 (D:=d1) (by omega) (by omega) p1 p2) ?_;rintro⟨m',d2⟩ ⟨⟨m,e,m1,m2,r2,p,q1,q2,q3⟩,q4⟩;dsimp only at e r2 q1 q2 q3 q4⊢
     subst e;have hpp:d1[pv]=p:=by rw[q1,ZIM hp]at q4;exact(ZI1 q4).symm
     have hl2:=r2.len;haveI:=r2.gds;have hlow2:=hlow1.rg r2;have ha2:d2[a - 1]? =some d1[a - 1]:=by rw[r2.2 (a - 1) (.inl (by omega)),ZIM ha]
     have hpa:Le p d1[a - 1]:=hpp▸ZvW hnl;have hall:∀k y,a≤k→k < b→d2[k]? =some y→Le d1[a - 1] y:=fun k y w1 w2 hy=>by
      rcases hlow2 with h |h
      ·omega
      ·exact h _ ha2 k y w1 w2 hy
     refine ih (m,b,L,wb,wq,d2) ⟨by dsimp only;omega,m2,h3,⟨L0,L1⟩,up d2 (r1.trans r2),.inr fun x hx k y w1 w2 hy=> ?_,fun d' s1 s2=> ?_⟩ (by dsimp only;omega)
     ·dsimp only at hx w1 hy;exact(ZvW (q2 (m - 1) x (by omega) (by omega) hx)).trans (.of_lt (q3 k y w1 w2 hy))
     ·dsimp only at s1 s2;refine h8 d' ((r1.trans r2).trans (s1.mono (by omega) (ZIZ _))) fun i j x y w1 w2 w3 hx hy=> ?_
      by_cases e1:i < m
      ·rw[s1.2 i (.inl e1)]at hx;have hxp:Le x p:=ZvW (q2 i x w1 e1 hx)
       by_cases e2:j < m
       ·rw[s1.2 j (.inl e2)]at hy;exact(hxp.trans hpa).trans (hall j y (by omega) (by omega) hy)
       ·obtain⟨k',u1,u2,u3⟩:=s1.mem (by omega) w3 hy;exact hxp.trans (.of_lt (q3 k' y u1 u2 u3))
      ·exact s2 i j x y (by omega) w2 w3 hx hy
    |false=>
     rw[cond_false,Zol];refine Zow (ZBe (D:=d1) (by omega) (by omega) p1 p2) ?_;rintro⟨m',ap,d2⟩ ⟨m,e,m1,m2,r2,p,q1,q2,q3⟩;dsimp only at e r2 q1 q2 q3⊢
     subst e;have hl2:=r2.len;haveI:=r2.gds;have hlow2:=hlow1.rg r2;rw[hlen,Zom,Zom,Zom,Zom,show Int.tdiv ((b - a:Nat):Int) 8=(((b - a) / 8:Nat):Int)from rfl,ZoW];refine⟨Zoo (by omega),Zoo (by omega),rfl,Zoo (by omega),fun _=> ?_,fun _=> ?_⟩
     ·rw[Zol];refine Zow (IH (D:=d2) (by omega) (a0:=a) (b0:=m) m1 (by omega) (by omega) (hlow2.sub (by omega)) L0 L1) ?_;rintro d3 ⟨r3,r4⟩;have hl3:=r3.len;haveI:=r3.gds;rw[Zom,show (m:Int)+1=((m+1:Nat):Int) by omega];have hpm:d3[m]? =some p:=by rw[r3.2 m (.inr (ZIZ _))];exact q1
      have hhi:∀k y,m < k→k < b→d3[k]? =some y→Le p y:=fun k y w1 w2 hy=>by rw[r3.2 k (.inr (by omega))]at hy;exact ZvW (q3 k y w1 w2 hy)
      have hlo:∀k y,a≤k→k < m→d3[k]? =some y→Le y p:=fun k y w1 w2 hy=>by obtain⟨k',u1,u2,u3⟩:=r3.mem w1 w2 hy;exact .of_lt (q2 k' y u1 u2 u3)
      refine⟨Zoo (by omega),ih (m+1,b,L,_,ap,d3) ⟨by dsimp only;omega,by dsimp only;omega,h3,⟨L0,L1⟩,up d3 ((r1.trans r2).trans (r3.mono (ZIZ _) (by omega))),.inr fun x hx k y w1 w2 hy=> ?_,fun d' s1 s2=> ?_⟩ (by dsimp only;omega)⟩
      ·dsimp only at hx w1 hy;rw[show m+1 - 1=m by omega,hpm]at hx;rw[←ZI1 hx];exact hhi k y (by omega) w2 hy
      ·dsimp only at s1 s2;refine h8 d' (((r1.trans r2).trans (r3.mono (ZIZ _) (by omega))).trans (s1.mono (by omega) (ZIZ _))) fun i j x y w1 w2 w3 hx hy=> ?_
       by_cases e1:i < m
       ·rw[s1.2 i (.inl (by omega))]at hx
        by_cases e2:j < m
        ·rw[s1.2 j (.inl (by omega))]at hy;exact r4 i j x y w1 w2 e2 hx hy
        ·have hxp:=hlo i x w1 e1 hx
         by_cases e3:j=m
         ·subst e3;rw[s1.2 j (.inl (by omega)),hpm]at hy;rw[←ZI1 hy];exact hxp
         ·obtain⟨k',u1,u2,u3⟩:=s1.mem (by omega) w3 hy;exact hxp.trans (hhi k' y (by omega) u2 u3)
       ·by_cases e3:i=m
        ·subst e3;rw[s1.2 i (.inl (by omega)),hpm]at hx;rw[←ZI1 hx];obtain⟨k',u1,u2,u3⟩:=s1.mem (by omega) w3 hy;exact hhi k' y (by omega) u2 u3
        ·exact s2 i j x y (by omega) w2 w3 hx hy
     ·rw[Zom,Zol,show (m:Int)+1=((m+1:Nat):Int) by omega];have hlowr:Low (m+1) b d2:= .inr fun x hx k y w1 w2 hy=>by rw[show m+1 - 1=m by omega,q1]at hx;rw[←ZI1 hx];exact ZvW (q3 k y (by omega) w2 hy)
      refine⟨Zoo (by omega),Zow (IH (D:=d2) (by omega) (a0:=m+1) (b0:=b) (by omega) (by omega) (by omega) hlowr L0 L1) ?_⟩;rintro d3 ⟨r3,r4⟩;have hl3:=r3.len;haveI:=r3.gds;have hpm:d3[m]? =some p:=by rw[r3.2 m (.inl (by omega))];exact q1
      have hhi:∀k y,m < k→k < b→d3[k]? =some y→Le p y:=fun k y w1 w2 hy=>by obtain⟨k',u1,u2,u3⟩:=r3.mem (by omega) w2 hy;exact ZvW (q3 k' y (by omega) u2 u3)
      have hlo:∀k y,a≤k→k < m→d3[k]? =some y→Le y p:=fun k y w1 w2 hy=>by rw[r3.2 k (.inl (by omega))]at hy;exact .of_lt (q2 k y w1 w2 hy)
      have r23:Rg a b d2 d3:=r3.mono (by omega) (ZIZ _);refine ih (a,m,L,_,ap,d3) ⟨h1,m1,by dsimp only;omega,⟨L0,L1⟩,up d3 ((r1.trans r2).trans r23),(hlow2.rg r23).sub (show m≤b by omega),fun d' s1 s2=> ?_⟩ (by dsimp only;omega);dsimp only at s1 s2;refine h8 d' (((r1.trans r2).trans r23).trans (s1.mono (ZIZ _) (by omega))) fun i j x y w1 w2 w3 hx hy=> ?_
      by_cases e2:j < m
      ·exact s2 i j x y w1 w2 e2 hx hy
      ·rw[s1.2 j (.inr (by omega))]at hy
       by_cases e1:i < m
       ·obtain⟨k',u1,u2,u3⟩:=s1.mem w1 e1 hx;have hxp:=hlo k' x u1 u2 u3
        by_cases e3:j=m
        ·subst e3;rw[hpm]at hy;rw[←ZI1 hy];exact hxp
        ·exact hxp.trans (hhi j y (by omega) w3 hy)
       ·rw[s1.2 i (.inr (by omega))]at hx
        by_cases e3:i=m
        ·subst e3;rw[hpm]at hx;rw[←ZI1 hx];exact hhi j y (by omega) w3 hy
        ·exact r4 i j x y (by omega) w2 w3 hx hy
   have j4:∀(pv:Nat) (L:Int) (len:Int) (d1:List En1),a≤pv→pv < b→0≤L→L≤1000→len=((b - a:Nat):Int)→Rg a b d d1→
     wp (ZpD (Zon n) (fun a1 a2 a3 a4 a5 a6=>rec (a1,a2,a3,a4,a5,a6)) (a:Int) (b:Int) L wb wq len (pv:Int) d1) (fun x=>∃d,x= .ret d∧Rg a0 b0 D d∧Srt a0 b0 d):=by
    intro pv L len d1 p1 p2 L0 L1 hlen r1;have hl1:=r1.len;haveI:=r1.gds;have hp:pv < d1.length:=by omega
    unfold ZpD
    by_cases ha:0 < a
    ·have ha1:a - 1 < d1.length:=by omega
     rw[decide_eq_true (show (a:Int) > 0 by omega),cond_true,show (a:Int) - 1=((a - 1:Nat):Int) by omega,Zom,Zom,ZIE,ZIE,ZIM ha1,Zol,Zok,Zom,ZIM hp,Zol,Zok,Zv5,Zol,Zok];refine⟨Zoo (by omega),ZoU ha1,ZoU hp,j5 pv L len d1 _ p1 p2 L0 L1 hlen r1 fun hf=>⟨hp,ha1,ha, ?_⟩⟩;simpa using hf
    ·rw[decide_eq_false (show ¬(a:Int) > 0 by omega),cond_false];exact j5 pv L len d1 false p1 p2 L0 L1 hlen r1 fun h=>by cases h
   have j2:∀(pv:Nat) (h L:Int) (len:Int) (d1:List En1),a≤pv→pv < b→0≤L→L≤1000→len=((b - a:Nat):Int)→Rg a b d d1→
     wp (ZpE (Zon n) (fun a1 a2 a3 a4 a5 a6=>rec (a1,a2,a3,a4,a5,a6)) (a:Int) (b:Int) L wb wq len (pv:Int) h d1) (fun x=>∃d,x= .ret d∧Rg a0 b0 D d∧Srt a0 b0 d):=by
    intro pv h L len d1 p1 p2 L0 L1 hlen r1;have hl1:=r1.len;haveI:=r1.gds;have j3:∀f:Bool,wp (Zo6 (Zon n) (fun a1 a2 a3 a4 a5 a6=>rec (a1,a2,a3,a4,a5,a6)) (a:Int) (b:Int) L wb wq len (pv:Int) f d1) (fun x=>∃d,x= .ret d∧Rg a0 b0 D d∧Srt a0 b0 d):=by
     intro f;unfold Zo6;cases f with
     |false=>rw[cond_false];exact j4 pv L len d1 p1 p2 L0 L1 hlen r1
     |true=>
      rw[cond_true,Zol];refine Zow (ZBx (D:=d1) (by omega) (by omega) (by omega) (h7.rg r1)) ?_;rintro⟨q,d2⟩ ⟨w1,w2⟩;dsimp only at w1 w2⊢
      cases q with
      |true=>
       rw[cond_true,Zok];exact⟨d2,rfl,up d2 (r1.trans w1),h8 d2 (r1.trans w1) (w2 rfl)⟩
      |false=>rw[cond_false];exact j4 pv L len d2 p1 p2 L0 L1 hlen (r1.trans w1)
    unfold ZpE;rw[ZoW];refine⟨fun _=> ?_,fun _=>j3 _⟩;rw[ZoW];exact⟨fun _=>j3 _,fun _=>j3 _⟩
   have j1:∀(L:Int) (d1:List En1),0≤L→L≤1000→Rg a b d d1→
     wp (ZpF (Zon n) (fun a1 a2 a3 a4 a5 a6=>rec (a1,a2,a3,a4,a5,a6)) (a:Int) (b:Int) L wb wq ((b:Int) - (a:Int)) d1) (fun x=>∃d,x= .ret d∧Rg a0 b0 D d∧Srt a0 b0 d):=by
    intro L d1 L0 L1 r1;have hl1:=r1.len;haveI:=r1.gds;unfold ZpF;rw[Zol];refine Zow (ZC3 (d:=d1) (by omega) (a:=a) (b:=b) (by omega) (by omega)) ?_;rintro _ ⟨pv,h,rfl,p1,p2⟩;dsimp only;rw[ZoW];refine⟨fun _=> ?_,fun _=>j2 pv h L _ d1 p1 p2 L0 L1 (by omega) r1⟩;rw[Zol];refine Zow (ZBY (D:=d1) (by omega) h2 (by omega)) ?_;intro d2 r2;rw[Zom,Zom,Zom,show (b:Int) - 1 - ((pv:Int) - (a:Int))=((b - 1 - (pv - a):Nat):Int) by omega];exact⟨Zoo (by omega),Zoo (by omega),Zoo (by omega),j2 _ 1 L _ d2 (by omega) (by omega) L0 L1 (by omega) (r1.trans r2)⟩
   rw[ZoW];refine⟨fun _=> ?_,fun _=>j1 lim d h4 h5 (.refl _ _ _)⟩;rw[Zol];refine Zow (ZDn (D:=d) (by omega) (a:=a) (b:=b) (by omega) (by omega)) ?_;intro d1 r1;rw[Zom];exact⟨Zoo (by omega),j1 (lim - 1) d1 (by omega) (by omega) r1⟩
  ·rintro _ ⟨d,rfl,r1,r2⟩;dsimp only;rw[Zok];exact⟨r1,r2⟩
end Go.Proofs
namespace Go.Proofs
open Go Eng
theorem lens:((List.range 201).all fun n:Nat=>match Zvp (IntKind.wrap .u64 (n:Int))with |some m=>decide (0≤m∧m≤1000) |none=>false)=true:=by kernel_rfl
theorem ZCY {D:List En1} [Gds D] (hl:D.length≤200):wp (Zqx D) (fun r=>r.Perm D∧r.Pairwise Le):=by have h2:=List.all_eq_true.1 lens D.length (List.mem_range.2 (by omega));split at h2;rotate_left;simp at h2;rename_i m hm;obtain⟨h3,h4⟩:=of_decide_eq_true h2;have key:=ZFx big (D:=D) hl (a0:=0) (b0:=D.length) (Nat.zero_le _) (ZIZ _) (by rw[big_eq];omega) (.inl rfl) h3 h4;unfold Zqx Zsu;rw[hm,ZI0,Zol,Zol];refine Zow key ?_;rintro r ⟨hr,hs⟩;rw[Zok,Zom,Zok];refine⟨by rw[hr.len];simp,hr.1,ZIW.2 fun i j hi hj hij=> ?_⟩;have:=hr.len;exact hs i j _ _ (Nat.zero_le _) hij (by omega) (ZIM hi) (ZIM hj)
end Go.Proofs
namespace Go.Proofs
open Go Eng
def qs (s:Int):Int:=1+Int.tmod s 6
theorem ZB0 {s:Int} (h:0≤s):1≤qs s∧qs s≤6:=by have:=ZyQ s h (m:=6) (by decide);unfold qs;omega
theorem six {n:Int} (h:1≤n∧n≤6):n=1∨n=2∨n=3∨n=4∨n=5∨n=6:=by omega
theorem sz6 {n:Int} (h:1≤n∧n≤6):Sz 3 (n:Rat):=by rcases six h with rfl |rfl |rfl |rfl |rfl |rfl<;>(unfold Sz;decide)
theorem ZDx {m:Nat} (h:0 < m) (h2:m < Bw):wd m=[m]:=by rw[Zzy (by omega),Nat.mod_eq_of_lt h2,Nat.div_eq_of_lt h2,ZvC]
theorem ZEo {m:Nat} (h:0 < m) (h2:m < Bw):fOf (((m:Nat):Int):Rat)=⟨⟨false,[(m:Int)]⟩,⟨false,[1]⟩⟩:=by show Zor.mk (Zoq.mk (decide (((m:Nat):Int) < 0)) (iL (wd ((m:Nat):Int).natAbs))) (Zoq.mk (decide ((1:Int) < 0)) (iL (wd 1)))=_;rw[Int.natAbs_natCast,ZDx h h2,ZDx (by decide) (by decide),decide_eq_false (by omega)];rfl
theorem ZBA {n:Int} (h:1≤n∧n≤6):Zpc n=some (fOf (n:Rat)):=by
 have e:Zpc n=ZvX n:=ZzJ _;rw[e];have f:∀m:Nat,0 < m→m < 7→fOf (((m:Nat):Int):Rat)=⟨⟨false,[(m:Int)]⟩,⟨false,[1]⟩⟩:=fun m h1 h2=>ZEo h1 (Nat.lt_of_lt_of_le h2 (by decide))
 rcases six h with rfl |rfl |rfl |rfl |rfl |rfl
 ·rw[show (1:Int)=((1:Nat):Int)from rfl,f 1 (by decide) (by decide)];show _=_;kernel_rfl
 ·rw[show (2:Int)=((2:Nat):Int)from rfl,f 2 (by decide) (by decide)];show _=_;kernel_rfl
 ·rw[show (3:Int)=((3:Nat):Int)from rfl,f 3 (by decide) (by decide)];show _=_;kernel_rfl
 ·rw[show (4:Int)=((4:Nat):Int)from rfl,f 4 (by decide) (by decide)];show _=_;kernel_rfl
 ·rw[show (5:Int)=((5:Nat):Int)from rfl,f 5 (by decide) (by decide)];show _=_;kernel_rfl
 ·rw[show (6:Int)=((6:Nat):Int)from rfl,f 6 (by decide) (by decide)];show _=_;kernel_rfl
def Zz4 (i s:Int):ZoL:=⟨⟨i,0⟩,fOf ((qs s:Int):Rat)⟩
def ZzC (sc:List Int) (n:Nat):List ZoL:=(List.range n).map fun(i:Nat)=>Zz4 (i:Int) (sc.getD i 0)
theorem ZBC (sc:List Int) (n:Nat):ZzC sc (n+1)=ZzC sc n++[Zz4 (n:Int) (sc.getD n 0)]:=by unfold ZzC;rw[List.range_succ,List.map_append];rfl
theorem Zz3 (sc:List Int) (n:Nat):(ZzC sc n).length=n:=by simp[ZzC]
theorem ZCB {sc:List Int} (h:∀s∈sc,0≤s) (i:Nat):0≤sc.getD i 0:=by
 rw[ZIH];cases hc:sc[i]? with
 |none=>exact Int.le_refl 0
 |some x=>exact h x (List.mem_of_getElem? hc)
theorem ZEm {i s:Int} (h:0≤s):Gdm (Zz4 i s):=⟨_,rfl,(sz6 (ZB0 h)).mono (by decide)⟩
theorem ZDd {sc:List Int} (h:∀s∈sc,0≤s) (n:Nat):Gds (ZzC sc n):=⟨fun e he=>by obtain⟨i,_,rfl⟩:=List.mem_map.1 he;exact ZEm (ZCB h i)⟩
def emp (l:List ZoL):Zos:=⟨l,[],[],[],[]⟩
theorem ZEb {l:List Zos} {x:Zos} (h:x∈l):x.Hits.length≤(l.flatMap (·.Hits)).length:=by
 induction l with
 |nil=>simp at h
 |cons a l ih=>
  rw[ZIG,ZIQ];rcases List.mem_cons.1 h with rfl |h
  ·omega
  ·have:=ih h;omega
theorem ZBS {x:Zos} {h0:ZoL}:∀(l:List Zos) (p:Nat) (h:p < l.length),x.Hits=l[p].Hits++[h0]→((l.set p x).flatMap (·.Hits)).Perm (l.flatMap (·.Hits)++[h0])
 | [],p,h,_=>by simp at h
 |a::l,0,h,hx=>by rw[List.set_cons_zero,ZIG,ZIG,hx,ZIF,ZIF];exact List.Perm.append_left _ List.perm_append_comm
 |a::l,p+1,h,hx=>by rw[List.set_cons_succ,ZIG,ZIG,ZIF];exact List.Perm.append_left _ (ZBS l p (by simpa using h) (by simpa using hx))
theorem ZDy:ZqE []=some []:=Zx6 (some [])
theorem ZDG:ZqF []=some []:=Zx6 (some [])
theorem ZFE:Zsd []=some []:=Zx6 (some [])
theorem ZIg:Zqk []=some []:=Zx6 (some [])
theorem ZIb:ZsW []=some []:=by unfold ZsW;rw[ZFE];kernel_rfl
theorem ZIe:Zq9 []=some []:=by unfold Zq9;rw[ZIg];kernel_rfl
theorem ZIa:Zup []=some []:=by unfold Zup;rw[ZDy];kernel_rfl
theorem ZId:Zuq []=some []:=by unfold Zuq;rw[ZDG];kernel_rfl
theorem ZFR {k:Int} (h:0≤k):ZrR [] k=some (0,0,[]):=by
 have e:Zq8 []=some []:=by kernel_rfl
 unfold ZrR ZvI;rw[e];have:(if ((([]:List Zqz).length:Nat):Int) < k then ((([]:List Zqz).length:Nat):Int)else k)=0:=by
  split
  ·rfl
  ·rename_i h2;simp only[ZIS]at h2;omega
 simp only[ZI0];rw[this];rfl
theorem ZFT {k:Int} (h:0≤k):Zql [] k=some (0,0,[]):=by
 have e:ZpN []=some []:=by kernel_rfl
 unfold Zql ZtU;rw[e];have:(if ((([]:List ZoI).length:Nat):Int) < k then ((([]:List ZoI).length:Nat):Int)else k)=0:=by
  split
  ·rfl
  ·rename_i h2;simp only[ZIS]at h2;omega
 simp only[ZI0];rw[this];rfl
theorem ZFy {q:Rat} (h:Sz 400 q):ZyF (fOf q)=some (fOf q):=by
 have hw:=h.wq (by decide);unfold ZyF;have h1:(fOf q).Num.Words.length≤256:=by show (iL (wd q.num.natAbs)).length≤256;rw[ZoM];exact hw.1
 have h2:(fOf q).Den.Words.length≤256:=by show (iL (wd (q.den:Int).natAbs)).length≤256;rw[ZoM];exact hw.2
 rw[Zxb (by omega),chk_true,Zxb (by omega),chk_true]
theorem ZGd (l:List ZoL) (h:l.length≤200):Zrz l=some l:=by
 have e1:Zpf l false=some l:=by unfold Zpf;rw[cond_false,Zxb (by rw[ZIS];omega),chk_true];rfl
 unfold Zrz;cases l with
 |nil=>exact Zx6 (some [])
 |cons a l=>exact e1
theorem ZIc (l:List ZoL) [Gds l] (h:l.length≤200):Zvh l=some l:=by
 refine ZuQ ?_;unfold Zvh;rw[ZGd l h,ZI0,Zol];refine Zz6 Zym l (by omega) (fun i (o:List ZoL)=>((l.length:Int),i,o)) (fun _ o=>o=l) l rfl ?_ ?_
 ·rintro rec i o hi rfl ih;unfold Zu4 Zte ZxQ;dsimp only;obtain⟨q,eq,hq⟩:=(inferInstance:Gdm (o[i]'hi)).ok;rw[decide_eq_true (show (i:Int) < (o.length:Int) by omega),cond_true,ZpA ⟨by omega,by omega⟩,chk_true,ZIE,ZIM hi,ZI0,eq,ZFy hq,ZI0,ZI0,chk_true,←eq,Zom];refine⟨Zoo (by omega),ih _ ?_⟩;show o.set i o[i]=o;exact List.set_getElem_self hi
 ·rintro rec o rfl;unfold Zu4 Zte;dsimp only;rw[decide_eq_false (show ¬(o.length:Int) < (o.length:Int) by omega),cond_false,Zok];exact ZHP rfl rfl
theorem ZFS {D:List ZoL} [Gds D] (hl:D.length≤200) {k:Int} (h:0≤k):wp (ZtT D k) (fun r=>∃t:List ZoL,t.Perm D∧t.Pairwise Le∧r=(0,min k.toNat t.length,t)):=by
 unfold ZtT Zwj;rw[Zol,Zol];refine Zow (ZCY hl) ?_;rintro t ⟨h1,h2⟩;have hl2:=h1.length_eq;have e:(if ((t.length:Nat):Int) < k then ((t.length:Nat):Int)else k)=((min k.toNat t.length:Nat):Int):=by split<;>omega
 rw[e,Zom,Zok,Zom,Zok];exact⟨ZyC (by omega),by simp[hl2],t,h1,h2,by rw[ZIE];rfl⟩
theorem ZC5 {parts:List Zos} (he:∀x∈parts,x=emp x.Hits) (hl:(parts.flatMap (·.Hits)).length≤100) (hp:parts.length≤100) [hg:Gds (parts.flatMap (·.Hits))] {n:Int} (h0:0≤n) (h1:n≤1024):
  wp (Zxz (Zpl.mk 0 0 0 n (Zr3.mk 0 ([]:Str) ([]:(List ZqJ)))) parts) (fun r=>r.2=0∧∃t:List ZoL,t.Perm (parts.flatMap (·.Hits))∧t.Pairwise Le∧r.1=emp (t.take n.toNat)):=by
 unfold Zxz ZwB;rw[decide_eq_false (show ¬n < 0 by omega),cond_false,decide_eq_false (show ¬n > 1024 by omega),cond_false,Zol];let q:Zpl:=Zpl.mk 0 0 0 n (Zr3.mk 0 ([]:Str) ([]:(List ZqJ)));refine Zz6 Zzw parts (by omega) (fun i (o:List ZoL)=>(parts,(parts.length:Int),i,q,[],[],[],[],[],o,[],[],[],[])) (fun i o=>o=(parts.take i).flatMap (·.Hits)) [] (by simp) ?_ ?_
 ·rintro rec i o hi rfl ih;have hx:=he _ (ZIP hi);have ht:(parts.take (i+1)).flatMap (·.Hits)=(parts.take i).flatMap (·.Hits)++parts[i].Hits:=by rw[List.take_add_one,ZIM hi,List.flatMap_append];simp
  have hle:((parts.take (i+1)).flatMap (·.Hits)).length≤100:=by have:=congrArg (fun l=>(l.flatMap (·.Hits)).length) (ZIX (i+1) parts);simp only[List.flatMap_append,ZIQ]at this;omega
  rw[ht]at hle;rw[ZIQ]at hle;unfold Zw9 ZvE ZwA Zwz;dsimp only;rw[decide_eq_true (show (i:Int) < (parts.length:Int) by omega),cond_true,ZyY hi,ZI0,Zxb (by omega),chk_true];have e1:parts[i].Matches=[]:=by rw[hx];rfl
  have e2:parts[i].Correlated=[]:=by rw[hx];rfl
  have e3:parts[i].Routes=[]:=by rw[hx];rfl
  have e4:parts[i].Found=[]:=by rw[hx];rfl
  rw[e1,e2,e3,e4,ZDy,ZDG];show wp (chk (inK .i64 ((i:Int)+1)) _) _;rw[Zom];exact⟨Zoo (by omega),ih _ ht.symm⟩
 ·rintro rec o rfl;unfold Zw9 ZvE;dsimp only;rw[decide_eq_false (show ¬(parts.length:Int) < (parts.length:Int) by omega),cond_false,Zok,ZIY];unfold Zxv;dsimp only;rw[Zol];refine Zow (ZFS (by omega) h0) ?_;rintro r ⟨t,hp1,hs,rfl⟩;have hlt:=hp1.length_eq;have hgt:Gds t:=hg.perm hp1;have hgk:Gds (t.take (min n.toNat t.length)):=⟨fun e he=>hgt.all e (ZIV he)⟩;have hkl:(t.take (min n.toNat t.length)).length≤200:=by rw[ZIU];omega
  show wp ((ZrR [] n).bind _) _;rw[ZFR h0,ZI0];dsimp only;show wp ((Zql [] n).bind _) _;rw[ZFT h0,ZI0];dsimp only;unfold Zyu;dsimp only;rw[List.drop_zero,ZIc _ hkl,ZI0];show wp (((ZsW []).bind _).bind _) _;rw[ZIb,ZI0];show wp (((Zq9 []).bind _).bind _) _;rw[ZIe,ZI0,ZIa,ZI0,ZId,ZI0,ZI0,Zok];refine⟨rfl,t,hp1,hs, ?_⟩;show emp (t.take (min n.toNat t.length))=emp (t.take n.toNat);congr 1;rcases Nat.le_total n.toNat t.length with h |h
  ·rw[Nat.min_eq_left h]
  ·rw[Nat.min_eq_right h,ZIY,List.take_of_length_le h]
end Go.Proofs
namespace Go.Proofs
open Go Eng
theorem ZEu:Zro=some true:=(ZzJ Zvn).trans (by kernel_rfl)
structure ZHM (m:Nat) (sc:List Int) (i:Nat) (s:List Zos×Nat):Prop where
 len:s.1.length=m
 lo:s.2=m
 emp:∀x∈s.1,x=emp x.Hits
 perm:(s.1.flatMap (·.Hits)).Perm (ZzC sc i)
theorem ZAZ {s:Int} (h:0≤s):(1:Int)+IntKind.wrap .i64 (Int.tmod s 6)=qs s:=by have:=ZyQ s h (m:=6) (by decide);rw[wrap_i64 (by omega)];rfl
theorem ZFO {X:Type} {R:List Int→List Int→Int→List Int→Int→Int→List Zos→Nat→Option ((List Int)×Int×(List Zos)×Nat)} {scores cuts:List Int} {k:Int} {t32:List Int} {t33:Int} {i:Nat} {s p:Int} {parts:List Zos} {lo m:Nat} {Q:(List Int)×Int×(List Zos)×Nat→Prop}
  (hi:i < scores.length) (h60:scores.length≤60) (hs:s=scores[i]) (hs0:0≤s) (hp0:0≤p) (hp:p < (parts.length:Int)) (inv:ZHM m scores i (parts,lo))
  (ih:∀o:List Zos×Nat,ZHM m scores (i+1) o→wp (R scores cuts k t32 t33 ((i:Int)+1) o.1 o.2) Q):
  wp (Zqd R scores cuts k (i:Int) s p t32 t33 (i:Int) parts lo) Q:=by
 obtain⟨h1,h2,h3,h4⟩:=inv;dsimp only at h1 h2 h3 h4;have hpn:p.toNat < parts.length:=by omega
 have hq:=ZB0 hs0;have hx:=h3 _ (ZIP hpn);have hle:=ZEb (ZIP hpn);rw[h4.length_eq,Zz3]at hle;have e1:(parts[p.toNat]).Matches=[]:=by rw[hx];rfl
 have e2:(parts[p.toNat]).Correlated=[]:=by rw[hx];rfl
 have e3:(parts[p.toNat]).Routes=[]:=by rw[hx];rfl
 have e4:(parts[p.toNat]).Found=[]:=by rw[hx];rfl
 unfold Zqd;rw[ZpA ⟨hp0,hp⟩,chk_true,ZIM hpn,ZI0,decide_eq_true (show p.toNat < lo by omega),chk_true,decide_eq_true (by decide),chk_true,ZAZ hs0,Zoo (by omega),chk_true,ZBA hq,ZI0,
  Zxb (by rw[List.length_singleton];omega),chk_true,chk_true,decide_eq_true (show p.toNat=p.toNat∧p.toNat < lo by omega),chk_true,ZI0,Zom,e1,e2,e3,e4]
 refine⟨Zoo (by omega),ih (parts.set p.toNat (emp (parts[p.toNat].Hits++[Zz4 (i:Int) s])),lo) ⟨by simpa using h1,h2,fun x hx=> ?_, ?_⟩⟩
 ·rcases List.mem_or_eq_of_mem_set hx with hx |rfl
  ·exact h3 x hx
  ·rfl
 ·refine(ZBS parts p.toNat hpn rfl).trans ?_;rw[ZBC];have:scores.getD i 0=s:=by rw[ZIH,ZIM hi,hs];rfl
  rw[this];exact h4.append_right _
theorem ZCk {scores cuts:List Int} (hs:∀s∈scores,0≤s∧s≤255) (hc:∀s∈cuts,0≤s∧s≤255) (h1:scores.length≤60) (h2:cuts.length≤8) (k:Int):
  wp (Zpq big scores cuts k scores (scores.length:Int) 0 (List.replicate (cuts.length+1) (emp [])) (cuts.length+1)) (fun r=>r.1=scores∧r.2.1=k∧ZHM (cuts.length+1) scores scores.length (r.2.2.1,r.2.2.2)):=by
 refine Zz6 Zxh scores (by omega) (fun i (o:List Zos×Nat)=>(scores,cuts,k,scores,(scores.length:Int),i,o.1,o.2)) (ZHM (cuts.length+1) scores) (List.replicate (cuts.length+1) (emp []),cuts.length+1) ?_ ?_ ?_
 ·refine⟨by simp,rfl,fun x hx=> ?_, ?_⟩
  ·rw[(List.mem_replicate.1 hx).2];rfl
  ·have:(List.replicate (cuts.length+1) (emp [])).flatMap (·.Hits)=[]:=by rw[List.flatMap_eq_nil_iff];intro x hx;rw[(List.mem_replicate.1 hx).2];rfl
   rw[this];exact .refl _
 ·rintro rec i ⟨parts,lo⟩ hi inv ih;have hsi:=hs _ (ZIP hi);have hl:=inv.len;dsimp only at hl;unfold Zsn ZqS;dsimp only;rw[decide_eq_true (show (i:Int) < (scores.length:Int) by omega),cond_true,ZyY hi,ZI0]
  by_cases hz:0 < cuts.length
  ·have hb:=ZyQ (i:Int) (by omega) (m:=(cuts.length:Int)) (by omega);have hn:(Int.tmod (i:Int) (cuts.length:Int)).toNat < cuts.length:=by omega
   have hcn:=hc _ (ZIP hn);have e:idx cuts (Int.tmod (i:Int) (cuts.length:Int))=some cuts[(Int.tmod (i:Int) (cuts.length:Int)).toNat]:=by
    have:=ZyY hn
    rwa [Int.toNat_of_nonneg hb.1]at this
   rw[decide_eq_true (show (cuts.length:Int) > 0 by omega),cond_true,decide_eq_true (show (cuts.length:Int)≠0 by omega),chk_true,e,ZI0,wrap_i64 (by omega),Zoo (by omega),chk_true,decide_eq_true (show (parts.length:Int)≠0 by omega),chk_true];have hb2:=ZyQ ((i:Int)+cuts[(Int.tmod (i:Int) (cuts.length:Int)).toNat]) (by omega) (m:=(parts.length:Int)) (by omega);exact ZFO (X:=Unit) hi h1 rfl hsi.1 hb2.1 hb2.2 inv fun o ho=>ih o ho
  ·rw[decide_eq_false (show ¬(cuts.length:Int) > 0 by omega),cond_false];exact ZFO (X:=Unit) hi h1 rfl hsi.1 (Int.le_refl 0) (by omega) inv fun o ho=>ih o ho
 ·rintro rec ⟨parts,lo⟩ inv;unfold Zsn ZqS;dsimp only;rw[decide_eq_false (show ¬(scores.length:Int) < (scores.length:Int) by omega),cond_false,Zok];exact⟨rfl,rfl,inv⟩
theorem Zij (x z:Int):∀m:List (Int×Bool),((m.map fun e=>if x == e.1 then (e.1,true)else e).find? fun e=>z == e.1).map (·.2)=if z=x then ((m.find? fun e=>z == e.1).map (·.2)).map (fun _=>true)else (m.find? fun e=>z == e.1).map (·.2)
 | []=>by simp
 |e::m=>by
  have ih:=Zij x z m;rw[List.map_cons]
  by_cases hz:z=e.1
  ·subst hz
   by_cases hx:x=e.1
   ·subst hx;simp
   ·have h1:(x == e.1)=false:=by simpa using hx
    simp[h1,Ne.symm hx]
  ·have h1:(z == e.1)=false:=by simpa using hz
   have h2:(z == (if (x == e.1)=true then (e.1,true)else e).1)=false:=by split<;>exact h1
   rw[List.find?_cons,h2,List.find?_cons,h1];exact ih
abbrev ZB6 (m:List (Int×Bool)) (z:Int):Option Bool:=Zhr (k:=(.int .i64)) (v:= .bool) (car:=Zww) m z
theorem ZAn (m:List (Int×Bool)) (z:Int):ZB6 m z=(m.find? fun e=>z == e.1).map (·.2):=rfl
theorem ZC6 (m:List (Int×Bool)) (x z:Int):(ZB6 (setB (k:=(.int .i64)) (v:= .bool) (car:=Zww) m x true) z).getD false=if z=x then true else (ZB6 m z).getD false:=by
 unfold setB
 by_cases hany:(m.any fun e=>Zms (car:=Zww) (.int .i64) x e.1)=true
 ·rw[if_pos hany,ZAn,ZAn];have:=Zij x z m;have e:(m.map fun e=>if Zms (car:=Zww) (.int .i64) x e.1=true then (e.1,true)else e)=m.map fun e=>if x == e.1 then (e.1,true)else e:=rfl
  rw[e,this]
  by_cases hz:z=x
  ·subst hz;rw[if_pos rfl,if_pos rfl];obtain⟨e,he,hk⟩:=List.any_eq_true.1 hany;cases hf:m.find? fun e=>z == e.1 with
   |none=>exact absurd hk (by have:=List.find?_eq_none.1 hf e he;exact this)
   |some y=>rfl
  ·rw[if_neg hz,if_neg hz]
 ·rw[if_neg hany,ZAn,ZAn,List.find?_append];cases hf:m.find? fun e=>z == e.1 with
  |some y=>
   by_cases hz:z=x
   ·subst hz;exfalso;refine hany (List.any_eq_true.2 ⟨y,List.mem_of_find?_eq_some hf, ?_⟩);have:=List.find?_some hf;exact this
   ·rw[if_neg hz];rfl
  |none=>
   by_cases hz:z=x
   ·subst hz;simp
   ·have:(z == x)=false:=by simpa using hz
    rw[if_neg hz];simp[this]
def InP (m:List (Int×Bool)) (l:List ZoL):Prop:=∀z,(ZB6 m z).getD false=decide (∃h∈l,h.Ref.Table=z)
theorem ZBQ {a b:ZoL} (h:Le a b):¬qOf a.Score < qOf b.Score:=by intro hl;have h1:=(ZBu _ _).2 hl;have h2:=ZA0 (qOf a.Score) (qOf b.Score);unfold Le Zxe at h;split at h<;>omega
theorem ZFH {a b:ZoL} (h:Le a b) (he:qOf a.Score=qOf b.Score) (hn:a.Ref.Table≠b.Ref.Table):a.Ref.Table < b.Ref.Table:=by
 have h0:ZA1 (qOf b.Score) (qOf a.Score)=0:=by rw[he];have:=ZA0 (qOf b.Score) (qOf b.Score);omega
 unfold Le Zxe at h;rw[h0,if_neg (by simp)]at h;unfold ZAK at h;split at h
 ·assumption
 ·split at h
  ·omega
  ·omega
structure ZCN (sc:List Int) (t:List ZoL):Prop where
 pw:t.Pairwise fun a b=>Le a b∧a.Ref.Table≠b.Ref.Table
 mem:∀h∈t,∃i:Nat,i < sc.length∧h=Zz4 (i:Int) (sc.getD i 0)
 all:∀i:Nat,i < sc.length→Zz4 (i:Int) (sc.getD i 0)∈t
 len:t.length=sc.length
theorem ZCl {sc:List Int} {t:List ZoL} (hp:t.Perm (ZzC sc sc.length)) (hs:t.Pairwise Le):ZCN sc t:=by
 have hm:∀h,h∈t↔∃i:Nat,i < sc.length∧h=Zz4 (i:Int) (sc.getD i 0):=fun h=>by rw[hp.mem_iff];unfold ZzC;simp only[List.mem_map,List.mem_range];exact⟨fun⟨i,h1,h2⟩=>⟨i,h1,h2.symm⟩,fun⟨i,h1,h2⟩=>⟨i,h1,h2.symm⟩⟩
 refine⟨hs.and ?_,fun h hh=>(hm h).1 hh,fun i hi=>(hm _).2 ⟨i,hi,rfl⟩,by rw[hp.length_eq,Zz3]⟩;have hn:(t.map (·.Ref.Table)).Nodup:=by refine(hp.map (·.Ref.Table)).nodup_iff.2 ?_;unfold ZzC;rw[List.map_map];exact List.Pairwise.map _ (fun a b h e=>h (by have:((a:Nat):Int)=((b:Nat):Int):=e;omega)) List.nodup_range
 exact List.pairwise_map.1 hn
section
variable {sc:List Int} (hsc:∀s∈sc,0≤s∧s≤255) (h60:sc.length≤60)
include hsc h60
theorem ZBR {i:Nat} (hi:i < sc.length):idx sc ((Zz4 (i:Int) (sc.getD i 0)).Ref.Table)=some (sc.getD i 0)∧0≤sc.getD i 0:=by refine⟨?_,ZCB (fun s hs=>(hsc s hs).1) i⟩;rw[ZIH,ZIM hi];exact ZyY hi
theorem ZDm {H:List ZoL} {t:List ZoL} {n:Nat} (hS:ZCN sc t) (hH:H=t.take n):
  wp (Zpp big sc H (H.length:Int) 0 (emp H) []) (fun o=>∃m,o= .brk (sc,emp H,m)∧InP m H):=by
 have hpw:H.Pairwise fun a b=>Le a b∧a.Ref.Table≠b.Ref.Table:=by rw[hH];exact hS.pw.sublist (List.take_sublist _ _)
 have hmem:∀h∈H,∃i:Nat,i < sc.length∧h=Zz4 (i:Int) (sc.getD i 0):=fun h hh=>hS.mem h (by rw[hH]at hh;exact ZIV hh)
 have hHl:H.length≤60:=by rw[hH,ZIU];have:=hS.len;omega
 refine Zz6 Zxg H (by omega) (fun i (m:List (Int×Bool))=>(sc,H,(H.length:Int),i,emp H,m)) (fun i m=>InP m (H.take i)) [] (fun z=>by simp[ZB6,Zhr]) ?_ ?_
 ·rintro rec i m hi hm ih;obtain⟨j,hj,hh⟩:=hmem _ (ZIP hi);obtain⟨hx,hx0⟩:=ZBR hsc h60 hj;have hq:=ZB0 hx0;have hz:=(sz6 hq).wq (by decide);have fin:∀X:Option (Out ((List Int)×Zos×(List (Int×Bool))) Bool),X=(fun r:List Int→List ZoL→Int→Int→Zos→List (Int×Bool)→Option (Out ((List Int)×Zos×(List (Int×Bool))) Bool)=>(idx sc H[i].Ref.Table).bind fun score=>
    chk (decide ((6:Int)≠0)) <| chk (inK .i64 (1+(IntKind.wrap .i64 (Int.tmod score 6)))) <|
    (Zpc (1+(IntKind.wrap .i64 (Int.tmod score 6)))).bind fun q_2=>
    (Zpk H[i].Score q_2).bind fun q_3=>
    ZoN r sc H (H.length:Int) (i:Int) (!q_3) (emp H) m H[i]) (fun scores t98 t99 i a in_=>rec (scores,t98,t99,i,a,in_))→wp X (fun o=>∃m,o= .brk (sc,emp H,m)∧InP m H):=by
   rintro X rfl;dsimp only;rw[hh,hx,ZI0,decide_eq_true (by decide),chk_true,ZAZ hx0,Zoo (by omega),chk_true,ZBA hq,ZI0];rw[show (Zz4 (j:Int) (sc.getD j 0)).Score=fOf ((qs (sc.getD j 0):Int):Rat)from rfl,ZBd _ _ hz hz,ZI0,decide_eq_true rfl];unfold ZoN;rw[ZFw,cond_false,Zom];refine⟨Zoo (by omega),ih _ fun z=> ?_⟩;rw[ZC6,hm z,List.take_add_one,ZIM hi,hh]
   by_cases hzz:z=(Zz4 (j:Int) (sc.getD j 0)).Ref.Table
   ·rw[if_pos hzz,eq_comm,decide_eq_true_eq];exact⟨_,by simp,hzz.symm⟩
   ·rw[if_neg hzz,decide_eq_decide];constructor
    ·rintro⟨h,h1,h2⟩;exact⟨h,List.mem_append_left _ h1,h2⟩
    ·rintro⟨h,h1,h2⟩;rcases List.mem_append.1 h1 with h1 |h1
     ·exact⟨h,h1,h2⟩
     ·simp only[Option.toList_some,List.mem_singleton]at h1;exact absurd (by rw[←h2,h1]) hzz
  unfold Zsm ZqR;dsimp only;rw[decide_eq_true (show (i:Int) < (H.length:Int) by omega),cond_true,ZyY hi,ZI0]
  by_cases h0:0 < i
  ·have hi1:i - 1 < H.length:=by omega
   obtain⟨hle,hne⟩:=ZIW.1 hpw (i - 1) i hi1 hi (by omega);obtain⟨j',hj',hh'⟩:=hmem _ (ZIP hi1);obtain⟨_,hx0'⟩:=ZBR hsc h60 hj';have hz':=(sz6 (ZB0 hx0')).wq (by decide);have e1:(i:Int) - 1=((i - 1:Nat):Int):=by omega
   have e2:idx (emp H).Hits ((i:Int) - 1)=some H[i - 1]:=by rw[e1];exact ZyY hi1
   have hs1:H[i - 1].Score=fOf ((qs (sc.getD j' 0):Int):Rat):=by rw[hh'];rfl
   have hs2:H[i].Score=fOf ((qs (sc.getD j 0):Int):Rat):=by rw[hh];rfl
   have hnl:=ZBQ hle;rw[hs1,hs2,Zzg,Zzg]at hnl;rw[decide_eq_true (show (i:Int) > 0 by omega),cond_true,Zoo (by omega),chk_true,e2,ZI0];have l1:Zrb H[i - 1].Score H[i].Score=some false:=by rw[hs1,hs2,ZBh hz' hz,decide_eq_false hnl]
   have l2:Zpk H[i - 1].Score H[i].Score=some (decide (((qs (sc.getD j' 0):Int):Rat)=((qs (sc.getD j 0):Int):Rat))):=by rw[hs1,hs2,ZBd _ _ hz' hz]
   rw[l1,ZI0,cond_false,chk_true,ZI0,l2,ZI0]
   by_cases hsm:((qs (sc.getD j' 0):Int):Rat)=((qs (sc.getD j 0):Int):Rat)
   ·have hlt:=ZFH hle (by rw[hs1,hs2,Zzg,Zzg];exact hsm) hne;rw[decide_eq_true hsm,cond_true,chk_true,ZI0,decide_eq_false (show ¬H[i - 1].Ref.Table≥H[i].Ref.Table by omega),cond_false];exact fin _ rfl
   ·rw[decide_eq_false hsm,cond_false];exact fin _ rfl
  ·rw[decide_eq_false (show ¬(i:Int) > 0 by omega),cond_false];exact fin _ rfl
 ·rintro rec m hm;unfold Zsm ZqR;dsimp only;rw[decide_eq_false (show ¬(H.length:Int) < (H.length:Int) by omega),cond_false,Zok];rw[ZIY]at hm;exact⟨m,rfl,hm⟩
theorem ZD3 {H:List ZoL} {t:List ZoL} {n:Nat} (hS:ZCN sc t) (hH:H=t.take n) {m:List (Int×Bool)} (hm:InP m H):
  wp (Zpo big sc (sc.length:Int) 0 (emp H) m) (fun o=>o= .brk ()):=by
 have hHl:H.length≤60:=by rw[hH,ZIU];have:=hS.len;omega
 have hsub:∀h∈H,h∈t:=fun h hh=>by rw[hH]at hh;exact ZIV hh
 refine Zz6 Zxf sc (by omega) (fun i (_:Unit)=>(sc,(sc.length:Int),i,emp H,m)) (fun _ _=>True) () trivial ?_ ?_
 ·rintro rec i _ hi _ ih;obtain⟨_,hx0⟩:=ZBR hsc h60 hi;have hge:sc.getD i 0=sc[i]:=by rw[ZIH,ZIM hi];rfl
  rw[hge]at hx0;have hq:=ZB0 hx0;have go:wp (Zpr (fun t166 t167 i a in_=>rec (t166,t167,i,a,in_)) sc (sc.length:Int) (i:Int) false (emp H) m) (fun o=>o= .brk ()):=by unfold Zpr;rw[cond_false,Zom];exact⟨Zoo (by omega),ih () trivial⟩
  unfold Zsl ZqQ;dsimp only;rw[decide_eq_true (show (i:Int) < (sc.length:Int) by omega),cond_true,ZyY hi,ZI0];show wp (bif (decide (((H.length:Nat):Int) > 0))then _ else _) _
  by_cases h0:0 < H.length
  ·rw[decide_eq_true (show (H.length:Int) > 0 by omega),cond_true];show wp (bif (!((ZB6 m (i:Int)).getD false))then _ else _) _;rw[hm]
   by_cases hin:∃h∈H,h.Ref.Table=(i:Int)
   ·rw[decide_eq_true hin,ZFw,cond_false];exact go
   ·rw[decide_eq_false hin,Bool.not_false,cond_true];have hi1:H.length - 1 < H.length:=by omega
    have e2:idx (emp H).Hits (((H.length:Nat):Int) - 1)=some H[H.length - 1]:=by rw[show ((H.length:Nat):Int) - 1=((H.length - 1:Nat):Int) by omega];exact ZyY hi1
    have hlm:H[H.length - 1]∈H:=ZIP hi1;obtain⟨j',hj',hh'⟩:=hS.mem _ (hsub _ hlm);obtain⟨_,hx0'⟩:=ZBR hsc h60 hj';have hz':=(sz6 (ZB0 hx0')).wq (by decide);have hz:=(sz6 hq).wq (by decide);have hat:=hS.all i hi;rw[hge]at hat;have hdr:Zz4 (i:Int) sc[i]∈t.drop n:=by
     have:=ZIX n t;rw[←this,←hH]at hat;rcases List.mem_append.1 hat with h |h
     ·exact absurd ⟨_,h,rfl⟩ hin
     ·exact h
    have hpw:=hS.pw;rw[←ZIX n t,←hH]at hpw;have hle:=((List.pairwise_append.1 hpw).2.2 _ hlm _ hdr).1;have hnl:=ZBQ hle;have hs1:H[H.length - 1].Score=fOf ((qs (sc.getD j' 0):Int):Rat):=by rw[hh'];rfl
    rw[hs1,show (Zz4 (i:Int) sc[i]).Score=fOf ((qs sc[i]:Int):Rat)from rfl,Zzg,Zzg]at hnl;rw[Zoo (show (-9223372036854775808:Int)≤(((emp H).Hits.length:Nat):Int) - 1∧(((emp H).Hits.length:Nat):Int) - 1≤9223372036854775807 from by show (-9223372036854775808:Int)≤((H.length:Nat):Int) - 1∧((H.length:Nat):Int) - 1≤9223372036854775807;omega),chk_true];show wp ((idx (emp H).Hits (((H.length:Nat):Int) - 1)).bind _) _;rw[e2,ZI0,decide_eq_true (by decide),chk_true,ZAZ hx0,Zoo (by omega),chk_true,ZBA hq,ZI0,hs1,ZBh hz' hz,ZI0,decide_eq_false hnl];exact go
  ·rw[decide_eq_false (show ¬(H.length:Int) > 0 by omega),cond_false];exact go
 ·rintro rec _ _;unfold Zsl ZqQ;dsimp only;rw[decide_eq_false (show ¬(sc.length:Int) < (sc.length:Int) by omega),cond_false,Zok]
end
theorem workerTop_law (scores cuts:List Int) (k:Int) (hs:∀s∈scores,0≤s∧s≤255) (hc:∀s∈cuts,0≤s∧s≤255):Zsc scores cuts k=some true:=by
 refine ZuQ ?_;have aw:wp ((Zro).bind fun q=>some q) (fun r=>r=true):=by rw[ZEu,ZI0,Zok]
 unfold Zsc
 by_cases h1:(scores.length:Int) > 60
 ·rw[decide_eq_true h1,cond_true];unfold Zps;rw[cond_true];exact aw
 rw[decide_eq_false h1,cond_false]
 by_cases h2:(cuts.length:Int) > 8
 ·rw[decide_eq_true h2];unfold Zps;rw[cond_true];exact aw
 rw[decide_eq_false h2];unfold Zps;rw[cond_false,Zoo (by omega),chk_true,Zom];refine⟨by unfold mkOk ZC;exact decide_eq_true (by omega), ?_⟩;rw[show ((cuts.length:Int)+1).toNat=cuts.length+1 by omega,Zol];refine Zow (ZCk hs hc (by omega) (by omega) k) ?_;rintro⟨r1,r2,parts,lo⟩ ⟨e1,e2,inv⟩;dsimp only at e1 e2 inv⊢
 subst e1 e2;unfold Zs0;have h0:=ZFD r2 (m:=70) (by decide);rw[Zol];refine Zow h0 ?_;rintro n ⟨hn0,hn1⟩;have hpl:=inv.len;have hperm:=inv.perm;dsimp only at hpl hperm;have hfl:=hperm.length_eq;rw[Zz3]at hfl;have hgd:Gds (parts.flatMap (·.Hits)):=(ZDd (fun s h=>(hs s h).1) r1.length).perm hperm;rw[Zol];refine Zow (ZC5 (parts:=parts) inv.emp (by omega) (by omega) hn0 (by omega)) ?_;rintro⟨a,e⟩ ⟨he,t,hp,hsrt,ha⟩;dsimp only at he ha⊢
 subst he ha;have hS:=ZCl (hp.trans hperm) hsrt;have hl:=hS.len;rw[show ((0:Int) != 0)=false from rfl,cond_false];have hlen:((emp (t.take n.toNat)).Hits.length:Int)=(if ((r1.length:Nat):Int) < n then ((r1.length:Nat):Int)else n):=by show (((t.take n.toNat).length:Nat):Int)=_;rw[ZIU];split<;>omega
 rw[hlen,bne_self_eq_false];unfold Zrc;rw[cond_false,Zol];refine Zow (ZDm hs (by omega) hS rfl) ?_;rintro _ ⟨m,rfl,hm⟩;dsimp only;unfold ZsZ;rw[Zol];refine Zow (ZD3 hs (by omega) hS rfl hm) ?_;rintro _ rfl;exact aw
end Go.Proofs
namespace Eng
open Go Go.Lib
theorem globOk_one {Pg:Program} {w:World} {n:String} {g:Nat} {t e:TypeId} {k:IntKind} {z:Int} (hn:Pg.globalNamed n=some g) (hty:(Pg.globals[g]?).map (·.type)=some t)
  (ht:Pg.underlying t=some (.slice e)) (he:Pg.underlying e=some (.int k)) (hce:Pg.cellsOf e=1) (hz:k.min≤z∧z≤k.max)
  (h:VarReads Pg w n (.slice [.lit (.int k z)] [])):Zex w (fun b=>b < w.heap.size) g [P.sl 1 [.int k z]]:=by
 obtain⟨g',t',cs,fuel,p,hg,hty',hvar,hd⟩:=h;obtain rfl:=ZI1 (hn.symm.trans hg);obtain rfl:=ZI1 (hty.symm.trans hty');rcases DataW.trod_slice ht hd with ⟨_,hx⟩ |⟨a,len,cap,elems,rest,m,_,hcs,hx,_,hl,hcap,hlen,hel,_,_⟩
 ·cases congrArg Prod.fst hx
 ·have e0:=congrArg Prod.fst hx;simp only[DataW.slice.injEq]at e0;obtain⟨e1,_⟩:=e0
  match elems,e1 with
  | [(d,q)],e1=>
   simp only[List.map_cons,List.map_nil,List.cons.injEq,and_true]at e1;subst e1;have hlen1:len=1:=by simpa using hlen.symm
   subst hlen1;obtain⟨ci,hci,htr⟩:=Option.bind_eq_some_iff.1 (hel 0 (by decide));obtain⟨z',hc,hxx,_⟩:=DataW.trod_int he htr;have hzz:z'=z:=by have:=congrArg Prod.fst hxx;simpa using this.symm
   subst hzz;subst hc;rw[hce,Nat.zero_mul]at hci;obtain⟨_,_,hc2⟩:=World.cells?_some hci;have h0:=hc2 0 (by decide);have hb:w.cell? a=some (.int k z'):=by simpa[Addr.add]using h0
   have hspot:a.spot=none:=by
    unfold World.cell? at hb;cases hs:a.spot with
    |none=>rfl
    |some s=>rw[hs]at hb;split at hb<;>simp at hb
   have ha:a=⟨a.block,a.off,none⟩:=by cases a;simp at hspot;subst hspot;rfl
   have hlt:a.block < w.heap.size:=Zkt (by rw[ha]at hb;exact hb);have hcs1:cs.size=1:=by have:=congrArg List.length hcs;simpa using this
   refine Zzm (t:=0) (fr:= #[]) (ZAq hn hvar) _ (by rw[hcs1];rfl) fun j v p hv hp=> ?_
   have hj:j=0:=by have:=(Array.getElem?_eq_some_iff.1 hv).1;omega
   subst hj;simp only[ZIK,Option.some.injEq]at hp;subst hp;rw[←Array.getElem?_toList,hcs]at hv;simp only[ZIK,Option.some.injEq]at hv;subst hv;refine⟨.sl (some a) 1 cap _ _ (fun _=> .int k z') rfl (by decide) hl (fun i hi=>rfl) (fun i hi=> ?_) (fun i x hx=> ?_),rfl⟩
   ·have hi0:i=0:=by omega
    subst hi0;refine⟨a.block,a.off,by rw[←ha],hlt,fun j v hv=> ?_⟩;have hj:=(Array.getElem?_eq_some_iff.1 hv).1;have hj0:j=0:=by have:(Value.int k z').cells.size=1:=rfl;omega
    subst hj0;have hvv:v= .int k z':=by have:(Value.int k z').cells[0]? =some (.int k z'):=rfl;exact ZI1 (hv.symm.trans this)
    subst hvv;rw[ha]at hb;simpa using hb
   ·have hi0:i=0:=by have:=(ZIN.1 hx).1;simp at this;omega
    subst hi0;simp only[ZIK,Option.some.injEq]at hx;subst hx;exact .int k z' hz.1 hz.2
end Eng
namespace Eng
open Go
inductive ZCM (s:List UInt8):P→Prop
 |str:ZCM s (.str s)
 |agg {cs:List P} {c:P} (h:c∈cs) (h':ZCM s c):ZCM s (.agg cs)
 |sl {sz:Nat} {es:List P} {e:P} (h:e∈es) (h':ZCM s e):ZCM s (.sl sz es)
inductive ZCd (k:IntKind) (n:Int):P→Prop
 |int:ZCd k n (.int k n)
 |agg {cs:List P} {c:P} (h:c∈cs) (h':ZCd k n c):ZCd k n (.agg cs)
 |sl {sz:Nat} {es:List P} {e:P} (h:e∈es) (h':ZCd k n e):ZCd k n (.sl sz es)
theorem RelP.ints {w:World} {S:Nat→Prop} {k:IntKind} {n:Int} {x:P} (hs:ZCd k n x):∀{v:Value},RelP w S v x→k.min≤n∧n≤k.max:=by
 induction hs with
 |int=>intro v h;cases h;exact⟨by assumption,by assumption⟩
 |agg hm _ ih=>
  intro v h;cases h with
  |agg vs cs hl h1 h=>
   obtain⟨i,hi,he⟩:=List.mem_iff_getElem.1 hm;have hlt:i < vs.size:=by rw[hl];exact hi
   exact ih (h i vs[i] _ (Array.getElem?_eq_getElem hlt) (by rw[ZIM hi,he]))
 |sl hm _ ih=>
  intro v h;cases h with
  |sl a len cap sz es evs hl hmx hc hsz hcell h=>
   obtain⟨i,hi,he⟩:=List.mem_iff_getElem.1 hm;exact ih (h i _ (by rw[ZIM hi,he]))
theorem ZFl:IntKind.min .u8=0:=by decide
theorem ZFm:IntKind.max .u8=255:=by decide
theorem RelP.lens {w:World} {S:Nat→Prop} {sz:Nat} {es:List P} {v:Value} (h:RelP w S v (.sl sz es)):es.length≤281474976710656:=by
 cases h with
 |sl a len cap sz es evs hl hmx hc hsz hcell h=>unfold Z7 at hmx;omega
end Eng
namespace Go.Proofs
open Go Eng
theorem ZBT {w:World} {S:Nat→Prop} {v:Value} {y:List Int} (h:RelP w S v (U.encE (.sl (.int .u8)) y)):∀x∈y,0≤x∧x≤255:=by obtain⟨n,h'⟩:∃n,RelP w S v (.sl n (y.map fun z=>P.int .u8 z)):=⟨_,h⟩;intro x hx;have:=h'.ints (k:= .u8) (n:=x) (.sl (List.mem_map.2 ⟨x,hx,rfl⟩) .int);rw[ZFl,ZFm]at this;exact this
end Go.Proofs
