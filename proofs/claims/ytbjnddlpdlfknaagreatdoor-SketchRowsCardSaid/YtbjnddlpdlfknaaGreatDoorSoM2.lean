/- Plain laws over the specs, part 2. -/
import Derived.Test.YtbjnddlpdlfknaaGreatDoorSoM1
import Derived.Test.YtbjnddlpdlfknaaGreatDoorQ
set_option linter.unusedVariables false
set_option linter.unusedSimpArgs false
set_option linter.unusedSectionVars false
open Bool renaming not_true→ZBz
open Int renaming eq_ofNat_of_zero_le→ZDU
open List renaming length_take→ZD0, length_drop→ZDZ, foldl_cons→ZDV, getElem_mem→ZDX, length_append→ZDY, getElem?_cons_zero→ZDW
open Option renaming some.inj→ZD1
namespace Go.Proofs
open Go Eng
theorem ZzJ {R R':List (Str×Rat)} (h:R.Perm R') (k:Str):cnt R k=cnt R' k:=h.countP_eq _
theorem ZAs {R R':List (Str×Rat)} (h:R.Perm R') (k:Str):∀s,R.foldl (ZvA k) s=R'.foldl (ZvA k) s:=by
 induction h with
 |nil=>intro s;rfl
 |cons x _ ih=>intro s;rw[ZDV,ZDV,ih]
 |swap x y l=>
  intro s;rw[ZDV,ZDV,ZDV,ZDV];congr 1;unfold ZvA;split<;>split<;>grind
 |trans _ _ ih1 ih2=>intro s;rw[ih1,ih2]
theorem ZA2 {R R':List (Str×Rat)} (h:R.Perm R'):En R=En R':=by funext k;unfold En sm;rw[ZzJ h,ZAs h]
theorem ZAI {R R':List (Str×Rat)} (h:R.Perm R'):(Zwp R).Perm (Zwp R'):=by
 rw[List.perm_ext_iff_of_nodup (ZvV R) (ZvV R')];intro k;rw[ZwK,ZwK];constructor
 ·rintro⟨r,hr,e⟩;exact⟨r,h.mem_iff.1 hr,e⟩
 ·rintro⟨r,hr,e⟩;exact⟨r,h.mem_iff.2 hr,e⟩
theorem Zw6 {a b c:ZnA} (h:a.Key=b.Key) (ha:Zvr a) (hb:Zvr b):ZvN a c=ZvN b c:=by
 have e:a.Hash=b.Hash:=by rw[ha,hb,h]
 unfold ZvN;rw[e,h]
theorem Zxz {a b c:ZnA} (ha:Zvr a) (hb:Zvr b) (h1:ZvN a b≤0) (h2:ZvN b c≤0):ZvN a c≤0:=by
 by_cases e:ZvN a b=0
 ·rw[Zw6 (Zwj e) ha hb];exact h2
 ·have h1':ZvN a b < 0:=by omega
  by_cases e2:ZvN b c=0
  ·by_cases hc:Zvr c
   ·have:=Zw6 (a:=c) (b:=b) (c:=a) (Zwj e2).symm hc hb;have n1:=Zwk a c;have n2:=Zwk a b;omega
   ·exfalso;unfold ZvN at e2;split at e2
    ·simp at e2
    ·split at e2
     ·simp at e2
     ·have hk:=ZxU e2;apply hc;unfold Zvr at hb⊢
      rw[←hk,←hb];omega
  ·have:=Zyl h1' (show ZvN b c < 0 by omega);omega
def Lt (a b:ZnA):Prop:=ZvN a b < 0
theorem Zwz {l:List ZnA} (h:∀e∈l,Zvr e):(Zvp ltE l).Pairwise fun a b=>ZvN a b≤0:=by
 refine ZxC Zvr (fun a b=>ZvN a b≤0) (fun x p _ _ h=> ?_) (fun x p _ _ h=> ?_) (fun a b c ha hb _ h1 h2=>Zxz ha hb h1 h2) l h
 ·have:=of_decide_eq_true h;omega
 ·have:=of_decide_eq_false h;have:=Zwk x p;omega
theorem ZwP {R:List (Str×Rat)}:∀e∈Zmg R,Zvr e:=by intro e he;obtain⟨k,_,rfl⟩:=List.mem_map.1 he;rfl
theorem ZwT {K V:List ZnE} {e:ZnA}:e∈ZqG K V↔∃k∈Zwp (ZrW K V),En (ZrW K V) k=e:=by unfold ZqG;rw[(Zvn _).mem_iff];unfold Zmg;rw[List.mem_map]
theorem Zyc (K V:List ZnE):(ZqG K V).Pairwise Lt:=by
 have h1:=Zwz (l:=Zmg (ZrW K V)) ZwP;have h2:((ZqG K V).map (·.Key)).Nodup:=by have hp:((ZqG K V).map (·.Key)).Perm ((Zmg (ZrW K V)).map (·.Key)):=(Zvn _).map _;rw[hp.nodup_iff];unfold Zmg;rw[List.map_map];have:((fun e:ZnA=>e.Key)∘En (ZrW K V))=id:=rfl;rw[this,List.map_id];exact ZvV _
 rw[List.Nodup,List.pairwise_map]at h2;refine(h1.and h2).imp ?_;rintro a b ⟨h3,h4⟩;unfold Lt;rcases Int.lt_or_eq_of_le h3 with h |h
 ·exact h
 ·exact absurd (Zwj h) h4
theorem Zyp {K V K' V':List ZnE} (h:(ZrW K V).Perm (ZrW K' V')):ZqG K V=ZqG K' V':=by
 have hp:(Zmg (ZrW K V)).Perm (Zmg (ZrW K' V')):=by unfold Zmg;rw[ZA2 h];exact(ZAI h).map _
 have hP:∀e∈ZqG K V,e=En (ZrW K V) e.Key:=by intro e he;obtain⟨k,_,rfl⟩:=ZwT.1 he;rfl
 refine Zxv (fun e=>e=En (ZrW K V) e.Key) (fun a b=>ZvN a b≤0) (fun a b ha hb h1 h2=> ?_) hP (((Zvn _).trans hp).trans (Zvn _).symm) (Zwz ZwP) (Zwz ZwP);have h3:=Zwk a b;have h4:ZvN a b=0:=by omega
 rw[ha,hb,Zwj h4]
def ZzL (e:ZnA):Prop:=Zvr e∧(1≤e.Count∧e.Count≤20)∧e.Key.length≤1000000∧∃q,e.Sum=fOf q∧Sz 110 q
theorem Zw9 {K V:List ZnE} (hK:∀c∈K,Zu5 c) (hn:K.length≤20):∀e∈ZqG K V,ZzL e:=by
 intro e he;obtain⟨k,hk,rfl⟩:=ZwT.1 he;have hR:(ZrW K V).length≤20:=by refine Nat.le_trans (List.length_filterMap_le _ _) ?_;rw[List.length_zip];omega
 obtain⟨r,hr,e1⟩:=ZwK.1 hk;have hc:cnt (ZrW K V) k≤(ZrW K V).length:=List.countP_le_length;have hp:0 < cnt (ZrW K V) k:=List.countP_pos_iff.2 ⟨r,hr,by simp[e1]⟩;refine⟨rfl,⟨?_, ?_⟩, ?_,⟨_,rfl,(ZzQ Zx4 k).mono (by omega)⟩⟩
 ·show (1:Int)≤(cnt (ZrW K V) k:Int);omega
 ·show (cnt (ZrW K V) k:Int)≤20;omega
 ·obtain⟨p,hp2,hp3⟩:=List.mem_filterMap.1 hr;unfold ZwO at hp3;split at hp3
  ·simp at hp3
  ·obtain⟨q,_,rfl⟩:=Option.map_eq_some_iff.1 hp3;show k.length≤1000000;rw[e1];exact Zxe (hK _ (List.of_mem_zip hp2).1)
theorem Zzr {a b:ZnF} (hl:a.Entries=b.Entries) (hg:∀e∈a.Entries,ZzL e) (hn:a.Entries.length≤1000):
  wp (ZoI big a.Entries (a.Entries.length:Int) 0 b) (fun x=>x= .brk ()):=by
 refine Zvy Zup a.Entries (by omega) (fun i (_:Unit)=>(a.Entries,(a.Entries.length:Int),i,b)) (fun _ _=>True) (Q:=fun x=>x= .brk ()) () trivial ?_ ?_
 ·rintro rec k _ hk _ ih;obtain⟨_,_,_,q,hq,hs⟩:=hg _ (ZDX hk);unfold ZqT ZpL ZoJ;dsimp only;rw[←hl,decide_eq_true (show (k:Int) < (a.Entries.length:Int) by omega),cond_true,Zua hk,ZnH,ZnC,ZnH,ZnC,show (a.Entries[k].Key == a.Entries[k].Key)=true by simp,ZBz,cond_false,show (a.Entries[k].Hash != a.Entries[k].Hash)=false by simp,cond_false,
   show (a.Entries[k].Count != a.Entries[k].Count)=false by simp,cond_false,hq,ZvJ _ _ (hs.wq (by omega)) (hs.wq (by omega)),ZnH,ZnC,decide_eq_true rfl,ZBz,cond_false,ZnJ]
  exact⟨ZnP (by omega),ih () trivial⟩
 ·rintro rec _ _;unfold ZqT ZpL;dsimp only;rw[decide_eq_false (show ¬(a.Entries.length:Int) < (a.Entries.length:Int) by omega),cond_false,ZnC]
theorem Zx3 {a b:ZnF} (hk:a.K=b.K) (ha:a.All=b.All) (hl:a.Entries=b.Entries) (hg:∀e∈a.Entries,ZzL e) (hn:a.Entries.length≤1000):Zpa a b=some true:=by refine Zqg ?_;unfold Zpa Zpe Zro;rw[hk,ha,show (b.K != b.K)=false by simp,cond_false,show (b.All == b.All)=true by simp,ZBz,cond_false,show ((a.Entries.length:Int) != (b.Entries.length:Int))=false by rw[hl];simp,cond_false,ZnH];refine Zn7 (Zzr hl hg hn) ?_;rintro _ rfl;rw[ZnC]
theorem ZAG {l:List ZnA} (h:l.Pairwise Lt) {i j:Nat} (hij:i < j) (hj:j < l.length):ZvN l[i] l[j] < 0:=List.pairwise_iff_getElem.1 h i j (by omega) hj hij
theorem Zyu:((List.range 201).all fun s=>decide (IntKind.wrap .i64 (shrK .u64 (IntKind.wrap .u64 (s:Int)) 1)=((s / 2:Nat):Int)))=true:=by kernel_rfl
theorem ZAN {i j:Nat} (h:i+j≤200):IntKind.wrap .i64 (shrK .u64 (IntKind.wrap .u64 ((i:Int)+(j:Int))) 1)=(((i+j) / 2:Nat):Int):=by have:=of_decide_eq_true (List.all_eq_true.1 Zyu (i+j) (List.mem_range.2 (by omega)));rw[show (i:Int)+(j:Int)=((i+j:Nat):Int) by omega];exact this
theorem ZzH {l:List ZnA} (h:l.Pairwise Lt) (hn:l.length≤100) {p:Nat} (hp:p < l.length) (hh:Zvr l[p]):
  wp (ZnK l l[p]) (fun r=>r=((p:Int),true)):=by
 unfold ZnK;rw[ZnH];have hself:ZvN l[p] l[p]=0:=ZyL rfl hh hh;have hlt:∀k (hk:k < l.length),ZvN l[k] l[p] < 0↔k < p:=by
  intro k hk;constructor
  ·intro hc;rcases Nat.lt_or_ge k p with h1 |h1
   ·exact h1
   ·rcases Nat.lt_or_eq_of_le h1 with h2 |h2
    ·have:=ZAG h h2 hk;have:=Zwk l[p] l[k];omega
    ·subst h2;omega
  ·intro hc;exact ZAG h hc hp
 refine Zn7 (ZvG ZoR (fun s:Nat×Nat=>(l,(l.length:Int),(s.1:Int),(s.2:Int),l[p])) (fun s=>s.1≤p∧p≤s.2∧s.2≤l.length) (fun s=>s.2 - s.1)
  (Q:=fun r=>r=(l,(l.length:Int),(p:Int),l[p])) (0,l.length) ⟨Nat.zero_le _,by dsimp only;omega,Nat.le_refl _⟩ (by dsimp only;omega) ?_) ?_
 ·rintro rec ⟨i,j⟩ ⟨h1,h2,h3⟩ ih;dsimp only at h1 h2 h3 ih;unfold Zn4 ZnR;dsimp only
  by_cases hij:i < j
  ·have hm:(i+j) / 2 < l.length:=by omega
   rw[decide_eq_true (show (i:Int) < (j:Int) by omega),cond_true,ZAN (by omega),ZnJ,ZnJ,Zua hm,ZnH,ZnC,ZwJ,ZnH,ZnC];refine⟨ZnP (by omega),rfl, ?_⟩
   by_cases hc:(i+j) / 2 < p
   ·rw[decide_eq_true ((hlt _ hm).2 hc),cond_true,ZnJ];exact⟨ZnP (by omega),ih ((i+j) / 2+1,j) ⟨by dsimp only;omega,h2,h3⟩ (by dsimp only;omega)⟩
   ·rw[decide_eq_false (fun hx=>hc ((hlt _ hm).1 hx)),cond_false];exact ih (i,(i+j) / 2) ⟨h1,by dsimp only;omega,by dsimp only;omega⟩ (by dsimp only;omega)
  ·rw[decide_eq_false (show ¬(i:Int) < (j:Int) by omega),cond_false,ZnC,show i=p by omega]
 ·rintro _ rfl;unfold ZnS ZnO;dsimp only;rw[decide_eq_true (show (p:Int) < (l.length:Int) by omega),cond_true,Zua hp,ZnH,ZnC,ZwJ,ZnH,ZnC,hself,ZnC];rfl
theorem ZAE {e:ZnA} (h:ZzL e):∃x,Ztb e=some (fOf x)∧Wq 256 x:=by
 obtain⟨_,⟨h1,h2⟩,_,q,hq,hs⟩:=h;have hc:Rat.divInt e.Count 1≠0:=by rw[ZvW];intro h0;have h3:((e.Count:Int):Rat)=((0:Int):Rat):=h0;have:=Rat.intCast_inj.1 h3;omega
 have hz:Sz 5 (Rat.divInt e.Count 1):=ZvI (k:=5) (by decide) (by omega) (by decide);refine⟨q / Rat.divInt e.Count 1, ?_,(Sz.div hc hs hz).wq (by omega)⟩;unfold Ztb;rw[Zzv _ 1 (by decide) (by omega) (by omega) (by decide) (by decide),Option.bind_some,hq,ZyS hc hs hz (by omega),Option.bind_some]
theorem Zzu {a:ZnF} (h:a.Entries.Pairwise Lt) (hg:∀e∈a.Entries,ZzL e) (hn:a.Entries.length≤100):
  wp (Zq1 big a.Entries (a.Entries.length:Int) 0 a a []) (fun x=>∃out,x=(a,a,out)∧out.length=a.Entries.length∧∀p∈out,∃q,p.e0=fOf q∧p.e1=fOf q∧Wq 256 q):=by
 refine Zvy ZvY a.Entries (by omega) (fun i (o:List ZnG)=>(a.Entries,(a.Entries.length:Int),i,a,a,o)) (fun k o=>o.length=k∧∀p∈o,∃q,p.e0=fOf q∧p.e1=fOf q∧Wq 256 q) [] ⟨rfl,fun p hp=>absurd hp (by simp)⟩ ?_ ?_
 ·rintro rec k o hk ⟨ho,hp⟩ ih;have hge:=hg _ (ZDX hk);obtain⟨x,hx,hw⟩:=ZAE hge;unfold ZtG Zsg Ztd;dsimp only;rw[decide_eq_true (show (k:Int) < (a.Entries.length:Int) by omega),cond_true,Zua hk,ZnH,ZnC];unfold ZuI;rw[ZnH,ZnH];refine Zn7 (ZzH h hn hk hge.1) ?_;rintro _ rfl;dsimp only;rw[ZBz,cond_false,Zua hk,ZnH,ZnC,ZnC];dsimp only;rw[cond_true,hx,ZnH,ZnC,ZnH,ZnC,ZnJ,ZnJ];refine⟨ZtI (by rw[List.length_singleton];omega),ZnP (by omega),ih _ ⟨by rw[ZDY,List.length_singleton,ho],fun p hp'=> ?_⟩⟩;rcases List.mem_append.1 hp' with h1 |h1
  ·exact hp p h1
  ·obtain rfl:=List.mem_singleton.1 h1;exact⟨x,rfl,rfl,hw⟩
 ·rintro rec o ⟨ho,hp⟩;unfold ZtG Zsg;dsimp only;rw[decide_eq_false (show ¬(a.Entries.length:Int) < (a.Entries.length:Int) by omega),cond_false,ZnC];exact⟨o,rfl,ho,hp⟩
theorem Zzl {a:ZnF} (hn:a.Entries.length≤100):Zsw a a=some a.All:=by
 refine Zqg ?_;unfold Zsw Zta ZnZ Zn1;rw[Zob];refine⟨fun hA=> ?_,fun hA=>by rw[ZnC,hA]⟩;rw[ZnH,ZnH,ZnH];refine Zn7 (Zvy ZqF a.Entries (by omega) (fun i (_:Unit)=>(a.Entries,a,(a.Entries.length:Int),i)) (fun _ _=>True) (Q:=fun x=>x= .brk ()) () trivial ?_ ?_) ?_
 ·rintro rec k _ hk _ ih;unfold Zoe ZnW Zry ZqH;dsimp only;rw[decide_eq_true (show (k:Int) < (a.Entries.length:Int) by omega),cond_true,Zua hk,ZnH,ZnC,hA,ZBz,cond_false,ZnH,ZnC,cond_false,ZnJ];exact⟨ZnP (by omega),ih () trivial⟩
 ·rintro rec _ _;unfold Zoe ZnW;dsimp only;rw[decide_eq_false (show ¬(a.Entries.length:Int) < (a.Entries.length:Int) by omega),cond_false,ZnC]
 ·rintro _ rfl;unfold Zoh;dsimp only;rw[ZnC,ZnC,ZnC,hA];rfl
end Go.Proofs
namespace Go.Proofs
open Go Eng
theorem ZyD {s:ZnF} (h:s.Entries.Pairwise Lt) (hg:∀e∈s.Entries,ZzL e) (hn:s.Entries.length≤100):
  wp (Zq0 big s.Entries (s.Entries.length:Int) 0 s) (fun x=>x= .brk ()):=by
 refine Zvy ZvX s.Entries (by omega) (fun i (_:Unit)=>(s.Entries,(s.Entries.length:Int),i,s)) (fun _ _=>True) (Q:=fun x=>x= .brk ()) () trivial ?_ ?_
 ·rintro rec k _ hk _ ih;obtain⟨h1,⟨h2,_⟩,h3,q,hq,hs⟩:=hg _ (ZDX hk);unfold ZtF Zsf Zqm;dsimp only;rw[decide_eq_true (show (k:Int) < (s.Entries.length:Int) by omega),cond_true,Zua hk,ZnH,ZnC,ZxT h3,ZnH,ZnC,←h1,show (s.Entries[k].Hash != s.Entries[k].Hash)=false by simp,cond_false,decide_eq_false (show ¬s.Entries[k].Count < 1 by omega),cond_false,hq,Zwg q (hs.wq (by omega)),ZnH,ZnC,ZBz,cond_false,Zob];refine⟨fun h0=> ?_,fun _=> ?_⟩
  ·have h0':0 < k:=by have:=of_decide_eq_true h0;omega
   have hl:=ZAG h (show k - 1 < k by omega) hk;rw[ZnJ,show (k:Int) - 1=((k - 1:Nat):Int) by omega,Zua (show k - 1 < s.Entries.length by omega),ZnH,ZnC,ZwJ,ZnH,ZnC,decide_eq_false (show ¬ZvN s.Entries[k - 1] s.Entries[k]≥0 by omega),cond_false,ZnJ];exact⟨ZnP (by omega),ZnP (by omega),ih () trivial⟩
  ·rw[cond_false,ZnJ];exact⟨ZnP (by omega),ih () trivial⟩
 ·rintro rec _ _;unfold ZtF Zsf;dsimp only;rw[decide_eq_false (show ¬(s.Entries.length:Int) < (s.Entries.length:Int) by omega),cond_false,ZnC]
theorem ZAU {p q:Rat} (hp:Sz 110 p) (hq:Sz 110 q) (h:fOf p=fOf q):p=q:=by have h1:=ZvJ p q (hp.wq (by omega)) (hq.wq (by omega));have h2:=ZvJ p p (hp.wq (by omega)) (hp.wq (by omega));rw[h]at h1 h2;rw[h1]at h2;have:=ZD1 h2;rw[decide_eq_true rfl]at this;exact of_decide_eq_true this
theorem ZBD {c:ZnE} {q:Rat} (h:Zpk c=some (fOf q,true)) (hq:Sz 4 q):nv c=some q:=by have hx:∃q,Zpk c=some (fOf q,true)∧Sz 4 q:=⟨q,h,hq⟩;unfold nv;rw[dif_pos hx];have h2:=hx.choose_spec.2;have he:=(Prod.mk.inj (ZD1 (h.symm.trans hx.choose_spec.1))).1;rw[ZAU (hq.mono (by omega)) (h2.mono (by omega)) he]
theorem ZyQ {s:Str} {z:Int} (h:(s,z)∈ZzU):nv (ZnE.mk false s)=some (z:Rat):=by
 have h1:=of_decide_eq_true (List.all_eq_true.1 ZyR _ h);have h2:=List.all_eq_true.1 ZzY _ h;simp only[Bool.and_eq_true,decide_eq_true_eq]at h2;rw[h2.1]at h1;have:=ZBD h1 (ZwI (by decide) h2.2 (by decide))
 rwa [ZvW]at this
def ZwD:List ZnE:=[(ZnE.mk false ([97]:Str)),(ZnE.mk false ([97]:Str)),(ZnE.mk false ([98]:Str))]
def Zwv:List ZnE:=[(ZnE.mk false ([49]:Str)),(ZnE.mk false ([50]:Str)),(ZnE.mk false ([53]:Str))]
theorem ZBx:ZrW ZwD Zwv=[([97],((1:Int):Rat)),([97],((2:Int):Rat)),([98],((5:Int):Rat))]:=by have n1:=ZyQ (s:=[49]) (z:=1) (by simp[ZzU]);have n2:=ZyQ (s:=[50]) (z:=2) (by simp[ZzU]);have n5:=ZyQ (s:=[53]) (z:=5) (by simp[ZzU]);unfold ZrW ZwD Zwv;simp[ZwO,n1,n2,n5]
theorem Zyd {s:Str} (h:s∈Zww):Zu5 (ZnE.mk false s):= .inr ⟨s,h,rfl⟩
theorem ZyZ:∀c∈ZwD,Zu5 c:=by intro c hc;simp only[ZwD,List.mem_cons,List.not_mem_nil,or_false]at hc;rcases hc with rfl |rfl |rfl<;>exact Zyd (by simp[Zww,noT])
theorem ZAo:∀c∈Zwv,Zu5 c:=by intro c hc;simp only[Zwv,List.mem_cons,List.not_mem_nil,or_false]at hc;rcases hc with rfl |rfl |rfl<;>exact Zyd (by simp[Zww,ZzU])
theorem ksA:Zwp (ZrW ZwD Zwv)=[[97],[98]]:=by rw[ZBx];simp[Zwp,Zvm]
theorem lenA:(ZqG ZwD Zwv).length=2:=by unfold ZqG;rw[Zvo];unfold Zmg;rw[List.length_map,ksA];rfl
theorem EnA:En (ZrW ZwD Zwv) [97]=⟨[97],Zxo [97],2,fOf ((3:Int):Rat)⟩:=by
 unfold En;rw[ZBx];have h1:cnt [([97],((1:Int):Rat)),([97],((2:Int):Rat)),([98],((5:Int):Rat))] [97]=2:=by simp[cnt]
 have h2:sm [([97],((1:Int):Rat)),([97],((2:Int):Rat)),([98],((5:Int):Rat))] [97]=((3:Int):Rat):=by simp only[sm,ZvA,ZDV,List.foldl_nil];rw[if_neg (by decide),if_pos trivial,if_pos trivial,Rat.zero_add,←Rat.intCast_add];rfl
 rw[h1,h2];rfl
theorem Zzb:ZoW=some true:=by
 have hlen:=lenA;have hg:=Zw9 (V:=Zwv) ZyZ (by decide);have ht:(ZqG ZwD Zwv).take 10=ZqG ZwD Zwv:=List.take_of_length_le (by omega);have hm:=Zxl (key:=ZnL.mk [] ZwD) (value:=ZnL.mk [] Zwv) ZyZ ZAo (by decide) (by decide) (m:=10) (by decide) (by decide);have hS:mkS ZwD Zwv 10=⟨10,true,ZqG ZwD Zwv⟩:=by unfold mkS;rw[ht,decide_eq_true (show (ZqG ZwD Zwv).length≤10 by omega)];rfl
 dsimp only at hm;rw[hS,show ((10:Nat):Int)=10 from rfl]at hm;unfold ZwD Zwv at hm;refine Zqg ?_;unfold ZoW;rw[hm,ZnH,ZnC];dsimp only;rw[show ((0:Int) != 0)=false from rfl,cond_false,ZBz,cond_false];show wp (bif ((ZqG ZwD Zwv).length:Int) != 2 then _ else _) _;rw[hlen,show (((2:Nat):Int) != 2)=false from rfl,cond_false,ZnH];show wp (Zsx ⟨10,true,ZqG ZwD Zwv⟩) _;have hv:wp (Zsx ⟨10,true,ZqG ZwD Zwv⟩) (fun x=>x=true):=by unfold Zsx Zqn;dsimp only;rw[hlen,show decide ((10:Int) < 1)=false from rfl,cond_false,show decide ((10:Int) > 256)=false from rfl,cond_false,show decide (((2:Nat):Int) > 10)=false from rfl,cond_false,ZBz,cond_false,cond_false,ZnH];have:=ZyD (s:=⟨10,true,ZqG ZwD Zwv⟩) (Zyc _ _) hg (by dsimp only;omega);dsimp only at this;rw[hlen]at this;refine Zn7 this ?_;rintro _ rfl;unfold Zt1;rw[ZnC]
 refine Zn7 hv ?_;rintro _ rfl;unfold ZoE;rw[ZBz,cond_false,ZnH];show wp (ZoD big (ZqG ZwD Zwv) ((ZqG ZwD Zwv).length:Int) 0) _;refine Zn7 (Zvy Zud (ZqG ZwD Zwv) (by omega) (fun i (_:Unit)=>(ZqG ZwD Zwv,((ZqG ZwD Zwv).length:Int),i)) (fun _ _=>True) (Q:=fun x=>x= .brk ()) () trivial ?_ ?_) ?_
 ·rintro rec k _ hk _ ih;unfold ZqO ZpA Zo5;dsimp only;obtain⟨k',_,he⟩:=ZwT.1 (ZDX hk);rw[decide_eq_true (show (k:Int) < ((ZqG ZwD Zwv).length:Int) by omega),cond_true,Zua hk,ZnH,ZnC,Zob];refine⟨fun hc=> ?_,fun _=> ?_⟩
  ·have hk':k'=[97]:=by rw[←he]at hc;exact eq_of_beq hc
   rw[hk',EnA]at he;rw[←he];dsimp only;have hz:Sz 5 ((3:Int):Rat):=by rw[←ZvW];exact ZvI (k:=5) (by decide) (by decide) (by decide)
   rw[show ((2:Int) != 2)=false from rfl,cond_false,ZzD 3 (by decide) (by decide),ZnH,ZnC,ZvJ _ _ (hz.wq (by omega)) (hz.wq (by omega)),ZnH,ZnC,decide_eq_true rfl,ZBz,cond_false,ZnJ];exact⟨ZnP (by omega),ih () trivial⟩
  ·rw[cond_false,ZnJ];exact⟨ZnP (by omega),ih () trivial⟩
 ·rintro rec _ _;unfold ZqO ZpA;dsimp only;rw[decide_eq_false (show ¬((ZqG ZwD Zwv).length:Int) < ((ZqG ZwD Zwv).length:Int) by omega),cond_false,ZnC]
 ·rintro _ rfl;unfold Zq9;dsimp only;rw[ZxT (by decide),ZnH,ZnC,ZnC];rfl
theorem Zzs {K V:List ZnE} (hl:K.length=V.length) (i:Nat):(ZrW K V).Perm (ZrW (K.drop i++K.take i) (V.drop i++V.take i)):=by
 unfold ZrW;rw[List.zip_append (by rw[ZDZ,ZDZ];omega)];have h:K.zip V=(K.take i).zip (V.take i)++(K.drop i).zip (V.drop i):=by rw[←List.zip_append (by rw[ZD0,ZD0];omega),List.take_append_drop,List.take_append_drop]
 rw[h];exact List.Perm.filterMap _ List.perm_append_comm
theorem Zzt {a:ZnF} (h:a.Entries.Pairwise Lt) (hg:∀e∈a.Entries,ZzL e) (hn:a.Entries.length≤100):ZnT false a=some true:=by
 refine Zqg ?_;unfold ZnT Zub;rw[cond_false,ZnH,ZnH];refine Zn7 (Zzu h hg hn) ?_;rintro _ ⟨out,rfl,hlen,hp⟩;unfold Zt2 Ztc;dsimp only;rw[Zzl hn,ZnH,ZnC];have fin:wp (bif ((out.length:Int) != (a.Entries.length:Int))then Zog true out else Zog (!(a.All == a.All)) out) (fun x=>x=true):=by
  unfold Zog;rw[hlen,show ((a.Entries.length:Int) != (a.Entries.length:Int))=false by simp,cond_false,show (a.All == a.All)=true by simp,ZBz,cond_false,ZnH];have:=Zvy ZtD out (by omega) (fun i (_:Unit)=>((out.length:Int),i,out)) (fun _ _=>True) (Q:=fun x=>x= .brk ()) () trivial (by
   rintro rec k _ hk _ ih;obtain⟨q,h1,h2,hw⟩:=hp _ (ZDX hk);unfold ZpO ZoO;dsimp only;rw[decide_eq_true (show (k:Int) < (out.length:Int) by omega),cond_true,ZnJ,Int.toNat_natCast,List.getElem?_eq_getElem hk,ZnH,ZnC,ZnJ,ZnJ,h1,h2,ZvJ _ _ hw hw,ZnH,ZnC,decide_eq_true rfl,ZBz,cond_false,ZnJ];exact⟨ZxR hk,rfl,rfl,ZnP (by omega),ih () trivial⟩) (by
   rintro rec _ _;unfold ZpO ZoO;dsimp only;rw[decide_eq_false (show ¬(out.length:Int) < (out.length:Int) by omega),cond_false,ZnC])
  rw[←hlen];refine Zn7 this ?_;rintro _ rfl;unfold Zp8;dsimp only;rw[Zzb,ZnH,ZnC,ZnC]
 rw[Zob];refine⟨fun hA=> ?_,fun hA=> ?_⟩
 ·rw[ZnC];dsimp only;rw[hA]at fin;rw[hA];exact fin
 ·rw[ZnH,ZnC,ZnC];dsimp only;exact fin
theorem sketchRows_law (t:List Int) (k turn:Int):ZpB t k turn=some true:=by
 refine Zqg ?_;unfold ZpB Zrj;rw[ZnH,ZnC,Zob];refine⟨fun _=>by rw[Zzb,ZnH,ZnC,ZnC],fun hl=> ?_⟩;simp only[Bool.not_eq_false',decide_eq_true_eq]at hl;unfold Zrx;rw[ZnH,ZnC,ZnH];refine Zn7 (Zwy (d:=⟨t,0⟩) ⟨by simp,by simp,by simp only;omega⟩ (n:=12) (by omega)) ?_;rintro⟨m,d1⟩ ⟨hm,hd1⟩;dsimp only at hm hd1⊢
 obtain⟨m,rfl⟩:=ZDU hm.1;rw[ZnJ,show 1+(m:Int)=((1+m:Nat):Int) by omega,ZnH];refine⟨ZnP (by omega),Zn7 (ZxF hd1 (1+m) (by omega)) ?_⟩;rintro⟨key,d2⟩ ⟨⟨hkl,hk⟩,hd2⟩;dsimp only at hkl hk hd2⊢
 rw[ZnH];refine Zn7 (ZxF hd2 (1+m) (by omega)) ?_;rintro⟨value,d3⟩ ⟨⟨hvl,hv⟩,hd3⟩;dsimp only at hvl hv hd3⊢
 rw[ZnH];refine Zn7 (ZyU turn (m:=((1+m:Nat):Int)) (by omega)) fun i hi=> ?_
 obtain⟨i,rfl⟩:=ZDU hi.1;rw[ZnJ,ZnJ,ZnJ,ZnJ,ZnJ,ZnJ,ZnJ,ZnJ,ZnH,Int.toNat_natCast];refine⟨ZsJ (by omega),ZtI (by rw[ZDZ];omega),ZsJ (by omega),ZtI (by rw[ZDZ,ZD0];omega),ZsJ (by omega),ZtI (by rw[ZDZ];omega),ZsJ (by omega),ZtI (by rw[ZDZ,ZD0];omega), ?_⟩;refine Zn7 (ZyU k (m:=6) (by omega)) fun z hz=> ?_
 obtain⟨z,rfl⟩:=ZDU hz.1;have hlr:(key.Cells.drop i++key.Cells.take i).length=(value.Cells.drop i++value.Cells.take i).length:=by rw[ZDY,ZDY,ZDZ,ZDZ,ZD0,ZD0];omega
 have hk2:∀c∈key.Cells.drop i++key.Cells.take i,Zu5 c:=fun c hc=>hk c (by
  rcases List.mem_append.1 hc with h |h
  ·exact List.mem_of_mem_drop h
  ·exact List.mem_of_mem_take h)
 have hv2:∀c∈value.Cells.drop i++value.Cells.take i,Zu5 c:=fun c hc=>hv c (by
  rcases List.mem_append.1 hc with h |h
  ·exact List.mem_of_mem_drop h
  ·exact List.mem_of_mem_take h)
 have hK:ZqG (key.Cells.drop i++key.Cells.take i) (value.Cells.drop i++value.Cells.take i)=ZqG key.Cells value.Cells:=(Zyp (Zzs (by omega) i)).symm;rw[ZnJ,show 1+(z:Int)=((1+z:Nat):Int) by omega,Zxl hk hv (by omega) (by omega) (m:=1+z) (by omega) (by omega),ZnH,ZnC,
  Zxl (key:=⟨[],key.Cells.drop i++key.Cells.take i⟩) (value:=⟨[],value.Cells.drop i++value.Cells.take i⟩) hk2 hv2 (by dsimp only;rw[ZDY,ZDZ,ZD0];omega) hlr (m:=1+z) (by omega) (by omega),ZnH,ZnC,ZnJ,
  show ((1+z:Nat):Int)+2=((3+z:Nat):Int) by omega,Zxl hk hv (by omega) (by omega) (m:=3+z) (by omega) (by omega),ZnH,ZnC]
 dsimp only;have hgood:∀e∈ZqG key.Cells value.Cells,ZzL e:=Zw9 hk (by omega);have hlt:=Zyc key.Cells value.Cells;have hkn:(ZqG key.Cells value.Cells).length≤12:=Nat.le_trans ZyY (by omega);have hga:∀e∈(mkS key.Cells value.Cells (1+z)).Entries,ZzL e:=fun e he=>hgood e (List.mem_of_mem_take he)
 have hla:(mkS key.Cells value.Cells (1+z)).Entries.length≤12:=by show ((ZqG key.Cells value.Cells).take (1+z)).length≤12;rw[ZD0];omega
 have hb:mkS (key.Cells.drop i++key.Cells.take i) (value.Cells.drop i++value.Cells.take i) (1+z)=mkS key.Cells value.Cells (1+z):=by unfold mkS;rw[hK]
 have hca:((mkS key.Cells value.Cells (3+z)).Entries.take (mkS key.Cells value.Cells (1+z)).Entries.length)=(mkS key.Cells value.Cells (1+z)).Entries:=by
  show ((ZqG key.Cells value.Cells).take (3+z)).take ((ZqG key.Cells value.Cells).take (1+z)).length=(ZqG key.Cells value.Cells).take (1+z);rw[List.take_take,ZD0]
  by_cases h:(ZqG key.Cells value.Cells).length≤1+z
  ·rw[show min (min (1+z) (ZqG key.Cells value.Cells).length) (3+z)=(ZqG key.Cells value.Cells).length by omega,List.take_length,List.take_of_length_le h]
  ·rw[show min (min (1+z) (ZqG key.Cells value.Cells).length) (3+z)=1+z by omega]
 have hcl:(mkS key.Cells value.Cells (1+z)).Entries.length≤(mkS key.Cells value.Cells (3+z)).Entries.length:=by show ((ZqG key.Cells value.Cells).take (1+z)).length≤((ZqG key.Cells value.Cells).take (3+z)).length;rw[ZD0,ZD0];omega
 rw[hb,show ((0:Int) != 0)=false from rfl,cond_false,cond_false,cond_false,Zx3 rfl rfl rfl hga (by omega),ZnH,ZnC,ZBz,cond_false,decide_eq_false (by omega),cond_false,ZnJ,Int.toNat_natCast,hca];refine⟨ZnP (by omega),ZnP (by omega),ZsJ (by omega), ?_⟩;rw[Zx3 (a:=⟨((1+z:Nat):Int),(mkS key.Cells value.Cells (1+z)).All,(mkS key.Cells value.Cells (1+z)).Entries⟩) (b:=mkS key.Cells value.Cells (1+z)) rfl rfl rfl hga (by dsimp only;omega),ZnH,ZnC,ZBz,Zzt ?_ hga (by omega),ZnC];show ((ZqG key.Cells value.Cells).take (1+z)).Pairwise Lt;exact hlt.sublist (List.take_sublist _ _)
end Go.Proofs
namespace Eng
open Go Go.Lib
theorem globOk_one {Pg:Program} {w:World} {n:String} {g:Nat} {t e:TypeId} {k:IntKind} {z:Int} (hn:Pg.globalNamed n=some g) (hty:(Pg.globals[g]?).map (·.type)=some t)
  (ht:Pg.underlying t=some (.slice e)) (he:Pg.underlying e=some (.int k)) (hce:Pg.cellsOf e=1) (hz:k.min≤z∧z≤k.max)
  (h:VarReads Pg w n (.slice [.lit (.int k z)] [])):Zej w (fun b=>b < w.heap.size) g [P.sl 1 [.int k z]]:=by
 obtain⟨g',t',cs,fuel,p,hg,hty',hvar,hd⟩:=h;obtain rfl:=ZD1 (hn.symm.trans hg);obtain rfl:=ZD1 (hty.symm.trans hty');rcases DataW.trod_slice ht hd with ⟨_,hx⟩ |⟨a,len,cap,elems,rest,m,_,hcs,hx,_,hl,hcap,hlen,hel,_,_⟩
 ·cases congrArg Prod.fst hx
 ·have e0:=congrArg Prod.fst hx;simp only[DataW.slice.injEq]at e0;obtain⟨e1,_⟩:=e0
  match elems,e1 with
  | [(d,q)],e1=>
   simp only[List.map_cons,List.map_nil,List.cons.injEq,and_true]at e1;subst e1;have hlen1:len=1:=by simpa using hlen.symm
   subst hlen1;obtain⟨ci,hci,htr⟩:=Option.bind_eq_some_iff.1 (hel 0 (by decide));obtain⟨z',hc,hxx,_⟩:=DataW.trod_int he htr;have hzz:z'=z:=by have:=congrArg Prod.fst hxx;simpa using this.symm
   subst hzz;subst hc;rw[hce,Nat.zero_mul]at hci;obtain⟨_,_,hc2⟩:=World.cells?_some hci;have h0:=hc2 0 (by decide);have hb:w.cell? a=some (.int k z'):=by simpa[Addr.add]using h0
   have hspot:a.spot=none:=by
    unfold World.cell? at hb;cases hs:a.spot with
    |none=>rfl
    |some s=>rw[hs]at hb;split at hb<;>simp at hb
   have ha:a=⟨a.block,a.off,none⟩:=by cases a;simp at hspot;subst hspot;rfl
   have hlt:a.block < w.heap.size:=ZjV (by rw[ha]at hb;exact hb);have hcs1:cs.size=1:=by have:=congrArg List.length hcs;simpa using this
   refine ZvR (t:=0) (fr:= #[]) (ZwM hn hvar) _ (by rw[hcs1];rfl) fun j v p hv hp=> ?_
   have hj:j=0:=by have:=(Array.getElem?_eq_some_iff.1 hv).1;omega
   subst hj;simp only[ZDW,Option.some.injEq]at hp;subst hp;rw[←Array.getElem?_toList,hcs]at hv;simp only[ZDW,Option.some.injEq]at hv;subst hv;refine⟨.sl (some a) 1 cap _ _ (fun _=> .int k z') rfl (by decide) hl (fun i hi=>rfl) (fun i hi=> ?_) (fun i x hx=> ?_),rfl⟩
   ·have hi0:i=0:=by omega
    subst hi0;refine⟨a.block,a.off,by rw[←ha],hlt,fun j v hv=> ?_⟩;have hj:=(Array.getElem?_eq_some_iff.1 hv).1;have hj0:j=0:=by have:(Value.int k z').cells.size=1:=rfl;omega
    subst hj0;have hvv:v= .int k z':=by have:(Value.int k z').cells[0]? =some (.int k z'):=rfl;exact ZD1 (hv.symm.trans this)
    subst hvv;rw[ha]at hb;simpa using hb
   ·have hi0:i=0:=by have:=(List.getElem?_eq_some_iff.1 hx).1;simp at this;omega
    subst hi0;simp only[ZDW,Option.some.injEq]at hx;subst hx;exact .int k z' hz.1 hz.2
end Eng
