/- Plain laws over the specs, part 2. -/
import Derived.Test.YtamebpdbedglkaaGreatDoorMgM1
import Derived.Test.YtamebpdbedglkaaGreatDoorMgM0
import Derived.Test.YtamebpdbedglkaaGreatDoorQ
set_option linter.unusedVariables false
set_option linter.unusedSimpArgs false
set_option linter.unusedSectionVars false
open Bool renaming not_true→ZFQ, not_false→ZDq
open Int renaming toNat_natCast→ZFS, eq_ofNat_of_zero_le→ZFR
open List renaming mem_cons→ZGb, length_take→ZF6, all_eq_true→ZFT, length_map→ZF4, foldl_cons→ZFV, mem_map→ZGe, length_cons→ZF0, getElem_mem→ZFY, length_singleton→ZF5, pairwise_cons→ZGh, mem_of_mem_take→ZGf, mem_append→ZGa, mem_filter→ZGd, mem_cons_of_mem→ZGc, take_succ_cons→ZGn, take_sublist→ZGm, length_append→ZFZ, map_cons→ZF9, length_filterMap_le→ZF2, length_zip→ZF7, map_append→ZF8, take_length→ZGk, take_of_length_le→ZGl, length_drop→ZF1, not_mem_nil→ZGg, getElem?_eq_some_iff→ZFX, pairwise_map→ZGi, take_append_drop→ZGj, take_succ_eq_append_getElem→ZGo, countP_le_length→ZFU, length_filter_le→ZF3, getElem?_cons_zero→ZFW
open Nat renaming le_trans→ZGp
open Option renaming bind_some→ZGq, some.inj→ZGr
namespace Go.Proofs
open Go Eng
theorem ZxZ {x y:Int} (hy:y≠0) (h1:x.natAbs < 16) (h2:y.natAbs < 16):Sz 4 (Rat.divInt x y):=Zx4 (k:=4) hy h1 h2
theorem ZFx:ZrF [48]=Zsx false [] [1] false false [] []:=by kernel_rfl
theorem dec0:ZrF [48]=some (fOf (Rat.divInt 0 1),true):=by
 rw[ZFx];unfold Zsx;have e0:iL (wd 0)=[]:=by kernel_rfl
 have e1:iL (wd 1)=[1]:=by kernel_rfl
 have l0:Nat.ble (wd 0).length 50000=true:=by kernel_rfl
 have l1:Nat.ble (wd 1).length 50000=true:=by kernel_rfl
 have w0:=Nat.le_of_ble_eq_true l0;have w1:=Nat.le_of_ble_eq_true l1;have h1:=Ztq false 0 (by omega);have h2:=Ztq false 1 (by omega);rw[e0]at h1;rw[e1]at h2;rw[h1,ZGq,h2,ZGq];have:=ZwW 0 1 (by decide) w0 w1;simp only[Bool.false_eq_true,if_false];rw[show ((0:Nat):Int)=0 from rfl,show ((1:Nat):Int)=1 from rfl,this,ZGq]
theorem can0:Zs3 4 [48]=some ([48],true):=by
 have h:Zs3 4 [48]=(ZtR [48]).bind fun(a,b)=>some (a,b):=by kernel_rfl
 rw[h];unfold ZtR;rw[dec0];show _=_
 kernel_rfl
theorem valZ:Zp6 (ZnE.mk false [48])=some (fOf (Rat.divInt 0 1),true):=by
 unfold Zp6 ZvM;rw[can0];dsimp only;rw[cond_false,ZGq];dsimp only;rw[ZFQ,cond_false,dec0];show _=_
 kernel_rfl
def ZBD:List (Str×Int):=[([45,51], -3),([45,50], -2),([45,49], -1),([49],1),([50],2),([51],3),([52],4),([53],5),([54],6),([55],7),([56],8),([49,48],10)]
def ZCE:List (Str×Int):=[([45,49,46,53], -3),([49,46,53,48],3)]
def noT:List Str:=[[97],[98],[99],[100],[120],[],[49,46,50,46,51],[107,48],[107,49],[107,50],[107,51],[107,52],[107,53],[107,54],[107,55],[107,56],[107,57],[107,49,48],[107,49,49],[107,49,50],[107,49,51]]
def fx (n:Int) (d:Int):ZnG:=⟨⟨decide (n < 0),if n=0 then []else [(n.natAbs:Int)]⟩,⟨false,[d]⟩⟩
theorem ZAx:(ZBD.all fun p=>decide (Zp6 (ZnE.mk false p.1)=some (fx p.2 1,true)))=true:=by kernel_rfl
theorem ZBl:(ZCE.all fun p=>decide (Zp6 (ZnE.mk false p.1)=some (fx p.2 2,true)))=true:=by kernel_rfl
theorem ZDv:(noT.all fun s=>match Zp6 (ZnE.mk false s)with |some (_,false)=>true |_=>false)=true:=by kernel_rfl
theorem ZBH:(ZBD.all fun p=>decide (fx p.2 1=fOf (Rat.divInt p.2 1))&&decide (p.2.natAbs < 16))=true:=by kernel_rfl
theorem ZCJ:(ZCE.all fun p=>decide (fx p.2 2=fOf (Rat.divInt p.2 2))&&decide (p.2.natAbs < 16))=true:=by kernel_rfl
def ZxD:List Str:=[48]::(ZBD.map (·.1)++ZCE.map (·.1)++noT)
def Zu8 (c:ZnE):Prop:=c=ZnE.mk true []∨∃s∈ZxD,c=ZnE.mk false s
theorem ZzC {c:ZnE} (h:Zu8 c):(∃q,Zp6 c=some (fOf q,true)∧Sz 4 q)∨(∃f,Zp6 c=some (f,false)):=by
 rcases h with rfl |⟨s,hs,rfl⟩
 ·refine .inr ⟨fOf 0, ?_⟩;unfold Zp6;dsimp only;rw[cond_true,ZAd];rfl
 ·rcases ZGb.1 hs with rfl |hs
  ·exact .inl ⟨_,valZ,ZxZ (by decide) (by decide) (by decide)⟩
  ·rcases ZGa.1 hs with hs |hs
   ·rcases ZGa.1 hs with hs |hs
    ·obtain⟨p,hp,rfl⟩:=ZGe.1 hs;have h1:=of_decide_eq_true (ZFT.1 ZAx p hp);have h2:=ZFT.1 ZBH p hp;simp only[Bool.and_eq_true,decide_eq_true_eq]at h2;rw[h2.1]at h1;exact .inl ⟨_,h1,ZxZ (by decide) h2.2 (by decide)⟩
    ·obtain⟨p,hp,rfl⟩:=ZGe.1 hs;have h1:=of_decide_eq_true (ZFT.1 ZBl p hp);have h2:=ZFT.1 ZCJ p hp;simp only[Bool.and_eq_true,decide_eq_true_eq]at h2;rw[h2.1]at h1;exact .inl ⟨_,h1,ZxZ (by decide) h2.2 (by decide)⟩
   ·have h1:=ZFT.1 ZDv s hs;split at h1;rotate_left;simp at h1;rename_i f hf;exact .inr ⟨f,hf⟩
open Classical in
noncomputable def nv (c:ZnE):Option Rat:=if h:∃q,Zp6 c=some (fOf q,true)∧Sz 4 q then some h.choose else none
theorem ZyM {c:ZnE} {q:Rat} (h:nv c=some q):Zp6 c=some (fOf q,true)∧Sz 4 q:=by unfold nv at h;split at h;rotate_left;simp at h;rename_i hx;obtain rfl:=ZGr h;exact hx.choose_spec
theorem ZCt {c:ZnE} (hc:Zu8 c) (h:nv c=none):∃f,Zp6 c=some (f,false):=by
 unfold nv at h;split at h
 ·simp at h
 ·rename_i hx;exact(ZzC hc).resolve_left hx
theorem ZyE {d:ZnF} (hd:Zwf d) {l:List Str} (h0:1≤l.length) (h1:l.length≤1000):wp (ZoE d l) (fun r=>r.1∈l∧Zwf r.2):=by
 unfold ZoE;rw[ZnD];refine ZnX (ZxI hd (by omega)) fun⟨q,d1⟩ ⟨hq,hd1⟩=> ?_
 dsimp only at hq hd1⊢
 rw[ZnD,ZBu];refine⟨hq.1,by omega, ?_⟩;rw[ZnB];exact⟨ZFY _,hd1⟩
theorem Zy0:([([97]:Str),([98]:Str),([99]:Str),([49]:Str),([50]:Str),([51]:Str),([49,48]:Str),([120]:Str),([45,49,46,53]:Str),([50]:Str),[100],[],([49,46,50,46,51]:Str),([49,46,53,48]:Str)]:List Str).all (fun s=>ZxD.contains s)=true:=by kernel_rfl
theorem Zyq:(((List.range 12).map fun i:Nat=>Lib.itoa ((i:Int) - 3))++(List.range 14).map fun i:Nat=>([107]:Str)++Lib.itoa (i:Int)).all (fun s=>ZxD.contains s)=true:=by kernel_rfl
theorem Zxv {s:Str} (h:ZxD.contains s=true):Zu8 (ZnE.mk false s):= .inr ⟨s,List.contains_iff_mem.1 h,rfl⟩
theorem ZCN {d:ZnF} (hd:Zwf d):wp (Zrz d) (fun r=>Zu8 r.1∧Zwf r.2):=by
 unfold Zrz;rw[ZnD];refine ZnX (ZxI hd (by omega)) fun⟨q,d1⟩ ⟨hq,hd1⟩=> ?_
 dsimp only at hq hd1⊢
 rw[Zop];refine⟨fun _=> ?_,fun _=> ?_⟩
 ·rw[ZnB];exact⟨.inl rfl,hd1⟩
 ·rw[ZnD];refine ZnX (ZyE hd1 (by decide) (by decide)) fun⟨s,d2⟩ ⟨hs,hd2⟩=> ?_
  dsimp only at hs hd2⊢
  rw[ZnB];refine⟨Zxv (ZFT.1 Zy0 s ?_),hd2⟩;simp only[ZGb,ZGg,or_false]at hs⊢
  rcases hs with h |h |h |h |h |h |h |h |h |h<;>simp[h]
theorem Zz5 {n:Int} (h: -3≤n∧n≤8):ZxD.contains (Lib.itoa n)=true:=by refine ZFT.1 Zyq _ (List.mem_append_left _ (ZGe.2 ⟨(n+3).toNat,List.mem_range.2 (by omega), ?_⟩));rw[show (((n+3).toNat:Nat):Int) - 3=n by omega]
theorem ZCB {n:Int} (h:0≤n∧n < 14):ZxD.contains (([107]:Str)++Lib.itoa n)=true:=by refine ZFT.1 Zyq _ (List.mem_append_right _ (ZGe.2 ⟨n.toNat,List.mem_range.2 (by omega), ?_⟩));rw[show ((n.toNat:Nat):Int)=n by omega]
theorem ZAv {d:ZnF} (hd:Zwf d):wp (ZqQ d) (fun r=>Zu8 r.1∧Zwf r.2):=by
 unfold ZqQ;rw[ZnD];refine ZnX (ZxI hd (by omega)) fun⟨q,d1⟩ ⟨hq,hd1⟩=> ?_
 dsimp only at hq hd1⊢
 rw[Zop];refine⟨fun _=> ?_,fun _=> ?_⟩
 ·rw[ZnB];exact⟨.inl rfl,hd1⟩
 rw[Zop];refine⟨fun _=> ?_,fun _=> ?_⟩
 ·rw[ZnD];refine ZnX (ZyE hd1 (by decide) (by decide)) fun⟨s,d2⟩ ⟨hs,hd2⟩=> ?_
  dsimp only at hs hd2⊢
  rw[ZnB];refine⟨Zxv (ZFT.1 Zy0 s ?_),hd2⟩;simp only[ZGb,ZGg,or_false]at hs⊢
  rcases hs with h |h |h |h<;>simp[h]
 ·rw[ZnD];refine ZnX (ZxI hd1 (by omega)) fun⟨q,d2⟩ ⟨hq,hd2⟩=> ?_
  dsimp only at hq hd2⊢
  unfold Ztz;rw[ZnH,ZnD,ZnB,ZnB];exact⟨ZnK (by omega),Zxv (Zz5 (by omega)),hd2⟩
theorem abcd:([([97]:Str),([98]:Str),([99]:Str),([100]:Str)]:List Str).all (fun s=>ZxD.contains s)=true:=by kernel_rfl
theorem Zz6 {n:Int} (h:0≤n∧n < 14):(Lib.itoa n).length≤2:=by
 have h1:((List.range 14).all fun i:Nat=>decide ((Lib.itoa (i:Int)).length≤2))=true:=by kernel_rfl
 have:=of_decide_eq_true (ZFT.1 h1 n.toNat (List.mem_range.2 (by omega)))
 rwa [show ((n.toNat:Nat):Int)=n by omega]at this
theorem Zzi {d:ZnF} (hd:Zwf d) (rows:Nat) (hr:rows≤14):
  wp (ZpW d (rows:Int)) (fun r=>(r.1.Cells.length=rows∧∀c∈r.1.Cells,Zu8 c)∧Zwf r.2):=by
 unfold ZpW;rw[ZnD];refine ZnX (ZyE hd (by decide) (by decide)) fun⟨nm,d1⟩ ⟨_,hd1⟩=> ?_
 dsimp only at hd1⊢
 rw[ZnD];refine ZnX (ZxI hd1 (by omega)) fun⟨kind,d2⟩ ⟨_,hd2⟩=> ?_
 dsimp only at hd2⊢
 rw[ZnD];refine ZnX (ZtC Zvz rows (by omega) (fun i (t:ZnF×List ZnE)=>(kind,(rows:Int),i,t.1,([]:Str),nm,([]:List ZnE),t.2))
  (fun k t=>Zwf t.1∧t.2.length=k∧∀c∈t.2,Zu8 c) (Q:=fun x=>Zwf x.1∧x.2.2.2.2.length=rows∧∀c∈x.2.2.2.2,Zu8 c) (d2,[]) ⟨hd2,rfl,fun c hc=>absurd hc (by simp)⟩ ?_ ?_) ?_
 ·rintro rec k ⟨d,cs⟩ hk ⟨hd,hlen,hcs⟩ ih;dsimp only at hd hlen hcs ih;have next:∀(x:ZnE) (d':ZnF),Zu8 x→Zwf d'→wp (ZoV (fun kind t15 i d t4 c t4_1 c_1=>rec (kind,t15,i,d,t4,c,t4_1,c_1)) kind (rows:Int) (k:Int) d' [] nm x [] cs) (fun x=>Zwf x.1∧x.2.2.2.2.length=rows∧∀c∈x.2.2.2.2,Zu8 c):=by
   intro x d' hx hd';unfold ZoV;rw[ZnH,ZnH];refine⟨Zua (by rw[ZF5];omega),ZnK (by omega),ih (d',cs++[x]) ⟨hd',by dsimp only;rw[ZFZ,ZF5];omega,fun c hc=> ?_⟩⟩;rcases ZGa.1 hc with hc |hc
   ·exact hcs c hc
   ·obtain rfl:=List.mem_singleton.1 hc;exact hx
  unfold ZrR ZqI;dsimp only;rw[decide_eq_true (show (k:Int) < (rows:Int) by omega),cond_true,ZnD];refine ZnX (ZCN hd) fun⟨x,d3⟩ ⟨hx,hd3⟩=> ?_
  dsimp only at hx hd3⊢
  rw[Zop];refine⟨fun _=> ?_,fun _=> ?_⟩
  ·rw[ZnD];exact ZnX (ZAv hd3) fun⟨y,d4⟩ ⟨hy,hd4⟩=>next y d4 hy hd4
  rw[Zop];refine⟨fun _=> ?_,fun _=> ?_⟩
  ·unfold Ztz;have:=Zz6 (n:=(k:Int)) (by omega);rw[ZnD,ZnB,ZnH];exact⟨decide_eq_true (by rw[ZF5];unfold Zq;omega),next _ d3 (Zxv (ZCB (by omega))) hd3⟩
  rw[Zop];refine⟨fun _=> ?_,fun _=> ?_⟩
  ·rw[ZnD];exact ZnX (ZyE hd3 (by decide) (by decide)) fun⟨s,d4⟩ ⟨hs,hd4⟩=>next _ d4 (Zxv (ZFT.1 abcd s hs)) hd4
  ·exact next x d3 hx hd3
 ·rintro rec ⟨d,cs⟩ ⟨hd,hlen,hcs⟩;unfold ZrR ZqI;dsimp only at hd hlen hcs⊢
  rw[decide_eq_false (show ¬(rows:Int) < (rows:Int) by omega),cond_false,ZnB];exact⟨hd,hlen,hcs⟩
 ·rintro⟨d,_,_,_,cs⟩ ⟨h1,h2,h3⟩;unfold Zsm;dsimp only at h1 h2 h3⊢
  rw[ZnB];exact⟨⟨h2,h3⟩,h1⟩
end Go.Proofs
namespace Go.Proofs
open Go Eng
noncomputable def Zx7 (p:ZnE×ZnE):Option (Str×Rat):=if p.1.Null then none else (nv p.2).map fun q=>(p.1.Text,q)
noncomputable def Zq2 (K V:List ZnE):List (Str×Rat):=(K.zip V).filterMap Zx7
def Zwt (ks:List Str) (r:Str×Rat):List Str:=if r.1∈ks then ks else ks++[r.1]
def ZwL (R:List (Str×Rat)):List Str:=R.foldl Zwt []
def cnt (R:List (Str×Rat)) (k:Str):Nat:=R.countP fun r=>r.1 == k
def ZvF (k:Str) (s:Rat) (r:Str×Rat):Rat:=if r.1=k then s+r.2 else s
def sm (R:List (Str×Rat)) (k:Str):Rat:=R.foldl (ZvF k) 0
def En (R:List (Str×Rat)) (k:Str):ZnA:=⟨k,ZxV k,(cnt R k:Int),fOf (sm R k)⟩
theorem Zzd (R:List (Str×Rat)) (r:Str×Rat):ZwL (R++[r])=Zwt (ZwL R) r:=by unfold ZwL;rw[List.foldl_append];rfl
theorem ZAj (R:List (Str×Rat)) (r:Str×Rat) (k:Str):sm (R++[r]) k=ZvF k (sm R k) r:=by unfold sm;rw[List.foldl_append];rfl
theorem ZzW (R:List (Str×Rat)) (r:Str×Rat) (k:Str):cnt (R++[r]) k=cnt R k+if r.1=k then 1 else 0:=by
 unfold cnt;rw[List.countP_append,List.countP_singleton]
 by_cases h:r.1=k
 ·rw[if_pos h,if_pos (by simpa using h)]
 ·rw[if_neg h,if_neg (by simpa using h)]
theorem ZyO {ks:List Str} (h:ks.Nodup) (r:Str×Rat):(Zwt ks r).Nodup:=by
 unfold Zwt;split
 ·exact h
 ·rename_i hn;rw[List.nodup_append];refine⟨h,by simp,fun a ha b hb=> ?_⟩;obtain rfl:=List.mem_singleton.1 hb;rintro rfl;exact hn ha
theorem Zxs:∀(R:List (Str×Rat)) (ks:List Str),ks.Nodup→(R.foldl Zwt ks).Nodup
 | [],_,h=>h
 |r::R,ks,h=>by rw[ZFV];exact Zxs R _ (ZyO h r)
theorem Zvi (R:List (Str×Rat)):(ZwL R).Nodup:=Zxs R [] List.nodup_nil
theorem Zz1 {ks:List Str} {r:Str×Rat} {k:Str}:k∈Zwt ks r↔k∈ks∨k=r.1:=by
 unfold Zwt;split;rotate_left;simp;rename_i h;constructor
 ·exact .inl
 ·rintro(h1 |rfl)
  ·exact h1
  ·exact h
theorem Zyd:∀(R:List (Str×Rat)) (ks:List Str) (k:Str),k∈R.foldl Zwt ks↔k∈ks∨∃r∈R,k=r.1
 | [],_,k=>by simp
 |r::R,ks,k=>by rw[ZFV,Zyd R _ k,Zz1];simp only[ZGb,exists_eq_or_imp,or_assoc]
theorem ZwB {R:List (Str×Rat)} {k:Str}:k∈ZwL R↔∃r∈R,k=r.1:=by unfold ZwL;rw[Zyd];simp
theorem Zye:∀(R:List (Str×Rat)) (ks:List Str),(R.foldl Zwt ks).length≤ks.length+R.length
 | [],_=>by simp
 |r::R,ks=>by
  rw[ZFV];refine ZGp (Zye R _) ?_;unfold Zwt;split
  ·rw[ZF0];omega
  ·rw[ZF0,ZFZ,ZF5];omega
theorem ZyP (R:List (Str×Rat)):(ZwL R).length≤R.length:=by have:=Zye R [];unfold ZwL;simpa using this
theorem ZFb {R:List (Str×Rat)} (h:∀r∈R,Sz 4 r.2) (k:Str):∀(s:Rat) (n:Nat),Sz (5*n+1) s→Sz (5*(n+R.length)+1) (R.foldl (ZvF k) s):=by
 induction R with
 |nil=>intro s n hs;exact hs
 |cons r R ih=>
  intro s n hs;rw[ZFV,ZF0,show n+(R.length+1)=(n+1)+R.length by omega];refine ih (fun r hr=>h r (by simp[hr])) _ (n+1) ?_;unfold ZvF;split
  ·exact(hs.add (h r (by simp))).mono (by omega)
  ·exact hs.mono (by omega)
theorem Zys {R:List (Str×Rat)} (h:∀r∈R,Sz 4 r.2) (k:Str):Sz (5*R.length+1) (sm R k):=by have:=ZFb h k 0 0 ZCi;rw[Nat.zero_add]at this;exact this
theorem Zx0 {K V:List ZnE}:∀r∈Zq2 K V,Sz 4 r.2:=by
 intro r hr;obtain⟨p,_,h⟩:=List.mem_filterMap.1 hr;unfold Zx7 at h;split at h
 ·simp at h
 ·obtain⟨q,hq,rfl⟩:=Option.map_eq_some_iff.1 h;exact(ZyM hq).2
theorem Zzl {R:List (Str×Rat)} {k:Str} (h:k∉ZwL R):cnt R k=0∧sm R k=0:=by
 have hn:∀r∈R,¬r.1=k:=fun r hr e=>h (ZwB.2 ⟨r,hr,e.symm⟩)
 constructor
 ·unfold cnt;rw[List.countP_eq_zero];intro r hr;simpa using hn r hr
 ·have key:∀(R:List (Str×Rat)) (s:Rat),(∀r∈R,¬r.1=k)→R.foldl (ZvF k) s=s:=by
   intro R
   induction R with
   |nil=>intro s _;rfl
   |cons r R ih=>
    intro s h;rw[ZFV,show ZvF k s r=s from if_neg (h r (by simp))];exact ih s fun x hx=>h x (by simp[hx])
  exact key R 0 hn
def mpo:Int→List Str→List (Str×Int)
 |_,[]=>[]
 |o,k::r=>(k,o)::mpo (o+1) r
theorem Zzb (k:Str) (v:Int) (m:List (Str×Int)) (s:Str):Zg3 (k:= .str) (v:=(.int .i64)) (car:=Zu9) ((k,v)::m) s=if s == k then some v else Zg3 (k:= .str) (v:=(.int .i64)) (car:=Zu9) m s:=by
 show (((k,v)::m).find? fun e=>s == e.1).map (·.2)=if s == k then some v else (m.find? fun e=>s == e.1).map (·.2)
 rw[List.find?_cons];cases s == k<;>rfl
theorem ZAz:∀(ks:List Str) (o:Int) (s:Str),s∈ks→∃j:Nat,Zg3 (k:= .str) (v:=(.int .i64)) (car:=Zu9) (mpo o ks) s=some (o+(j:Int))∧ks[j]? =some s
 | [],_,_,h=>absurd h (by simp)
 |k::r,o,s,h=>by
  unfold mpo;rw[Zzb]
  by_cases e:s=k
  ·subst e;exact⟨0,by rw[if_pos (by simp)];simp,rfl⟩
  ·obtain⟨j,h1,h2⟩:=ZAz r (o+1) s ((ZGb.1 h).resolve_left e);refine⟨j+1, ?_,h2⟩;rw[if_neg (by simpa using e),h1];congr 1;omega
theorem ZzS:∀(ks:List Str) (o:Int) (s:Str),s∉ks→Zg3 (k:= .str) (v:=(.int .i64)) (car:=Zu9) (mpo o ks) s=none
 | [],_,_,_=>rfl
 |k::r,o,s,h=>by unfold mpo;rw[Zzb,if_neg (by intro e;exact h (by simp[eq_of_beq e]))];exact ZzS r _ s fun hs=>h (by simp[hs])
theorem ZzP:∀(ks:List Str) (o:Int) (s:Str),mpo o (ks++[s])=mpo o ks++[(s,o+(ks.length:Int))]
 | [],o,s=>by simp[mpo]
 |k::r,o,s=>by rw[List.cons_append];unfold mpo;rw[ZzP r,List.cons_append,ZF0];congr 3;congr 1;omega
theorem ZAT:∀(ks:List Str) (o:Int) (s:Str),s∉ks→(mpo o ks).any (fun e=>ZlP (car:=Zu9) .str s e.1)=false
 | [],_,_,_=>rfl
 |k::r,o,s,h=>by
  unfold mpo;rw[List.any_cons,ZAT r _ s fun hs=>h (by simp[hs])];have:ZlP (car:=Zu9) .str s k=false:=by show (s == k)=false;rw[beq_eq_false_iff_ne];rintro rfl;exact h (by simp)
  rw[this];rfl
theorem ZCp {ks:List Str} {s:Str} (h:s∉ks):setB (k:= .str) (v:=(.int .i64)) (car:=Zu9) (mpo 0 ks) s (ks.length:Int)=mpo 0 (ks++[s]):=by unfold setB;rw[ZAT _ _ _ h,ZzP];rw[Int.zero_add];rfl
theorem ZAn {β:Type} (f g:Str→β):∀{ks:List Str} {j:Nat} {k:Str},ks.Nodup→ks[j]? =some k→(∀x,x≠k→f x=g x)→(ks.map f).set j (g k)=ks.map g
 | [],_,_,_,h,_=>by simp at h
 |x::ks,0,k,hn,h,hf=>by
  obtain rfl:x=k:=by simpa using h
  rw[ZF9,List.set_cons_zero,ZF9];congr 1;refine List.map_congr_left fun y hy=>hf y ?_
  rintro rfl;exact(List.nodup_cons.1 hn).1 hy
 |x::ks,j+1,k,hn,h,hf=>by
  have h':ks[j]? =some k:=by simpa using h
  have hx:x≠k:=by rintro rfl;exact(List.nodup_cons.1 hn).1 (List.mem_of_getElem? h')
  rw[ZF9,List.set_cons_succ,ZF9,hf x hx,ZAn f g (List.nodup_cons.1 hn).2 h' hf]
end Go.Proofs
namespace Go.Proofs
open Go Eng
def Zmg (R:List (Str×Rat)):List ZnA:=(ZwL R).map (En R)
theorem Zzp:(ZxD.all fun s=>decide (s.length≤100))=true:=by kernel_rfl
theorem ZyC {c:ZnE} (h:Zu8 c):c.Text.length≤1000000:=by
 rcases h with rfl |⟨s,hs,rfl⟩
 ·simp
 ·have:=of_decide_eq_true (ZFT.1 Zzp s hs);dsimp only;omega
theorem ZAA {K V:List ZnE} (hK:∀c∈K,Zu8 c) (hV:∀c∈V,Zu8 c) (hn:K.length≤20) (hl:K.length=V.length) (nm:Str):
  wp (Zq3 big K (K.length:Int) 0 (ZnL.mk nm V) [] []) (fun x=>x=Zmg (Zq2 K V)):=by
 refine ZwT Zxf K (by omega) (fun i (t:List (Str×Int)×List ZnA)=>(K,(K.length:Int),i,ZnL.mk nm V,t.1,t.2))
  (fun k t=>t.1=mpo 0 (ZwL (Zq2 (K.take k) (V.take k)))∧t.2=Zmg (Zq2 (K.take k) (V.take k))) (Q:=fun x=>x=Zmg (Zq2 K V)) ([],[]) ⟨rfl,rfl⟩ ?_ ?_
 ·rintro rec k ⟨at_,out⟩ hk ⟨ha,ho⟩ ih;dsimp only at ha ho ih;subst ha ho;have hkv:k < V.length:=by omega
  have hrl:(Zq2 (K.take k) (V.take k)).length≤k:=by unfold Zq2;refine ZGp (ZF2 _ _) ?_;rw[ZF7,ZF6];omega
  have hsz:∀r∈Zq2 (K.take k) (V.take k),Sz 4 r.2:=Zx0;have hstep:Zq2 (K.take (k+1)) (V.take (k+1))=Zq2 (K.take k) (V.take k)++(Zx7 (K[k],V[k])).toList:=by unfold Zq2;rw[ZGo hk,ZGo hkv,List.zip_append (by rw[ZF6,ZF6];omega),List.filterMap_append];congr 1
  unfold ZuT ZtH;dsimp only;rw[decide_eq_true (show (k:Int) < (K.length:Int) by omega),cond_true,Zu4 hk,ZnD,ZnB,Zu4 hkv,ZnD,ZnB,ZnD];generalize hR:Zq2 (K.take k) (V.take k)=R at*
  have skip:∀(v:ZnG),Zx7 (K[k],V[k])=none→wp (ZrK (fun t15 t16 i value at_ out=>rec (t15,t16,i,value,at_,out)) K (K.length:Int) (k:Int) true (ZnL.mk nm V) (mpo 0 (ZwL R)) (Zmg R) K[k] v) (fun x=>x=Zmg (Zq2 K V)):=by intro v hr;unfold ZrK Ztt;rw[cond_true,ZnH];refine⟨ZnK (by omega),ih (mpo 0 (ZwL R),Zmg R) ?_⟩;rw[hstep,hr];simp
  have take1:∀(q:Rat),Sz 4 q→Zx7 (K[k],V[k])=some (K[k].Text,q)→wp (ZrK (fun t15 t16 i value at_ out=>rec (t15,t16,i,value,at_,out)) K (K.length:Int) (k:Int) false (ZnL.mk nm V) (mpo 0 (ZwL R)) (Zmg R) K[k] (fOf q)) (fun x=>x=Zmg (Zq2 K V)):=by
   intro q hq hr;have hnew:Zq2 (K.take (k+1)) (V.take (k+1))=R++[(K[k].Text,q)]:=by rw[hstep,hr];rfl
   have hkl:=ZyP R;have hkl':=ZyP (R++[(K[k].Text,q)]);rw[ZFZ,ZF5]at hkl';have upd:∀(j:Nat) (ks:List Str),ks=ZwL (R++[(K[k].Text,q)])→ks[j]? =some K[k].Text→
     wp (Ztu (fun t15 t16 i value at_ out=>rec (t15,t16,i,value,at_,out)) (j:Int) K (K.length:Int) (k:Int) (ZnL.mk nm V) (mpo 0 ks) (ks.map (En R)) (fOf q)) (fun x=>x=Zmg (Zq2 K V)):=by
    intro j ks hks hj;have hjl:j < ks.length:=(ZFX.1 hj).1;have hjm:j < (ks.map (En R)).length:=by rw[ZF4];exact hjl
    have hkj:ks[j]=K[k].Text:=(ZFX.1 hj).2;have hg:(ks.map (En R))[j]? =some (En R K[k].Text):=by rw[List.getElem?_map,hj];rfl
    have hc:cnt R K[k].Text≤R.length:=ZFU;have hs:=Zys hsz K[k].Text;unfold Ztu Ztt;rw[ZnH,ZFS,hg,ZnD,ZnB,ZnH,ZnH,ZnD,ZnB,ZnH,List.getElem?_set_self hjm,ZnD,ZnB];dsimp only[En];rw[Zy8 hs hq (by omega),ZnD,ZnB,ZnH,ZnD,ZnB,ZnH];dsimp only;refine⟨Zte hjm,ZnK (by omega),Zte hjm,ZpF ⟨by omega,by rw[List.length_set];omega⟩,ZpF ⟨by omega,by rw[List.length_set];omega⟩,ZnK (by omega), ?_⟩;rw[List.set_set];refine ih (_,_) ⟨?_, ?_⟩
    ·dsimp only;rw[hnew,hks]
    ·dsimp only;rw[hnew];unfold Zmg;rw[←hks];have he:ZnA.mk K[k].Text (ZxV K[k].Text) ((cnt R K[k].Text:Int)+1) (fOf (sm R K[k].Text+q))=En (R++[(K[k].Text,q)]) K[k].Text:=by unfold En;rw[ZzW,ZAj,if_pos rfl];unfold ZvF;rw[if_pos rfl];congr 1
     rw[he];refine ZAn (En R) (En (R++[(K[k].Text,q)])) (by rw[hks];exact Zvi _) hj fun x hx=> ?_
     unfold En;rw[ZzW,ZAj,if_neg (fun e=>hx e.symm)];unfold ZvF;rw[if_neg (fun e=>hx e.symm),Nat.add_zero]
   unfold ZrK;rw[cond_false]
   by_cases hin:K[k].Text∈ZwL R
   ·obtain⟨j,h1,h2⟩:=ZAz (ZwL R) 0 K[k].Text hin;rw[Int.zero_add]at h1;rw[h1,show (some (j:Int)).isSome=true from rfl,ZFQ,cond_false,show ((some (j:Int)).getD (0:Int))=(j:Int)from rfl];have hks:ZwL R=ZwL (R++[(K[k].Text,q)]):=by rw[Zzd];unfold Zwt;rw[if_pos hin]
    exact upd j _ hks h2
   ·rw[ZzS _ _ _ hin,show (none:Option Int).isSome=false from rfl,ZDq,cond_true,Zzw (ZyC (hK _ (ZFY hk))),ZnD,ZnB,ZAd,ZnD,ZnB,ZnH];refine⟨Zua (by unfold Zmg;rw[ZF4,ZF5];omega), ?_⟩;have hks:ZwL R++[K[k].Text]=ZwL (R++[(K[k].Text,q)]):=by rw[Zzd];unfold Zwt;rw[if_neg hin]
    have hl1:((Zmg R).length:Int)=((ZwL R).length:Int):=by unfold Zmg;rw[ZF4]
    have ho1:Zmg R++[ZnA.mk K[k].Text (ZxV K[k].Text) 0 (fOf 0)]=(ZwL R++[K[k].Text]).map (En R):=by unfold Zmg;rw[ZF8];congr 1;have:=Zzl hin;show [_]=[En R K[k].Text];unfold En;rw[this.1,this.2];rfl
    rw[hl1,ZCp hin,ho1];exact upd (ZwL R).length _ hks (by simp)
  rcases ZzC (hV _ (ZFY hkv))with ⟨q,hv,hq⟩ |⟨f,hv⟩
  ·rw[hv,ZnB];dsimp only;cases hnull:K[k].Null with
   |true=>
    rw[cond_true];exact skip _ (by unfold Zx7;rw[if_pos hnull])
   |false=>
    rw[cond_false,ZFQ];cases hnv:nv V[k]with
    |none=>
     obtain⟨f,hf⟩:=ZCt (hV _ (ZFY hkv)) hnv;rw[hv]at hf;simp at hf
    |some q'=>
     have:=(ZyM hnv).1;rw[hv]at this;have he:fOf q=fOf q':=(Prod.mk.inj (ZGr this)).1;rw[he];exact take1 q' (ZyM hnv).2 (by unfold Zx7;rw[if_neg (by simp[hnull])];dsimp only;rw[hnv];rfl)
  ·rw[hv,ZnB];dsimp only;have hnv:nv V[k]=none:=by
    cases hnv:nv V[k]with
    |none=>rfl
    |some q=>
     have:=(ZyM hnv).1;rw[hv]at this;simp at this
   have hrow:Zx7 (K[k],V[k])=none:=by unfold Zx7;dsimp only;rw[hnv];split<;>rfl
   cases hnull:K[k].Null with
   |true=>rw[cond_true];exact skip _ hrow
   |false=>rw[cond_false,ZDq];exact skip _ hrow
 ·rintro rec ⟨at_,out⟩ ⟨ha,ho⟩;dsimp only at ha ho;subst ha ho;unfold ZuT ZtH;dsimp only;rw[decide_eq_false (show ¬(K.length:Int) < (K.length:Int) by omega),cond_false,ZnB,ZGk,hl,ZGk]
theorem Zy4 {D:List ZnA} (hl:D.length≤13) (f:Str→ZnA) (hD:∀e∈D,e=f e.Key):ZnT D=some (ZsT ltE D):=by
 refine Zrx (ZnX (ZAi hl) ?_);rintro r ⟨hp,hs⟩;refine Zx5 (fun e=>e=f e.Key) Le (fun a b ha hb h1 h2=> ?_) (fun e he=>hD e (hp.mem_iff.1 he)) (hp.trans (ZrY _).symm) hs (Zxu D);have h3:=ZtM a b;unfold Le at h1 h2;have h4:Ztf a b=0:=by omega
 rw[ha,hb,Zv8 h4]
noncomputable def Ztp (K V:List ZnE):List ZnA:=ZsT ltE (Zmg (Zq2 K V))
theorem ZzM {K V:List ZnE}:(Zmg (Zq2 K V)).length≤K.length:=by unfold Zmg;rw[ZF4];refine ZGp (ZyP _) (ZGp (ZF2 _ _) ?_);rw[ZF7];omega
theorem ZCA {key value:ZnL} (hK:∀c∈key.Cells,Zu8 c) (hV:∀c∈value.Cells,Zu8 c) (hn:key.Cells.length≤13) (hl:key.Cells.length=value.Cells.length):
  ZuU key value=some (Ztp key.Cells value.Cells):=by
 refine Zrx ?_;unfold ZuU;rw[ZnD];refine ZnX (ZAA hK hV (by omega) hl value.Name) ?_;rintro _ rfl;unfold ZvA;rw[Zy4 (ZGp ZzM hn) (En (Zq2 key.Cells value.Cells)) (fun e he=>by obtain⟨k,_,rfl⟩:=ZGe.1 he;rfl),ZnD,ZnB,ZnB];rfl
theorem ZAB {K V:List ZnE}:(Ztp K V).length≤K.length:=by unfold Ztp;rw[Zu3];exact ZzM
noncomputable def mkS (K V:List ZnE) (m:Nat):ZnC:=⟨(m:Int),decide ((Ztp K V).length≤m),(Ztp K V).take m⟩
theorem ZyN {key value:ZnL} (hK:∀c∈key.Cells,Zu8 c) (hV:∀c∈value.Cells,Zu8 c) (hn:key.Cells.length≤13) (hl:key.Cells.length=value.Cells.length) {m:Nat} (h1:1≤m) (h2:m≤256):
  Zst key value (m:Int)=some (mkS key.Cells value.Cells m,0):=by
 unfold Zst ZuG ZuF;rw[decide_eq_false (show ¬(m:Int) < 1 by omega),cond_false,decide_eq_false (show ¬(m:Int) > 256 by omega),cond_false,hl,show ((value.Cells.length:Int) != (value.Cells.length:Int))=false by simp,cond_false,decide_eq_false (show ¬(value.Cells.length:Int) > 4096 by omega),cond_false,
  ZCA hK hV hn hl,ZGq]
 have e:(((Ztp key.Cells value.Cells).drop 0).take (((if ((Ztp key.Cells value.Cells).length:Int) < (m:Int)then ((Ztp key.Cells value.Cells).length:Int)else (m:Int))).toNat - 0))=(Ztp key.Cells value.Cells).take m:=by
  rw[List.drop_zero,Nat.sub_zero];split
  ·rename_i h;rw[ZFS,ZGk,ZGl (by omega)]
  ·rw[ZFS]
 rw[e,ZtN (by split<;>omega),chk_true];unfold mkS;congr 3
 by_cases h:(Ztp key.Cells value.Cells).length≤m
 ·rw[decide_eq_true h,decide_eq_true (by omega)]
 ·rw[decide_eq_false h,decide_eq_false (by omega)]
end Go.Proofs
namespace Go.Proofs
open Go Eng
theorem ZBq {R R':List (Str×Rat)} (h:R.Perm R') (k:Str):cnt R k=cnt R' k:=h.countP_eq _
theorem ZCk {R R':List (Str×Rat)} (h:R.Perm R') (k:Str):∀s,R.foldl (ZvF k) s=R'.foldl (ZvF k) s:=by
 induction h with
 |nil=>intro s;rfl
 |cons x _ ih=>intro s;rw[ZFV,ZFV,ih]
 |swap x y l=>
  intro s;rw[ZFV,ZFV,ZFV,ZFV];congr 1;unfold ZvF;split<;>split<;>grind
 |trans _ _ ih1 ih2=>intro s;rw[ih1,ih2]
theorem ZCT {R R':List (Str×Rat)} (h:R.Perm R'):En R=En R':=by funext k;unfold En sm;rw[ZBq h,ZCk h]
theorem ZCz {R R':List (Str×Rat)} (h:R.Perm R'):(ZwL R).Perm (ZwL R'):=by
 rw[List.perm_ext_iff_of_nodup (Zvi R) (Zvi R')];intro k;rw[ZwB,ZwB];constructor
 ·rintro⟨r,hr,e⟩;exact⟨r,h.mem_iff.1 hr,e⟩
 ·rintro⟨r,hr,e⟩;exact⟨r,h.mem_iff.2 hr,e⟩
theorem ZxH {a b c:ZnA} (h:a.Key=b.Key) (ha:Zva a) (hb:Zva b):Ztf a c=Ztf b c:=by
 have e:a.Hash=b.Hash:=by rw[ha,hb,h]
 unfold Ztf;rw[e,h]
theorem Zzc {a b c:ZnA} (ha:Zva a) (hb:Zva b) (h1:Ztf a b≤0) (h2:Ztf b c≤0):Ztf a c≤0:=by
 by_cases e:Ztf a b=0
 ·rw[ZxH (Zv8 e) ha hb];exact h2
 ·have h1':Ztf a b < 0:=by omega
  by_cases e2:Ztf b c=0
  ·by_cases hc:Zva c
   ·have:=ZxH (a:=c) (b:=b) (c:=a) (Zv8 e2).symm hc hb;have n1:=ZtM a c;have n2:=ZtM a b;omega
   ·exfalso;unfold Ztf at e2;split at e2
    ·simp at e2
    ·split at e2
     ·simp at e2
     ·have hk:=ZyR e2;apply hc;unfold Zva at hb⊢
      rw[←hk,←hb];omega
  ·have:=ZwX h1' (show Ztf b c < 0 by omega);omega
def Lt (a b:ZnA):Prop:=Ztf a b < 0
theorem ZwZ {l:List ZnA} (h:∀e∈l,Zva e):(ZsT ltE l).Pairwise fun a b=>Ztf a b≤0:=by
 refine ZxT Zva (fun a b=>Ztf a b≤0) (fun x p _ _ h=> ?_) (fun x p _ _ h=> ?_) (fun a b c ha hb _ h1 h2=>Zzc ha hb h1 h2) l h
 ·have:=of_decide_eq_true h;omega
 ·have:=of_decide_eq_false h;have:=ZtM x p;omega
theorem Zx9 {R:List (Str×Rat)}:∀e∈Zmg R,Zva e:=by intro e he;obtain⟨k,_,rfl⟩:=ZGe.1 he;rfl
theorem Zze {K V:List ZnE} {e:ZnA}:e∈Ztp K V↔∃k∈ZwL (Zq2 K V),En (Zq2 K V) k=e:=by unfold Ztp;rw[(ZrY _).mem_iff];unfold Zmg;rw[ZGe]
theorem ZzT (K V:List ZnE):(Ztp K V).Pairwise Lt:=by
 have h1:=ZwZ (l:=Zmg (Zq2 K V)) Zx9;have h2:((Ztp K V).map (·.Key)).Nodup:=by have hp:((Ztp K V).map (·.Key)).Perm ((Zmg (Zq2 K V)).map (·.Key)):=(ZrY _).map _;rw[hp.nodup_iff];unfold Zmg;rw[List.map_map];have:((fun e:ZnA=>e.Key)∘En (Zq2 K V))=id:=rfl;rw[this,List.map_id];exact Zvi _
 rw[List.Nodup,ZGi]at h2;refine(h1.and h2).imp ?_;rintro a b ⟨h3,h4⟩;unfold Lt;rcases Int.lt_or_eq_of_le h3 with h |h
 ·exact h
 ·exact absurd (Zv8 h) h4
def ZDc (e:ZnA):Prop:=Zva e∧(1≤e.Count∧e.Count≤20)∧e.Key.length≤1000000∧∃q,e.Sum=fOf q∧Sz 110 q
theorem ZxK {K V:List ZnE} (hK:∀c∈K,Zu8 c) (hn:K.length≤20):∀e∈Ztp K V,ZDc e:=by
 intro e he;obtain⟨k,hk,rfl⟩:=Zze.1 he;have hR:(Zq2 K V).length≤20:=by refine ZGp (ZF2 _ _) ?_;rw[ZF7];omega
 obtain⟨r,hr,e1⟩:=ZwB.1 hk;have hc:cnt (Zq2 K V) k≤(Zq2 K V).length:=ZFU;have hp:0 < cnt (Zq2 K V) k:=List.countP_pos_iff.2 ⟨r,hr,by simp[e1]⟩;refine⟨rfl,⟨?_, ?_⟩, ?_,⟨_,rfl,(Zys Zx0 k).mono (by omega)⟩⟩
 ·show (1:Int)≤(cnt (Zq2 K V) k:Int);omega
 ·show (cnt (Zq2 K V) k:Int)≤20;omega
 ·obtain⟨p,hp2,hp3⟩:=List.mem_filterMap.1 hr;unfold Zx7 at hp3;split at hp3
  ·simp at hp3
  ·obtain⟨q,_,rfl⟩:=Option.map_eq_some_iff.1 hp3;show k.length≤1000000;rw[e1];exact ZyC (hK _ (List.of_mem_zip hp2).1)
theorem ZA7 {a b:ZnC} (hl:a.Entries=b.Entries) (hg:∀e∈a.Entries,ZDc e) (hn:a.Entries.length≤1000):
  wp (Zpr big a.Entries (a.Entries.length:Int) 0 b) (fun x=>x= .brk ()):=by
 refine ZwT Zvx a.Entries (by omega) (fun i (_:Unit)=>(a.Entries,(a.Entries.length:Int),i,b)) (fun _ _=>True) (Q:=fun x=>x= .brk ()) () trivial ?_ ?_
 ·rintro rec k _ hk _ ih;obtain⟨_,_,_,q,hq,hs⟩:=hg _ (ZFY hk);unfold ZrP ZqG Zps;dsimp only;rw[←hl,decide_eq_true (show (k:Int) < (a.Entries.length:Int) by omega),cond_true,Zu4 hk,ZnD,ZnB,ZnD,ZnB,show (a.Entries[k].Key == a.Entries[k].Key)=true by simp,ZFQ,cond_false,show (a.Entries[k].Hash != a.Entries[k].Hash)=false by simp,cond_false,
   show (a.Entries[k].Count != a.Entries[k].Count)=false by simp,cond_false,hq,Zxo _ _ (hs.wq (by omega)) (hs.wq (by omega)),ZnD,ZnB,decide_eq_true rfl,ZFQ,cond_false,ZnH]
  exact⟨ZnK (by omega),ih () trivial⟩
 ·rintro rec _ _;unfold ZrP ZqG;dsimp only;rw[decide_eq_false (show ¬(a.Entries.length:Int) < (a.Entries.length:Int) by omega),cond_false,ZnB]
theorem ZA6 {a b:ZnC} (hk:a.K=b.K) (ha:a.All=b.All) (hl:a.Entries=b.Entries) (hg:∀e∈a.Entries,ZDc e) (hn:a.Entries.length≤1000):Zpu a b=some true:=by refine Zrx ?_;unfold Zpu Zp0 Zsj;rw[hk,ha,show (b.K != b.K)=false by simp,cond_false,show (b.All == b.All)=true by simp,ZFQ,cond_false,show ((a.Entries.length:Int) != (b.Entries.length:Int))=false by rw[hl];simp,cond_false,ZnD];refine ZnX (ZA7 hl hg hn) ?_;rintro _ rfl;rw[ZnB]
theorem ZDA {l:List ZnA} (h:l.Pairwise Lt) {i j:Nat} (hij:i < j) (hj:j < l.length):Ztf l[i] l[j] < 0:=List.pairwise_iff_getElem.1 h i j (by omega) hj hij
theorem Zz9:((List.range 201).all fun s=>decide (IntKind.wrap .i64 (shrK .u64 (IntKind.wrap .u64 (s:Int)) 1)=((s / 2:Nat):Int)))=true:=by kernel_rfl
theorem ZCD {i j:Nat} (h:i+j≤200):IntKind.wrap .i64 (shrK .u64 (IntKind.wrap .u64 ((i:Int)+(j:Int))) 1)=(((i+j) / 2:Nat):Int):=by have:=of_decide_eq_true (ZFT.1 Zz9 (i+j) (List.mem_range.2 (by omega)));rw[show (i:Int)+(j:Int)=((i+j:Nat):Int) by omega];exact this
end Go.Proofs
namespace Go.Proofs
open Go Eng
section
variable {α:Type} {r:α→α→Prop}
theorem Zy1 (hirr:∀a,¬r a a) (has:∀a b,r a b→¬r b a):∀(S l:List α) (m:Nat),S.Pairwise r→l.Pairwise r→(∀x∈l,x∈S)→(∀x∈S.take m,x∈l)→l.take m=S.take m
 | [],l,m,_,_,hs,_=>by
  have:l=[]:=List.eq_nil_iff_forall_not_mem.2 fun x hx=>by simpa using hs x hx
  rw[this]
 |s::S,l,0,_,_,_,_=>by rw[List.take_zero,List.take_zero]
 |s::S,[],m+1,_,_,_,ht=>absurd (ht s (by simp)) (by simp)
 |s::S,x::l,m+1,hS,hl,hs,ht=>by
  have hS':=ZGh.1 hS;have hl':=ZGh.1 hl;have e:x=s:=by
   rcases ZGb.1 (hs x (by simp))with e |hx
   ·exact e
   ·rcases ZGb.1 (ht s (by simp))with e |hs'
    ·exact e.symm
    ·exact absurd (hl'.1 s hs') (has _ _ (hS'.1 x hx))
  subst e;rw[ZGn,ZGn,Zy1 hirr has S l m hS'.2 hl'.2 (fun y hy=> ?_) (fun y hy=> ?_)]
  ·rcases ZGb.1 (hs y (ZGc _ hy))with e |h
   ·subst e;exact absurd (hl'.1 _ hy) (hirr _)
   ·exact h
  ·rcases ZGb.1 (ht y (by rw[ZGn];exact ZGc _ hy))with e |h
   ·subst e;exact absurd (hS'.1 _ (ZGf hy)) (hirr _)
   ·exact h
theorem Zxm (hirr:∀a,¬r a a) (has:∀a b,r a b→¬r b a):∀(S l:List α) (m:Nat) (x:α),S.Pairwise r→l.Pairwise r→(∀y∈l,y∈S)→x∈S.take m→x∈l→x∈l.take m
 | [],_,_,_,_,_,_,h,_=>by simp at h
 |s::S,l,0,x,_,_,_,h,_=>by simp at h
 |s::S,[],m+1,x,_,_,_,_,h=>by simp at h
 |s::S,y::l,m+1,x,hS,hl,hs,h,hx=>by
  have hS':=ZGh.1 hS;have hl':=ZGh.1 hl;rw[ZGn]at h⊢
  by_cases e:y=s
  ·subst e;rcases ZGb.1 hx with rfl |hx
   ·simp
   rcases ZGb.1 h with rfl |h
   ·simp
   refine ZGc _ (Zxm hirr has S l m x hS'.2 hl'.2 (fun z hz=> ?_) h hx);rcases ZGb.1 (hs z (ZGc _ hz))with e |h'
   ·subst e;exact absurd (hl'.1 _ hz) (hirr _)
   ·exact h'
  ·have hyS:y∈S:=(ZGb.1 (hs y (by simp))).resolve_left e;have hsl:s∉y::l:=by
    intro h1;rcases ZGb.1 h1 with e1 |h1
    ·exact e e1.symm
    ·exact has _ _ (hS'.1 y hyS) (hl'.1 s h1)
   have h2:x∈S.take m:=by
    rcases ZGb.1 h with rfl |h
    ·exact absurd hx hsl
    ·exact h
   have:=Zxm hirr has S (y::l) m x hS'.2 hl (fun z hz=> ?_) h2 hx
   ·rw[←ZGn];exact(List.take_sublist_take_left (Nat.le_succ m)).subset this
   ·rcases ZGb.1 (hs z hz)with e1 |h'
    ·subst e1;exact absurd hz hsl
    ·exact h'
theorem ZxM (hirr:∀a,¬r a a) (has:∀a b,r a b→¬r b a):∀(S l:List α) (m:Nat) (x:α),S.Pairwise r→l.Pairwise r→(∀y∈l,y∈S)→x∈S.take m→(∀y∈l,r y x)→l.length < m
 | [],_,_,_,_,_,_,h,_=>by simp at h
 |s::S,l,0,x,_,_,_,h,_=>by simp at h
 |s::S,[],m+1,x,_,_,_,_,_=>by simp
 |s::S,y::l,m+1,x,hS,hl,hs,h,hx=>by
  have hS':=ZGh.1 hS;have hl':=ZGh.1 hl;rw[ZGn]at h;have hxs:x≠s:=by
   rintro rfl;rcases ZGb.1 (hs y (by simp))with e |h1
   ·subst e;exact hirr _ (hx _ (by simp))
   ·exact has _ _ (hS'.1 y h1) (hx y (by simp))
  have h2:x∈S.take m:=(ZGb.1 h).resolve_left hxs
  by_cases e:y=s
  ·subst e;have:=ZxM hirr has S l m x hS'.2 hl'.2 (fun z hz=> ?_) h2 fun z hz=>hx z (ZGc _ hz)
   ·rw[ZF0];omega
   ·rcases ZGb.1 (hs z (ZGc _ hz))with e |h'
    ·subst e;exact absurd (hl'.1 _ hz) (hirr _)
    ·exact h'
  ·have hyS:y∈S:=(ZGb.1 (hs y (by simp))).resolve_left e;have:=ZxM hirr has S (y::l) m x hS'.2 hl (fun z hz=> ?_) h2 hx
   ·omega
   ·rcases ZGb.1 (hs z hz)with e1 |h'
    ·subst e1;rcases ZGb.1 hz with e2 |h1
     ·exact absurd e2.symm e
     ·exact absurd (hl'.1 _ h1) (has _ _ (hS'.1 y hyS))
    ·exact h'
theorem ZxE (hirr:∀a,¬r a a) (has:∀a b,r a b→¬r b a):∀(S l:List α),S.Pairwise r→l.Pairwise r→(∀y∈l,y∈S)→l.length≤S.length
 | [],l,_,_,hs=>by
  have:l=[]:=List.eq_nil_iff_forall_not_mem.2 fun x hx=>by simpa using hs x hx
  rw[this];exact Nat.le_refl _
 |s::S,[],_,_,_=>Nat.zero_le _
 |s::S,y::l,hS,hl,hs=>by
  have hS':=ZGh.1 hS;have hl':=ZGh.1 hl
  by_cases e:y=s
  ·subst e;have:=ZxE hirr has S l hS'.2 hl'.2 fun z hz=> ?_
   ·rw[ZF0,ZF0];omega
   ·rcases ZGb.1 (hs z (ZGc _ hz))with e |h'
    ·subst e;exact absurd (hl'.1 _ hz) (hirr _)
    ·exact h'
  ·have hyS:y∈S:=(ZGb.1 (hs y (by simp))).resolve_left e;have:=ZxE hirr has S (y::l) hS'.2 hl fun z hz=> ?_
   ·rw[ZF0 (a:=s)];omega
   ·rcases ZGb.1 (hs z hz)with e1 |h'
    ·subst e1;rcases ZGb.1 hz with e2 |h1
     ·exact absurd e2.symm e
     ·exact absurd (hl'.1 _ h1) (has _ _ (hS'.1 y hyS))
    ·exact h'
end
end Go.Proofs
namespace Go.Proofs
open Go Eng
theorem Lt.irr (a:ZnA):¬Lt a a:=by unfold Lt;have:=ZtM a a;omega
theorem Lt.asy (a b:ZnA) (h:Lt a b):¬Lt b a:=by
 unfold Lt at*
 have:=ZtM a b;omega
theorem ZAo {l:List ZnA} (e:ZnA) (h:l.Pairwise Lt):∃p,p≤l.length∧∀k (hk:k < l.length),Ztf l[k] e < 0↔k < p:=by
 induction l with
 |nil=>exact⟨0,Nat.le_refl _,fun k hk=>absurd hk (by simp)⟩
 |cons x l ih=>
  have hx:=ZGh.1 h;obtain⟨p,h1,h2⟩:=ih hx.2
  by_cases hc:Ztf x e < 0
  ·refine⟨p+1,by rw[ZF0];omega,fun k hk=> ?_⟩
   match k with
   |0=>exact⟨fun _=>by omega,fun _=>hc⟩
   |k+1=>
    have:=h2 k (by rw[ZF0]at hk;omega);rw[List.getElem_cons_succ];omega
  ·refine⟨0,Nat.zero_le _,fun k hk=>⟨fun h3=> ?_,fun h3=>by omega⟩⟩
   match k with
   |0=>exact absurd h3 hc
   |k+1=>
    rw[List.getElem_cons_succ]at h3;exact absurd (ZwX (hx.1 _ (ZFY _)) h3) hc
theorem ZCK {s:ZnC} (e:ZnA) (h:s.Entries.Pairwise Lt) (hn:s.Entries.length≤100) (hh:∀f∈s.Entries,Zva f) (he:Zva e):
  wp (Ztg s e) (fun r=>(∃f∈s.Entries,f.Key=e.Key∧r=(f,true))∨((∀f∈s.Entries,f.Key≠e.Key)∧∃z,r=(z,false))):=by
 generalize hl:s.Entries=l at*
 obtain⟨p,hp,hlt⟩:=ZAo e h;unfold Ztg ZnR;rw[hl,ZnD,ZnD];refine ZnX (ZtO ZpC (fun s:Nat×Nat=>(l,(l.length:Int),(s.1:Int),(s.2:Int),e)) (fun s=>s.1≤p∧p≤s.2∧s.2≤l.length) (fun s=>s.2 - s.1)
  (Q:=fun r=>r=(l,(l.length:Int),(p:Int),e)) (0,l.length) ⟨Nat.zero_le _,hp,Nat.le_refl _⟩ (by dsimp only;omega) ?_) ?_
 ·rintro rec ⟨i,j⟩ ⟨h1,h2,h3⟩ ih;dsimp only at h1 h2 h3 ih;unfold Zon ZnZ;dsimp only
  by_cases hij:i < j
  ·have hm:(i+j) / 2 < l.length:=by omega
   rw[decide_eq_true (show (i:Int) < (j:Int) by omega),cond_true,ZCD (by omega),ZnH,ZnH,Zu4 hm,ZnD,ZnB,Zu2,ZnD,ZnB];refine⟨ZnK (by omega),rfl, ?_⟩
   by_cases hc:(i+j) / 2 < p
   ·rw[decide_eq_true ((hlt _ hm).2 hc),cond_true,ZnH];exact⟨ZnK (by omega),ih ((i+j) / 2+1,j) ⟨by dsimp only;omega,h2,h3⟩ (by dsimp only;omega)⟩
   ·rw[decide_eq_false (fun hx=>hc ((hlt _ hm).1 hx)),cond_false];exact ih (i,(i+j) / 2) ⟨h1,by dsimp only;omega,by dsimp only;omega⟩ (by dsimp only;omega)
  ·rw[decide_eq_false (show ¬(i:Int) < (j:Int) by omega),cond_false,ZnB,show i=p by omega]
 ·rintro _ rfl;unfold Zn0 ZnQ;dsimp only;have here:∀f∈l,f.Key=e.Key→∃hp:p < l.length,Ztf l[p] e=0∧l[p]=f:=by
   intro f hf hk;obtain⟨k,hk1,rfl⟩:=List.getElem_of_mem hf;have h0:Ztf l[k] e=0:=ZAr hk (hh _ hf) he;have hkp:¬k < p:=fun hc=>by have:=(hlt k hk1).2 hc;omega
   have hpl:p < l.length:=by omega
   rcases Nat.lt_or_eq_of_le (Nat.le_of_not_lt hkp)with h1 |h1
   ·have h2:=ZDA h h1 hk1;have h3:=ZxH (c:=l[p]) hk (hh _ hf) he;have h4:=ZtM l[k] l[p];have h5:=ZtM e l[p];have h6:=(hlt p hpl).1 (by omega);omega
   ·subst h1;exact⟨hpl,h0,rfl⟩
  by_cases hpl:p < l.length
  ·rw[decide_eq_true (show (p:Int) < (l.length:Int) by omega),cond_true,Zu4 hpl,ZnD,ZnB,Zu2,ZnD,ZnB,ZnB];dsimp only
   by_cases h0:Ztf l[p] e=0
   ·rw[show (Ztf l[p] e == 0)=true by simpa using h0,ZFQ,cond_false,ZnD,Zu4 hpl,ZnB,ZnB];exact .inl ⟨l[p],ZFY hpl,Zv8 h0,rfl⟩
   ·rw[show (Ztf l[p] e == 0)=false by simpa using h0,ZDq,cond_true,ZnB];refine .inr ⟨fun f hf hk=> ?_,_,rfl⟩;obtain⟨_,h1,_⟩:=here f hf hk;exact h0 h1
  ·rw[decide_eq_false (show ¬(p:Int) < (l.length:Int) by omega),cond_false,ZnB];dsimp only;rw[ZDq,cond_true,ZnB];refine .inr ⟨fun f hf hk=> ?_,_,rfl⟩;obtain⟨h1,_⟩:=here f hf hk;exact hpl h1
theorem ZAR {s:ZnC} (e:ZnA) (hn:s.Entries.length≤100) (h0:s.All=false→0 < s.Entries.length):
  ZpP s e=some (!s.All&&decide (∀f∈s.Entries.getLast?,Ztf e f > 0)):=by
 unfold ZpP ZrC;cases hA:s.All with
 |true=>rw[ZFQ,cond_false,Bool.false_and]
 |false=>
  have h1:=h0 hA;rw[ZDq,cond_true,Bool.true_and,ZnK (by omega),chk_true,show (s.Entries.length:Int) - 1=((s.Entries.length - 1:Nat):Int) by omega,Zu4 (show s.Entries.length - 1 < s.Entries.length by omega),ZGq,Zu2,ZGq];have h2:s.Entries.getLast?=some s.Entries[s.Entries.length - 1]:=by rw[List.getLast?_eq_getElem?,List.getElem?_eq_getElem]
  rw[h2];congr 1;simp
end Go.Proofs
namespace Go.Proofs
open Go Eng
def oK (a b:Str):Int:=Ztf (En [] a) (En [] b)
theorem ZyK {e f:ZnA} (he:Zva e) (hf:Zva f):Ztf e f=oK e.Key f.Key:=by unfold oK Ztf;rw[show e.Hash=ZxV e.Key from he,show f.Hash=ZxV f.Key from hf];rfl
def ltK (a b:Str):Prop:=oK a b < 0
theorem ltK.irr (a:Str):¬ltK a a:=Lt.irr _
theorem ltK.asy (a b:Str) (h:ltK a b):¬ltK b a:=Lt.asy _ _ h
theorem ltK.tr {a b c:Str} (h1:ltK a b) (h2:ltK b c):ltK a c:=ZwX h1 h2
theorem Zxn {X:List Str} (hX:X.Nodup) (R:List (Str×Rat)):
  ((ZsT ltE (X.map (En R))).map (·.Key)).Pairwise ltK∧(∀k,k∈(ZsT ltE (X.map (En R))).map (·.Key)↔k∈X)∧ZsT ltE (X.map (En R))=((ZsT ltE (X.map (En R))).map (·.Key)).map (En R):=by
 have hp:(ZsT ltE (X.map (En R))).Perm (X.map (En R)):=ZrY _;have hpk:((ZsT ltE (X.map (En R))).map (·.Key)).Perm X:=by have:=hp.map (·.Key);rw[List.map_map]at this;have e:((fun e:ZnA=>e.Key)∘En R)=id:=rfl;rw[e,List.map_id]at this;exact this
 have hE:∀e∈ZsT ltE (X.map (En R)),e=En R e.Key:=by intro e he;obtain⟨k,_,rfl⟩:=ZGe.1 (hp.mem_iff.1 he);rfl
 have hH:∀e∈X.map (En R),Zva e:=by intro e he;obtain⟨k,_,rfl⟩:=ZGe.1 he;rfl
 refine⟨?_,fun k=>hpk.mem_iff, ?_⟩
 ·have h1:=ZwZ hH;have h2:((ZsT ltE (X.map (En R))).map (·.Key)).Nodup:=hpk.nodup_iff.2 hX;rw[ZGi];rw[List.Nodup,ZGi]at h2;refine List.Pairwise.imp_of_mem ?_ (h1.and h2);rintro a b ha hb ⟨h3,h4⟩;unfold ltK;have ea:=hE a ha;have eb:=hE b hb;have hab:Ztf a b=oK a.Key b.Key:=ZyK (by rw[ea];rfl) (by rw[eb];rfl);rw[←hab];rcases Int.lt_or_eq_of_le h3 with h |h
  ·exact h
  ·exact absurd (Zv8 h) h4
 ·rw[List.map_map];have:∀e∈ZsT ltE (X.map (En R)),(En R∘fun e:ZnA=>e.Key) e=e:=fun e he=>(hE e he).symm
  rw[List.map_congr_left this,List.map_id']
noncomputable def srt (R:List (Str×Rat)):List ZnA:=ZsT ltE (Zmg R)
noncomputable def KS (R:List (Str×Rat)):List Str:=(srt R).map (·.Key)
theorem ZwK (R:List (Str×Rat)):(KS R).Pairwise ltK:=(Zxn (Zvi R) R).1
theorem ZwQ {R:List (Str×Rat)} {k:Str}:k∈KS R↔k∈ZwL R:=(Zxn (Zvi R) R).2.1 k
theorem ZAh (R:List (Str×Rat)):srt R=(KS R).map (En R):=(Zxn (Zvi R) R).2.2
theorem Zxz (R:List (Str×Rat)):(KS R).length=(srt R).length:=ZF4 _
theorem ZA4 {R R':List (Str×Rat)} (h:R.Perm R'):srt R=srt R':=by
 have hp:(Zmg R).Perm (Zmg R'):=by unfold Zmg;rw[ZCT h];exact(ZCz h).map _
 refine Zx5 (fun e=>e=En R e.Key) (fun a b=>Ztf a b≤0) (fun a b ha hb h1 h2=> ?_) (fun e he=> ?_) (((ZrY _).trans hp).trans (ZrY _).symm) (ZwZ Zx9) (ZwZ Zx9)
 ·have h3:=ZtM a b;have h4:Ztf a b=0:=by omega
  rw[ha,hb,Zv8 h4]
 ·obtain⟨k,_,rfl⟩:=ZGe.1 ((ZrY _).mem_iff.1 he);rfl
theorem ZxP (R1 R2:List (Str×Rat)) (k:Str):cnt (R1++R2) k=cnt R1 k+cnt R2 k:=List.countP_append
theorem Zzs (k:Str):∀(R:List (Str×Rat)) (s:Rat),R.foldl (ZvF k) s=s+sm R k
 | [],s=>by show s=s+0;rw[Rat.add_zero]
 |r::R,s=>by
  unfold sm;rw[ZFV,ZFV,Zzs k R (ZvF k s r),Zzs k R (ZvF k 0 r)];unfold ZvF;split
  ·rw[Rat.zero_add,Rat.add_assoc]
  ·rw[Rat.zero_add]
theorem Zx6 (R1 R2:List (Str×Rat)) (k:Str):sm (R1++R2) k=sm R1 k+sm R2 k:=by unfold sm;rw[List.foldl_append,Zzs k R2];rfl
theorem Zxt {R1 R2:List (Str×Rat)} {k:Str}:k∈ZwL (R1++R2)↔k∈ZwL R1∨k∈ZwL R2:=by
 rw[ZwB,ZwB,ZwB];constructor
 ·rintro⟨r,hr,e⟩;rcases ZGa.1 hr with h |h
  ·exact .inl ⟨r,h,e⟩
  ·exact .inr ⟨r,h,e⟩
 ·rintro(⟨r,h,e⟩ |⟨r,h,e⟩)
  ·exact⟨r,List.mem_append_left _ h,e⟩
  ·exact⟨r,List.mem_append_right _ h,e⟩
noncomputable def bey (R:List (Str×Rat)) (m:Nat) (k:Str):Bool:= !decide ((KS R).length≤m)&&decide (∀f∈((KS R).take m).getLast?,oK k f > 0)
theorem ZCy {l:List Str} (h:l.Pairwise ltK) {y z:Str} (hy:y∈l) (hz:l.getLast?=some z):y=z∨ltK y z:=by
 obtain⟨i,hi,rfl⟩:=List.getElem_of_mem hy;rw[List.getLast?_eq_getElem?]at hz;obtain⟨hj,rfl⟩:=ZFX.1 hz;rcases Nat.lt_or_eq_of_le (show i≤l.length - 1 by omega)with h1 |h1
 ·exact .inr (List.pairwise_iff_getElem.1 h i _ hi hj h1)
 ·subst h1;exact .inl rfl
theorem Zy9 {R:List (Str×Rat)} {m:Nat} (hm:0 < m) {k:Str} (h1:k∉(KS R).take m) (h2:bey R m k=false):k∉ZwL R:=by
 intro hk;have hkS:k∈KS R:=ZwQ.2 hk;have hd:k∈(KS R).drop m:=by rw[←ZGj m (KS R)]at hkS;exact(ZGa.1 hkS).resolve_left h1
 have hlen:m < (KS R).length:=by
  rcases Nat.lt_or_ge m (KS R).length with h |h
  ·exact h
  ·rw[List.drop_of_length_le h]at hd;simp at hd
 unfold bey at h2;rw[decide_eq_false (by omega),ZDq,Bool.true_and]at h2;refine of_decide_eq_false h2 fun f hf=> ?_
 have hfm:f∈(KS R).take m:=List.mem_of_getLast? hf;have hp:=ZwK R;rw[←ZGj m (KS R),List.pairwise_append]at hp;have h3:oK f k < 0:=hp.2.2 f hfm k hd;have h4:=ZtM (En [] f) (En [] k);unfold oK at h3⊢
 omega
theorem Zyw {R R':List (Str×Rat)} {m:Nat} {k:Str} (hs:∀x∈KS R',x∈KS R) (hk:k∈(KS R).take m):bey R' m k=false:=by
 cases hb:bey R' m k with
 |false=>rfl
 |true=>
  unfold bey at hb;obtain⟨h1,h2⟩:=Bool.and_eq_true_iff.1 hb;have hlen:¬(KS R').length≤m:=by intro h;rw[decide_eq_true h]at h1;simp at h1
  have h3:=of_decide_eq_true h2;have:=ZxM ltK.irr ltK.asy (KS R) ((KS R').take m) m k (ZwK R) ((ZwK R').sublist (ZGm _ _)) (fun y hy=>hs y (ZGf hy)) hk fun y hy=> ?_
  ·rw[ZF6]at this;omega
  ·cases hz:((KS R').take m).getLast? with
   |none=>
    rw[List.getLast?_eq_none_iff]at hz;rw[hz]at hy;simp at hy
   |some z=>
    have h4:=h3 z hz;have h5:ltK z k:=by
     have:=ZtM (En [] k) (En [] z);unfold ltK;unfold oK at h4⊢
     omega
    rcases ZCy ((ZwK R').sublist (ZGm _ _)) hy hz with rfl |h6
    ·exact h5
    ·exact h6.tr h5
noncomputable def p1 (R2:List (Str×Rat)) (m:Nat) (k:Str):Bool:=decide (k∈(KS R2).take m)|| !bey R2 m k
noncomputable def p2 (R1:List (Str×Rat)) (m:Nat) (k:Str):Bool:= !decide (k∈(KS R1).take m)&& !bey R1 m k
noncomputable def mk1 (R1 R2:List (Str×Rat)) (m:Nat):List Str:=((KS R1).take m).filter (p1 R2 m)
noncomputable def mk2 (R1 R2:List (Str×Rat)) (m:Nat):List Str:=((KS R2).take m).filter (p2 R1 m)
theorem ZzO {l:List Str} (h:l.Pairwise ltK):l.Nodup:=by refine List.Pairwise.imp ?_ h;intro a b hab e;subst e;exact ltK.irr a hab
noncomputable def ZwG (R:List (Str×Rat)) (m:Nat):ZnC:=⟨(m:Int),decide ((srt R).length≤m),(srt R).take m⟩
theorem ZDy (R1 R2:List (Str×Rat)) {m:Nat} (hm:0 < m) {l:List ZnA} (hl:l=ZsT ltE ((mk1 R1 R2 m++mk2 R1 R2 m).map (En (R1++R2)))):
  (m < l.length→ZwG (R1++R2) m=⟨(m:Int),false,l.take m⟩)∧(l.length≤m→ZwG (R1++R2) m=⟨(m:Int),decide ((srt R1).length≤m)&&decide ((srt R2).length≤m),l⟩):=by
 have n1:(mk1 R1 R2 m).Nodup:=ZzO ((ZwK R1).sublist (List.filter_sublist.trans (ZGm _ _)));have n2:(mk2 R1 R2 m).Nodup:=ZzO ((ZwK R2).sublist (List.filter_sublist.trans (ZGm _ _)));have nX:(mk1 R1 R2 m++mk2 R1 R2 m).Nodup:=by rw[List.nodup_append];refine⟨n1,n2,fun a ha b hb=> ?_⟩;rintro rfl;have h1:=(ZGd.1 ha).1;have h2:=(ZGd.1 hb).2;unfold p2 at h2;rw[decide_eq_true h1]at h2;simp at h2
 obtain⟨s1,s2,s3⟩:=Zxn nX (R1++R2);rw[←hl]at s1 s2 s3;have sub1:∀x∈KS R1,x∈KS (R1++R2):=fun x hx=>ZwQ.2 (Zxt.2 (.inl (ZwQ.1 hx)))
 have sub2:∀x∈KS R2,x∈KS (R1++R2):=fun x hx=>ZwQ.2 (Zxt.2 (.inr (ZwQ.1 hx)))
 have hsub:∀x∈l.map (·.Key),x∈KS (R1++R2):=by
  intro x hx;rcases ZGa.1 ((s2 x).1 hx)with h |h
  ·exact sub1 x (ZGf (ZGd.1 h).1)
  ·exact sub2 x (ZGf (ZGd.1 h).1)
 have hT:∀x∈(KS (R1++R2)).take m,x∈l.map (·.Key):=by
  intro x hx;refine(s2 x).2 (ZGa.2 ?_)
  by_cases h1:x∈KS R1
  ·refine .inl (ZGd.2 ⟨Zxm ltK.irr ltK.asy _ _ m x (ZwK _) (ZwK _) sub1 hx h1, ?_⟩);unfold p1;rw[Zyw sub2 hx];simp
  ·have h2:x∈KS R2:=by
    rcases Zxt.1 (ZwQ.1 (ZGf hx))with h |h
    ·exact absurd (ZwQ.2 h) h1
    ·exact ZwQ.2 h
   refine .inr (ZGd.2 ⟨Zxm ltK.irr ltK.asy _ _ m x (ZwK _) (ZwK _) sub2 hx h2, ?_⟩);unfold p2;rw[Zyw sub1 hx,decide_eq_false (fun h=>h1 (ZGf h))];rfl
 have htk:(l.map (·.Key)).take m=(KS (R1++R2)).take m:=Zy1 ltK.irr ltK.asy _ _ m (ZwK _) s1 hsub hT;have hE:l.take m=(srt (R1++R2)).take m:=by
  have e1:l.take m=((l.map (·.Key)).take m).map (En (R1++R2)):=by rw[List.map_take,←s3]
  rw[e1,ZAh,htk,List.map_take]
 have hlen:=ZxE ltK.irr ltK.asy _ _ (ZwK _) s1 hsub;rw[ZF4,Zxz]at hlen;constructor
 ·intro h;unfold ZwG;rw[hE,decide_eq_false (by omega)]
 ·intro h;unfold ZwG;rw[←hE,ZGl h];congr 1;have l1:=ZxE ltK.irr ltK.asy _ _ (ZwK (R1++R2)) (ZwK R1) sub1;have l2:=ZxE ltK.irr ltK.asy _ _ (ZwK (R1++R2)) (ZwK R2) sub2;rw[Zxz,Zxz]at l1 l2
  by_cases h1:(srt R1).length≤m
  ·by_cases h2:(srt R2).length≤m
   ·have hall:∀x∈KS (R1++R2),x∈l.map (·.Key):=by
     intro x hx;refine(s2 x).2 (ZGa.2 ?_);have b1:∀k,bey R1 m k=false:=fun k=>by unfold bey;rw[Zxz,decide_eq_true h1];rfl
     have b2:∀k,bey R2 m k=false:=fun k=>by unfold bey;rw[Zxz,decide_eq_true h2];rfl
     have t1:(KS R1).take m=KS R1:=ZGl (by rw[Zxz];exact h1);have t2:(KS R2).take m=KS R2:=ZGl (by rw[Zxz];exact h2)
     by_cases hx1:x∈KS R1
     ·refine .inl (ZGd.2 ⟨by rw[t1];exact hx1, ?_⟩);unfold p1;rw[b2];simp
     ·have h2:x∈KS R2:=by
       rcases Zxt.1 (ZwQ.1 hx)with h |h
       ·exact absurd (ZwQ.2 h) hx1
       ·exact ZwQ.2 h
      refine .inr (ZGd.2 ⟨by rw[t2];exact h2, ?_⟩);unfold p2;rw[b1,t1,decide_eq_false hx1];rfl
    have l3:=ZxE ltK.irr ltK.asy _ _ s1 (ZwK (R1++R2)) hall;rw[ZF4,Zxz]at l3;rw[decide_eq_true h1,decide_eq_true h2,decide_eq_true (by omega)];rfl
   ·rw[decide_eq_false h2,decide_eq_false (by omega),Bool.and_false]
  ·rw[decide_eq_false h1,decide_eq_false (by omega),Bool.false_and]
end Go.Proofs
namespace Go.Proofs
open Go Eng
theorem ZyY {s:ZnC} (h:s.Entries.Pairwise Lt) (hg:∀e∈s.Entries,ZDc e) (hn:s.Entries.length≤100):
  wp (ZrW big s.Entries (s.Entries.length:Int) 0 s) (fun x=>x= .brk ()):=by
 refine ZwT Zw0 s.Entries (by omega) (fun i (_:Unit)=>(s.Entries,(s.Entries.length:Int),i,s)) (fun _ _=>True) (Q:=fun x=>x= .brk ()) () trivial ?_ ?_
 ·rintro rec k _ hk _ ih;obtain⟨h1,⟨h2,_⟩,h3,q,hq,hs⟩:=hg _ (ZFY hk);unfold ZuK Zth Zrg;dsimp only;rw[decide_eq_true (show (k:Int) < (s.Entries.length:Int) by omega),cond_true,Zu4 hk,ZnD,ZnB,Zzw h3,ZnD,ZnB,←h1,show (s.Entries[k].Hash != s.Entries[k].Hash)=false by simp,cond_false,decide_eq_false (show ¬s.Entries[k].Count < 1 by omega),cond_false,hq,ZyF q (hs.wq (by omega)),ZnD,ZnB,ZFQ,cond_false,Zop];refine⟨fun h0=> ?_,fun _=> ?_⟩
  ·have h0':0 < k:=by have:=of_decide_eq_true h0;omega
   have hl:=ZDA h (show k - 1 < k by omega) hk;rw[ZnH,show (k:Int) - 1=((k - 1:Nat):Int) by omega,Zu4 (show k - 1 < s.Entries.length by omega),ZnD,ZnB,Zu2,ZnD,ZnB,decide_eq_false (show ¬Ztf s.Entries[k - 1] s.Entries[k]≥0 by omega),cond_false,ZnH];exact⟨ZnK (by omega),ZnK (by omega),ih () trivial⟩
  ·rw[cond_false,ZnH];exact⟨ZnK (by omega),ih () trivial⟩
 ·rintro rec _ _;unfold ZuK Zth;dsimp only;rw[decide_eq_false (show ¬(s.Entries.length:Int) < (s.Entries.length:Int) by omega),cond_false,ZnB]
theorem ZCL {p q:Rat} (hp:Sz 110 p) (hq:Sz 110 q) (h:fOf p=fOf q):p=q:=by have h1:=Zxo p q (hp.wq (by omega)) (hq.wq (by omega));have h2:=Zxo p p (hp.wq (by omega)) (hp.wq (by omega));rw[h]at h1 h2;rw[h1]at h2;have:=ZGr h2;rw[decide_eq_true rfl]at this;exact of_decide_eq_true this
theorem ZDu {c:ZnE} {q:Rat} (h:Zp6 c=some (fOf q,true)) (hq:Sz 4 q):nv c=some q:=by have hx:∃q,Zp6 c=some (fOf q,true)∧Sz 4 q:=⟨q,h,hq⟩;unfold nv;rw[dif_pos hx];have h2:=hx.choose_spec.2;have he:=(Prod.mk.inj (ZGr (h.symm.trans hx.choose_spec.1))).1;rw[ZCL (hq.mono (by omega)) (h2.mono (by omega)) he]
theorem ZAw {s:Str} {z:Int} (h:(s,z)∈ZBD):nv (ZnE.mk false s)=some (z:Rat):=by
 have h1:=of_decide_eq_true (ZFT.1 ZAx _ h);have h2:=ZFT.1 ZBH _ h;simp only[Bool.and_eq_true,decide_eq_true_eq]at h2;rw[h2.1]at h1;have:=ZDu h1 (ZxZ (by decide) h2.2 (by decide))
 rwa [ZxN]at this
def ZxS:List ZnE:=[(ZnE.mk false ([97]:Str)),(ZnE.mk false ([97]:Str)),(ZnE.mk false ([98]:Str))]
def ZxC:List ZnE:=[(ZnE.mk false ([49]:Str)),(ZnE.mk false ([50]:Str)),(ZnE.mk false ([53]:Str))]
theorem ZDo:Zq2 ZxS ZxC=[([97],((1:Int):Rat)),([97],((2:Int):Rat)),([98],((5:Int):Rat))]:=by have n1:=ZAw (s:=[49]) (z:=1) (by simp[ZBD]);have n2:=ZAw (s:=[50]) (z:=2) (by simp[ZBD]);have n5:=ZAw (s:=[53]) (z:=5) (by simp[ZBD]);unfold Zq2 ZxS ZxC;simp[Zx7,n1,n2,n5]
theorem ZzU {s:Str} (h:s∈ZxD):Zu8 (ZnE.mk false s):= .inr ⟨s,h,rfl⟩
theorem ZAC:∀c∈ZxS,Zu8 c:=by intro c hc;simp only[ZxS,ZGb,ZGg,or_false]at hc;rcases hc with rfl |rfl |rfl<;>exact ZzU (by simp[ZxD,noT])
theorem ZCf:∀c∈ZxC,Zu8 c:=by intro c hc;simp only[ZxC,ZGb,ZGg,or_false]at hc;rcases hc with rfl |rfl |rfl<;>exact ZzU (by simp[ZxD,ZBD])
theorem ksA:ZwL (Zq2 ZxS ZxC)=[[97],[98]]:=by rw[ZDo];simp[ZwL,Zwt]
theorem lenA:(Ztp ZxS ZxC).length=2:=by unfold Ztp;rw[Zu3];unfold Zmg;rw[ZF4,ksA];rfl
theorem EnA:En (Zq2 ZxS ZxC) [97]=⟨[97],ZxV [97],2,fOf ((3:Int):Rat)⟩:=by
 unfold En;rw[ZDo];have h1:cnt [([97],((1:Int):Rat)),([97],((2:Int):Rat)),([98],((5:Int):Rat))] [97]=2:=by simp[cnt]
 have h2:sm [([97],((1:Int):Rat)),([97],((2:Int):Rat)),([98],((5:Int):Rat))] [97]=((3:Int):Rat):=by simp only[sm,ZvF,ZFV,List.foldl_nil];rw[if_neg (by decide),if_pos trivial,if_pos trivial,Rat.zero_add,←Rat.intCast_add];rfl
 rw[h1,h2];rfl
theorem ZAS:ZpH=some true:=by
 have hlen:=lenA;have hg:=ZxK (V:=ZxC) ZAC (by decide);have ht:(Ztp ZxS ZxC).take 10=Ztp ZxS ZxC:=ZGl (by omega);have hm:=ZyN (key:=ZnL.mk [] ZxS) (value:=ZnL.mk [] ZxC) ZAC ZCf (by decide) (by decide) (m:=10) (by decide) (by decide);have hS:mkS ZxS ZxC 10=⟨10,true,Ztp ZxS ZxC⟩:=by unfold mkS;rw[ht,decide_eq_true (show (Ztp ZxS ZxC).length≤10 by omega)];rfl
 dsimp only at hm;rw[hS,show ((10:Nat):Int)=10 from rfl]at hm;unfold ZxS ZxC at hm;refine Zrx ?_;unfold ZpH;rw[hm,ZnD,ZnB];dsimp only;rw[show ((0:Int) != 0)=false from rfl,cond_false,ZFQ,cond_false];show wp (bif ((Ztp ZxS ZxC).length:Int) != 2 then _ else _) _;rw[hlen,show (((2:Nat):Int) != 2)=false from rfl,cond_false,ZnD];show wp (ZqJ ⟨10,true,Ztp ZxS ZxC⟩) _;have hv:wp (ZqJ ⟨10,true,Ztp ZxS ZxC⟩) (fun x=>x=true):=by unfold ZqJ Zpe;dsimp only;rw[hlen,show decide ((10:Int) < 1)=false from rfl,cond_false,show decide ((10:Int) > 256)=false from rfl,cond_false,show decide (((2:Nat):Int) > 10)=false from rfl,cond_false,ZFQ,cond_false,cond_false,ZnD];have:=ZyY (s:=⟨10,true,Ztp ZxS ZxC⟩) (ZzT _ _) hg (by dsimp only;omega);dsimp only at this;rw[hlen]at this;refine ZnX this ?_;rintro _ rfl;unfold Zuf;rw[ZnB]
 refine ZnX hv ?_;rintro _ rfl;unfold Zpd;rw[ZFQ,cond_false,ZnD];show wp (Zpc big (Ztp ZxS ZxC) ((Ztp ZxS ZxC).length:Int) 0) _;refine ZnX (ZwT Zvk (Ztp ZxS ZxC) (by omega) (fun i (_:Unit)=>(Ztp ZxS ZxC,((Ztp ZxS ZxC).length:Int),i)) (fun _ _=>True) (Q:=fun x=>x= .brk ()) () trivial ?_ ?_) ?_
 ·rintro rec k _ hk _ ih;unfold ZrJ Zqn ZpO;dsimp only;obtain⟨k',_,he⟩:=Zze.1 (ZFY hk);rw[decide_eq_true (show (k:Int) < ((Ztp ZxS ZxC).length:Int) by omega),cond_true,Zu4 hk,ZnD,ZnB,Zop];refine⟨fun hc=> ?_,fun _=> ?_⟩
  ·have hk':k'=[97]:=by rw[←he]at hc;exact eq_of_beq hc
   rw[hk',EnA]at he;rw[←he];dsimp only;have hz:Sz 5 ((3:Int):Rat):=by rw[←ZxN];exact Zx4 (k:=5) (by decide) (by decide) (by decide)
   rw[show ((2:Int) != 2)=false from rfl,cond_false,ZBj 3 (by decide) (by decide),ZnD,ZnB,Zxo _ _ (hz.wq (by omega)) (hz.wq (by omega)),ZnD,ZnB,decide_eq_true rfl,ZFQ,cond_false,ZnH];exact⟨ZnK (by omega),ih () trivial⟩
  ·rw[cond_false,ZnH];exact⟨ZnK (by omega),ih () trivial⟩
 ·rintro rec _ _;unfold ZrJ Zqn;dsimp only;rw[decide_eq_false (show ¬((Ztp ZxS ZxC).length:Int) < ((Ztp ZxS ZxC).length:Int) by omega),cond_false,ZnB]
 ·rintro _ rfl;unfold Zr5;dsimp only;rw[Zzw (by decide),ZnD,ZnB,ZnB];rfl
end Go.Proofs
namespace Go.Proofs
open Go Eng
theorem ZBA {q:Rat} (h:Sz 110 q):Zvl (fOf q)=some (fOf q):=by
 have h1:=ZxB (n:=q.num.natAbs) h.1 4 (by omega);have h2:=ZxB (n:=q.den) h.2 4 (by omega);have e1:(fOf q).Num.Words.length≤4:=by show (iL (wd q.num.natAbs)).length≤4;rw[Zoz];exact h1
 have e2:(fOf q).Den.Words.length≤4:=by show (iL (wd ((q.den:Int)).natAbs)).length≤4;rw[Zoz,Int.natAbs_natCast];exact h2
 unfold Zvl;rw[Zua (by omega),Zua (by omega)];rfl
theorem ZxQ (R:List (Str×Rat)) (k:Str):Zva (En R k):=rfl
theorem ZBJ (R:List (Str×Rat)) (k:Str):cnt R k≤R.length:=ZFU
theorem ZvV (R:List (Str×Rat)) (m:Nat):(ZwG R m).Entries=((KS R).take m).map (En R):=by show (srt R).take m=_;rw[ZAh,List.map_take]
theorem ZAK (R R':List (Str×Rat)) {m:Nat} (hm:m≤100) (x:Str):wp (Ztg (ZwG R m) (En R' x)) (fun r=>(x∈(KS R).take m∧r=(En R x,true))∨(x∉(KS R).take m∧∃z,r=(z,false))):=by
 have hmem:∀f∈(ZwG R m).Entries,∃k∈(KS R).take m,f=En R k:=by intro f hf;rw[ZvV]at hf;obtain⟨k,hk,rfl⟩:=ZGe.1 hf;exact⟨k,hk,rfl⟩
 have hlt:(ZwG R m).Entries.Pairwise Lt:=by
  have h1:=(ZwK R).sublist (ZGm m _);rw[ZvV,ZGi];exact h1.imp fun {a b} h=>by show Ztf (En R a) (En R b) < 0;rw[ZyK (ZxQ _ _) (ZxQ _ _)];exact h
 have hlen:(ZwG R m).Entries.length≤100:=by show ((srt R).take m).length≤100;rw[ZF6];omega
 refine ZnX (ZCK (En R' x) hlt hlen (fun f hf=>by obtain⟨k,_,rfl⟩:=hmem f hf;rfl) rfl) ?_;rintro r (⟨f,hf,hk,rfl⟩ |⟨hno,z,rfl⟩)
 ·obtain⟨k,hk2,rfl⟩:=hmem f hf;have hk':k=x:=hk;subst hk';exact .inl ⟨hk2,rfl⟩
 ·refine .inr ⟨fun hx=> ?_,z,rfl⟩;refine hno (En R x) ?_ rfl;rw[ZvV];exact ZGe.2 ⟨x,hx,rfl⟩
theorem Zzk (R R':List (Str×Rat)) {m:Nat} (h0:0 < m) (hm:m≤100) (x:Str):ZpP (ZwG R m) (En R' x)=some (bey R m x):=by
 have hlen:(ZwG R m).Entries.length=min m (srt R).length:=ZF6;rw[ZAR (En R' x) (by omega) (fun hA=>by have:¬(srt R).length≤m:=of_decide_eq_false hA;omega)]
 congr 1;unfold bey;rw[Zxz];show (!decide ((srt R).length≤m)&&_)=_;congr 1;refine decide_eq_decide.2 ?_;rw[ZvV,List.getLast?_map];cases ((KS R).take m).getLast? with
 |none=>simp
 |some k=>
  rw[Option.map_some];constructor
  ·intro h f hf;obtain rfl:=Option.mem_some.1 hf;have:=h (En R k) rfl
   rwa [ZyK (ZxQ _ _) (ZxQ _ _)]at this
  ·intro h f hf;obtain rfl:=Option.mem_some.1 hf;rw[ZyK (ZxQ _ _) (ZxQ _ _)];exact h k rfl
section
variable {R1 R2:List (Str×Rat)} (z1:∀r∈R1,Sz 4 r.2) (z2:∀r∈R2,Sz 4 r.2) (n1:R1.length≤20) (n2:R2.length≤20)
include z1 z2 n1 n2
theorem ZDj (x:Str):Sz 110 (sm R1 x)∧Sz 110 (sm R2 x):=⟨(Zys z1 x).mono (by omega),(Zys z2 x).mono (by omega)⟩
theorem ZAO (x:Str):Sz 110 (sm R1 x)∧Sz 110 (sm R2 x)∧Sz 220 (sm R1 x+sm R2 x):=by have h:=ZDj z1 z2 n1 n2 x;exact⟨h.1,h.2,((Zys z1 x).add (Zys z2 x)).mono (by omega)⟩
end
theorem ZCr {q:Rat} (h:Sz 220 q):Zvl (fOf q)=some (fOf q):=by
 have h1:=ZxB (n:=q.num.natAbs) h.1 8 (by omega);have h2:=ZxB (n:=q.den) h.2 8 (by omega);have e1:(fOf q).Num.Words.length≤8:=by show (iL (wd q.num.natAbs)).length≤8;rw[Zoz];exact h1
 have e2:(fOf q).Den.Words.length≤8:=by show (iL (wd ((q.den:Int)).natAbs)).length≤8;rw[Zoz,Int.natAbs_natCast];exact h2
 unfold Zvl;rw[Zua (by omega),Zua (by omega)];rfl
theorem ZCV (R1 R2:List (Str×Rat)) (x:Str):ZnA.mk x (ZxV x) ((cnt R1 x:Int)+(cnt R2 x:Int)) (fOf (sm R1 x+sm R2 x))=En (R1++R2) x:=by unfold En;rw[ZxP,Zx6,Int.natCast_add]
theorem ZCU {R1 R2:List (Str×Rat)} {x:Str} (h:x∉ZwL R2):En R1 x=En (R1++R2) x:=by unfold En;rw[ZxP,Zx6,(Zzl h).1,(Zzl h).2,Rat.add_zero,Nat.add_zero]
theorem ZBs {R1 R2:List (Str×Rat)} {x:Str} (h:x∉ZwL R1):En R2 x=En (R1++R2) x:=by unfold En;rw[ZxP,Zx6,(Zzl h).1,(Zzl h).2,Rat.zero_add,Nat.zero_add]
theorem ZzV (p:Str→Bool) {L:List Str} {k:Nat} (hk:k < L.length):(L.take (k+1)).filter p=(L.take k).filter p++if p L[k]then [L[k]]else []:=by rw[ZGo hk,List.filter_append];congr 1;rw[List.filter_cons,List.filter_nil]
theorem ZAJ (p:Str→Bool) (L:List Str) (k:Nat):((L.take k).filter p).length≤k:=by refine ZGp (ZF3 _ _) ?_;rw[ZF6];omega
section
variable {R1 R2:List (Str×Rat)} (z1:∀r∈R1,Sz 4 r.2) (z2:∀r∈R2,Sz 4 r.2) (n1:R1.length≤20) (n2:R2.length≤20) {m:Nat} (h0:0 < m) (hm:m≤100)
include z1 z2 n1 n2 h0 hm
theorem ZDx (a:ZnC) (t4:Int) (t41:Bool) (o:Int) (o1:Bool) (t42:List ZnA):
  wp (Zri big (((KS R1).take m).map (En R1)) ((((KS R1).take m).map (En R1)).length:Int) 0 a (ZwG R2 m) t4 t41 o o1 t42 []) (fun y=>y=(a,ZwG R2 m,t4,t41,o,o1,t42,(mk1 R1 R2 m).map (En (R1++R2)))):=by
 have hLm:((KS R1).take m).length≤100:=by rw[ZF6];omega
 unfold mk1;generalize (KS R1).take m=L at*
 have hlm:(L.map (En R1)).length=L.length:=ZF4 _;refine ZwT Zw2 (L.map (En R1)) (by omega) (fun i (w:List ZnA)=>(L.map (En R1),((L.map (En R1)).length:Int),i,a,ZwG R2 m,t4,t41,o,o1,t42,w)) (fun k w=>w=((L.take k).filter (p1 R2 m)).map (En (R1++R2))) (Q:=fun y=>y=(a,ZwG R2 m,t4,t41,o,o1,t42,(L.filter (p1 R2 m)).map (En (R1++R2)))) [] (by simp) ?_ ?_
 ·rintro rec k _ hk rfl ih;have hk':k < L.length:=by omega
  have hb:=ZAO z1 z2 n1 n2 L[k];have hc1:=ZBJ R1 L[k];have hc2:=ZBJ R2 L[k];have hfl:=ZAJ (p1 R2 m) L k;have hstep:=ZzV (p1 R2 m) hk';unfold ZuM Ztj Zuk Zuj;dsimp only;rw[decide_eq_true (show (k:Int) < ((L.map (En R1)).length:Int) by omega),cond_true,Zu4 hk,ZnD,ZnB,List.getElem_map,ZnD];refine ZnX (ZAK R2 R1 hm L[k]) ?_;rintro _ (⟨hin,rfl⟩ |⟨hni,z,rfl⟩)
  ·have hp:p1 R2 m L[k]=true:=by unfold p1;rw[decide_eq_true hin];rfl
   rw[hp,if_pos rfl]at hstep;dsimp only;rw[cond_true,ZnH];dsimp only[En];rw[Zy8 hb.1 hb.2.1 (by omega),ZnD,ZnB,ZCr hb.2.2,ZnD,ZnB,ZnH,ZnH];refine⟨ZnK (by omega),Zua (by rw[ZF4,ZF5];omega),ZnK (by omega),ih _ ?_⟩;rw[hstep,ZF8,ZCV];rfl
  ·dsimp only;rw[cond_false,Zzk R2 R1 h0 hm,ZnD,ZnB];cases hbey:bey R2 m L[k]with
   |true=>
    have hp:p1 R2 m L[k]=false:=by unfold p1;rw[decide_eq_false hni,hbey];rfl
    rw[hp,if_neg (by simp),List.append_nil]at hstep;rw[cond_true,ZnH];refine⟨ZnK (by omega),ih _ ?_⟩;rw[hstep]
   |false=>
    have hp:p1 R2 m L[k]=true:=by unfold p1;rw[hbey];simp
    rw[hp,if_pos rfl]at hstep;have hE:=ZCU (R1:=R1) (Zy9 h0 hni hbey);rw[cond_false];dsimp only[En];rw[ZBA hb.1,ZnD,ZnB,ZnH,ZnH];refine⟨Zua (by rw[ZF4,ZF5];omega),ZnK (by omega),ih _ ?_⟩;rw[hstep,ZF8];show _++[En R1 L[k]]=_++[En (R1++R2) L[k]];rw[hE]
 ·rintro rec _ rfl;unfold ZuM Ztj;dsimp only;rw[decide_eq_false (show ¬((L.map (En R1)).length:Int) < ((L.map (En R1)).length:Int) by omega),cond_false,ZnB,hlm,ZGk]
theorem ZDw (t4:Int) (t41:Bool) (o:Int) (o1:Bool) (t42:List ZnA) {W:List ZnA} (hW:W.length≤100):
  wp (Zrh big (((KS R2).take m).map (En R2)) ((((KS R2).take m).map (En R2)).length:Int) 0 (ZwG R1 m) t4 t41 o o1 t42 W) (fun y=>y=(t4,t41,o,o1,t42,W++(mk2 R1 R2 m).map (En (R1++R2)))):=by
 have hLm:((KS R2).take m).length≤100:=by rw[ZF6];omega
 unfold mk2;generalize (KS R2).take m=L at*
 have hlm:(L.map (En R2)).length=L.length:=ZF4 _;refine ZwT Zw1 (L.map (En R2)) (by omega) (fun i (w:List ZnA)=>(L.map (En R2),((L.map (En R2)).length:Int),i,ZwG R1 m,t4,t41,o,o1,t42,w)) (fun k w=>w=W++((L.take k).filter (p2 R1 m)).map (En (R1++R2))) (Q:=fun y=>y=(t4,t41,o,o1,t42,W++(L.filter (p2 R1 m)).map (En (R1++R2)))) W (by simp) ?_ ?_
 ·rintro rec k _ hk rfl ih;have hk':k < L.length:=by omega
  have hb:=ZAO z1 z2 n1 n2 L[k];have hfl:=ZAJ (p2 R1 m) L k;have hstep:=ZzV (p2 R1 m) hk';unfold ZuL Zti Zui Zuh;dsimp only;rw[decide_eq_true (show (k:Int) < ((L.map (En R2)).length:Int) by omega),cond_true,Zu4 hk,ZnD,ZnB,List.getElem_map,ZnD];have skip:p2 R1 m L[k]=false→wp (chk (inK .i64 ((k:Int)+1)) (rec (L.map (En R2),((L.map (En R2)).length:Int),(k:Int)+1,ZwG R1 m,t4,t41,o,o1,t42,W++((L.take k).filter (p2 R1 m)).map (En (R1++R2))))) (fun y=>y=(t4,t41,o,o1,t42,W++(L.filter (p2 R1 m)).map (En (R1++R2)))):=by intro hp;rw[hp,if_neg (by simp),List.append_nil]at hstep;rw[ZnH];refine⟨ZnK (by omega),ih _ ?_⟩;rw[hstep]
  refine ZnX (ZAK R1 R2 hm L[k]) ?_;rintro _ (⟨hin,rfl⟩ |⟨hni,z,rfl⟩)
  ·dsimp only;rw[ZFQ,cond_false,cond_false];exact skip (by unfold p2;rw[decide_eq_true hin];rfl)
  ·dsimp only;rw[ZDq,cond_true,Zzk R1 R2 h0 hm,ZnD,ZnB];cases hbey:bey R1 m L[k]with
   |true=>
    rw[ZFQ,cond_false];exact skip (by unfold p2;rw[hbey];simp)
   |false=>
    have hp:p2 R1 m L[k]=true:=by unfold p2;rw[hbey,decide_eq_false hni];rfl
    rw[hp,if_pos rfl]at hstep;have hE:=ZBs (R2:=R2) (Zy9 h0 hni hbey);rw[ZDq,cond_true];dsimp only[En];rw[ZBA hb.2.1,ZnD,ZnB,ZnH,ZnH];refine⟨Zua (by rw[ZFZ,ZF4,ZF5];omega),ZnK (by omega),ih _ ?_⟩;rw[hstep,ZF8,List.append_assoc];show _++(_++[En R2 L[k]])=_++(_++[En (R1++R2) L[k]]);rw[hE]
 ·rintro rec _ rfl;unfold ZuL Zti;dsimp only;rw[decide_eq_false (show ¬((L.map (En R2)).length:Int) < ((L.map (En R2)).length:Int) by omega),cond_false,ZnB,hlm,ZGk]
end
end Go.Proofs
namespace Go.Proofs
open Go Eng
theorem ZBb (K V:List ZnE) (m:Nat):mkS K V m=ZwG (Zq2 K V) m:=rfl
theorem ZzD {K V:List ZnE} (hK:∀c∈K,Zu8 c) (hn:K.length≤20) {z:Nat} (hz:z≤100):wp (ZqJ (ZwG (Zq2 K V) (1+z))) (fun x=>x=true):=by
 have hgood:∀e∈Ztp K V,ZDc e:=ZxK hK hn;have hlt:=ZzT K V;have hEl:(mkS K V (1+z)).Entries.length=min (1+z) (Ztp K V).length:=ZF6;have hkl:(Ztp K V).length≤K.length:=ZAB;rw[←ZBb];unfold ZqJ Zpe;have hK:(mkS K V (1+z)).K=((1+z:Nat):Int):=rfl;have hA:(mkS K V (1+z)).All=decide ((Ztp K V).length≤1+z):=rfl;rw[hK,decide_eq_false (show ¬((1+z:Nat):Int) < 1 by omega),cond_false,decide_eq_false (show ¬((1+z:Nat):Int) > 256 by omega),cond_false,decide_eq_false (show ¬((mkS K V (1+z)).Entries.length:Int) > ((1+z:Nat):Int) by omega),cond_false];have Zd:wp (Zpe false (mkS K V (1+z))) (fun x=>x=true):=by unfold Zpe;rw[cond_false,ZnD];refine ZnX (ZyY (s:=mkS K V (1+z)) (hlt.sublist (ZGm _ _)) (fun e he=>hgood e (ZGf he)) (by omega)) ?_;rintro _ rfl;unfold Zuf;rw[ZnB]
 unfold Zpe at Zd
 by_cases hall:(Ztp K V).length≤1+z
 ·rw[hA,decide_eq_true hall,ZFQ,cond_false];exact Zd
 ·rw[hA,decide_eq_false hall,ZDq,cond_true,decide_eq_false (show ¬((mkS K V (1+z)).Entries.length:Int) < ((1+z:Nat):Int) by omega)];exact Zd
theorem ZzR {K1 V1 K2 V2:List ZnE} (h1:∀c∈K1,Zu8 c) (h2:∀c∈K2,Zu8 c) (l1:K1.length≤20) (l2:K2.length≤20) {z:Nat} (hz:z≤5):
  wp (ZtA (ZwG (Zq2 K1 V1) (1+z)) (ZwG (Zq2 K2 V2) (1+z))) (fun x=>x=(ZwG (Zq2 K1 V1++Zq2 K2 V2) (1+z),0)):=by
 have r1:(Zq2 K1 V1).length≤20:=by refine ZGp (ZF2 _ _) ?_;rw[ZF7];omega
 have r2:(Zq2 K2 V2).length≤20:=by refine ZGp (ZF2 _ _) ?_;rw[ZF7];omega
 have v1:=ZzD (V:=V1) h1 l1 (z:=z) (by omega);have v2:=ZzD (V:=V2) h2 l2 (z:=z) (by omega);have z1:∀r∈Zq2 K1 V1,Sz 4 r.2:=Zx0;have z2:∀r∈Zq2 K2 V2,Sz 4 r.2:=Zx0;generalize Zq2 K1 V1=R1 at*
 generalize Zq2 K2 V2=R2 at*
 have e1:=ZvV R1 (1+z);have e2:=ZvV R2 (1+z);have c1:(mk1 R1 R2 (1+z)).length≤6:=by unfold mk1;refine ZGp (ZF3 _ _) ?_;rw[ZF6];omega
 have c2:(mk2 R1 R2 (1+z)).length≤6:=by unfold mk2;refine ZGp (ZF3 _ _) ?_;rw[ZF6];omega
 have main:∀(t4:Int) (t41:Bool) (t42:List ZnA),wp (Zs5 (ZwG R1 (1+z)) (ZwG R2 (1+z)) t4 t41 ((1+z:Nat):Int) (decide ((srt R1).length≤1+z)&&decide ((srt R2).length≤1+z)) t42 []) (fun x=>x=(ZwG (R1++R2) (1+z),0)):=by
  intro t4 t41 t42;unfold Zs5;rw[e1,ZnD];refine ZnX (ZDx z1 z2 r1 r2 (m:=1+z) (by omega) (by omega) _ _ _ _ _ _) ?_;rintro _ rfl;dsimp only;unfold Zvc;rw[e2,ZnD];refine ZnX (ZDw z1 z2 r1 r2 (m:=1+z) (by omega) (by omega) _ _ _ _ _ (by rw[ZF4];omega)) ?_;rintro _ rfl;dsimp only;unfold Zvb Zug;rw[←ZF8];have hs:=Zy4 (D:=(mk1 R1 R2 (1+z)++mk2 R1 R2 (1+z)).map (En (R1++R2))) (by rw[ZF4,ZFZ];omega) (En (R1++R2)) (fun e he=>by obtain⟨k,_,rfl⟩:=ZGe.1 he;rfl);rw[hs,ZnD,ZnB];obtain⟨m1,m2⟩:=ZDy R1 R2 (m:=1+z) (by omega) rfl;generalize ZsT ltE ((mk1 R1 R2 (1+z)++mk2 R1 R2 (1+z)).map (En (R1++R2)))=l at*
  by_cases hc:1+z < l.length
  ·rw[decide_eq_true (show (l.length:Int) > ((1+z:Nat):Int) by omega),cond_true,ZnH,ZnB,m1 hc,List.drop_zero,ZFS,Nat.sub_zero];exact⟨ZtN (by omega),rfl⟩
  ·rw[decide_eq_false (show ¬(l.length:Int) > ((1+z:Nat):Int) by omega),cond_false,ZnB,m2 (by omega)]
 unfold ZtA;rw[ZnD];refine ZnX v1 ?_;rintro _ rfl;rw[ZFQ,cond_false,ZnD];refine ZnX v2 ?_;rintro _ rfl;unfold Zul;have k1:(ZwG R1 (1+z)).K=((1+z:Nat):Int):=rfl;have k2:(ZwG R2 (1+z)).K=((1+z:Nat):Int):=rfl;have a1:(ZwG R1 (1+z)).All=decide ((srt R1).length≤1+z):=rfl;have a2:(ZwG R2 (1+z)).All=decide ((srt R2).length≤1+z):=rfl;have m3:=main 0 false [];rw[ZFQ,cond_false,k1,k2,show (((1+z:Nat):Int) != ((1+z:Nat):Int))=false by simp,cond_false,a1,a2];cases h:decide ((srt R1).length≤1+z)with
 |true=>
  rw[h,Bool.true_and]at m3;rw[cond_true];exact m3
 |false=>
  rw[h,Bool.false_and]at m3;rw[cond_false];exact m3
theorem ZAk {R R':List (Str×Rat)} (h:R.Perm R') (m:Nat):ZwG R m=ZwG R' m:=by unfold ZwG;rw[ZA4 h]
theorem ZA8 {K V:List ZnE} (hl:K.length=V.length) (c:Nat):Zq2 (K.take c) (V.take c)++Zq2 (K.drop c) (V.drop c)=Zq2 K V:=by unfold Zq2;rw[←List.filterMap_append,←List.zip_append (by rw[ZF6,ZF6];omega),ZGj,ZGj]
theorem sketchMerges_law (t:List Int) (k cut_:Int):ZpV t k cut_=some true:=by
 refine Zrx ?_;unfold ZpV Zsf;rw[ZnD,ZnB,Zop];refine⟨fun _=>by rw[ZAS,ZnD,ZnB,ZnB],fun hl=> ?_⟩;simp only[Bool.not_eq_false',decide_eq_true_eq]at hl;unfold Zss;rw[ZnD,ZnB,ZnD];refine ZnX (ZxI (d:=⟨t,0⟩) ⟨by simp,by simp,by simp only;omega⟩ (n:=14) (by omega)) ?_;rintro⟨n,d1⟩ ⟨hn,hd1⟩;dsimp only at hn hd1⊢
 obtain⟨n,rfl⟩:=ZFR hn.1;rw[ZnD];refine ZnX (Zzi hd1 n (by omega)) ?_;rintro⟨key,d2⟩ ⟨⟨hkl,hk⟩,hd2⟩;dsimp only at hkl hk hd2⊢
 rw[ZnD];refine ZnX (Zzi hd2 n (by omega)) ?_;rintro⟨value,d3⟩ ⟨⟨hvl,hv⟩,hd3⟩;dsimp only at hvl hv hd3⊢
 rw[ZnD];refine ZnX (ZAy k (m:=5) (by omega)) fun z hz=> ?_
 obtain⟨z,rfl⟩:=ZFR hz.1;rw[ZnH,ZnH,ZnD];refine⟨ZnK (by omega),ZnK (by omega),ZnX (ZAy cut_ (m:=(n:Int)+1) (by omega)) fun c hc=> ?_⟩;obtain⟨c,rfl⟩:=ZFR hc.1;obtain⟨kn,K⟩:=key;obtain⟨vn,V⟩:=value;dsimp only at*
 have ht:∀{l:List ZnE},(∀x∈l,Zu8 x)→∀x∈l.take c,Zu8 x:=fun h x hx=>h x (ZGf hx)
 have hd:∀{l:List ZnE},(∀x∈l,Zu8 x)→∀x∈l.drop c,Zu8 x:=fun h x hx=>h x (List.mem_of_mem_drop hx)
 rw[ZnH,ZnH,ZFS,show 1+(z:Int)=((1+z:Nat):Int) by omega,
  ZyN (key:=⟨[],K.take c⟩) (value:=⟨[],V.take c⟩) (ht hk) (ht hv) (by dsimp only;rw[ZF6];omega) (by dsimp only;rw[ZF6,ZF6];omega) (m:=1+z) (by omega) (by omega),ZnD,ZnB,ZnH,ZnH,
  ZyN (key:=⟨[],K.drop c⟩) (value:=⟨[],V.drop c⟩) (hd hk) (hd hv) (by dsimp only;rw[ZF1];omega) (by dsimp only;rw[ZF1,ZF1];omega) (m:=1+z) (by omega) (by omega),ZnD,ZnB,
  ZyN (key:=⟨kn,K⟩) (value:=⟨vn,V⟩) hk hv (by dsimp only;omega) (by dsimp only;omega) (m:=1+z) (by omega) (by omega),ZnD,ZnB]
 refine⟨ZtN (by omega),ZtN (by omega),ZtN (by omega),ZtN (by omega), ?_⟩;dsimp only;rw[ZBb,ZBb,ZBb];have hgood:∀e∈(ZwG (Zq2 K V) (1+z)).Entries,ZDc e:=fun e he=>ZxK hk (by omega) e (ZGf he)
 have hlen:(ZwG (Zq2 K V) (1+z)).Entries.length≤1000:=by show ((srt (Zq2 K V)).take (1+z)).length≤1000;rw[ZF6];omega
 have hab:=ZzR (V1:=V.take c) (V2:=V.drop c) (ht hk) (hd hk) (by rw[ZF6];omega) (by rw[ZF1];omega) (z:=z) (by omega);have hba:=ZzR (V1:=V.drop c) (V2:=V.take c) (hd hk) (ht hk) (by rw[ZF1];omega) (by rw[ZF6];omega) (z:=z) (by omega);have hcut:=ZA8 (K:=K) (V:=V) (by omega) c;have hperm:(Zq2 (K.drop c) (V.drop c)++Zq2 (K.take c) (V.take c)).Perm (Zq2 K V):=by rw[←hcut];exact List.perm_append_comm
 rw[hcut]at hab;rw[ZAk hperm]at hba;have hsame:Zpu (ZwG (Zq2 K V) (1+z)) (ZwG (Zq2 K V) (1+z))=some true:=ZA6 rfl rfl rfl hgood hlen;rw[ZnD];refine ZnX hab ?_;rintro _ rfl;dsimp only;rw[ZnD];refine ZnX hba ?_;rintro _ rfl;dsimp only;unfold ZnS;rw[show ((0:Int) == 0)=true from rfl,cond_true,cond_true,cond_true,cond_true,cond_true,hsame,ZnD,ZnB,cond_true,ZnD,ZnB,cond_true,ZAS,ZnD,ZnB,ZnB]
end Go.Proofs
namespace Eng
open Go Go.Lib
theorem globOk_one {Pg:Program} {w:World} {n:String} {g:Nat} {t e:TypeId} {k:IntKind} {z:Int} (hn:Pg.globalNamed n=some g) (hty:(Pg.globals[g]?).map (·.type)=some t)
  (ht:Pg.underlying t=some (.slice e)) (he:Pg.underlying e=some (.int k)) (hce:Pg.cellsOf e=1) (hz:k.min≤z∧z≤k.max)
  (h:VarReads Pg w n (.slice [.lit (.int k z)] [])):Zej w (fun b=>b < w.heap.size) g [P.sl 1 [.int k z]]:=by
 obtain⟨g',t',cs,fuel,p,hg,hty',hvar,hd⟩:=h;obtain rfl:=ZGr (hn.symm.trans hg);obtain rfl:=ZGr (hty.symm.trans hty');rcases DataW.trod_slice ht hd with ⟨_,hx⟩ |⟨a,len,cap,elems,rest,m,_,hcs,hx,_,hl,hcap,hlen,hel,_,_⟩
 ·cases congrArg Prod.fst hx
 ·have e0:=congrArg Prod.fst hx;simp only[DataW.slice.injEq]at e0;obtain⟨e1,_⟩:=e0
  match elems,e1 with
  | [(d,q)],e1=>
   simp only[ZF9,List.map_nil,List.cons.injEq,and_true]at e1;subst e1;have hlen1:len=1:=by simpa using hlen.symm
   subst hlen1;obtain⟨ci,hci,htr⟩:=Option.bind_eq_some_iff.1 (hel 0 (by decide));obtain⟨z',hc,hxx,_⟩:=DataW.trod_int he htr;have hzz:z'=z:=by have:=congrArg Prod.fst hxx;simpa using this.symm
   subst hzz;subst hc;rw[hce,Nat.zero_mul]at hci;obtain⟨_,_,hc2⟩:=World.cells?_some hci;have h0:=hc2 0 (by decide);have hb:w.cell? a=some (.int k z'):=by simpa[Addr.add]using h0
   have hspot:a.spot=none:=by
    unfold World.cell? at hb;cases hs:a.spot with
    |none=>rfl
    |some s=>rw[hs]at hb;split at hb<;>simp at hb
   have ha:a=⟨a.block,a.off,none⟩:=by cases a;simp at hspot;subst hspot;rfl
   have hlt:a.block < w.heap.size:=ZjV (by rw[ha]at hb;exact hb);have hcs1:cs.size=1:=by have:=congrArg List.length hcs;simpa using this
   refine ZwS (t:=0) (fr:= #[]) (Zx2 hn hvar) _ (by rw[hcs1];rfl) fun j v p hv hp=> ?_
   have hj:j=0:=by have:=(Array.getElem?_eq_some_iff.1 hv).1;omega
   subst hj;simp only[ZFW,Option.some.injEq]at hp;subst hp;rw[←Array.getElem?_toList,hcs]at hv;simp only[ZFW,Option.some.injEq]at hv;subst hv;refine⟨.sl (some a) 1 cap _ _ (fun _=> .int k z') rfl (by decide) hl (fun i hi=>rfl) (fun i hi=> ?_) (fun i x hx=> ?_),rfl⟩
   ·have hi0:i=0:=by omega
    subst hi0;refine⟨a.block,a.off,by rw[←ha],hlt,fun j v hv=> ?_⟩;have hj:=(Array.getElem?_eq_some_iff.1 hv).1;have hj0:j=0:=by have:(Value.int k z').cells.size=1:=rfl;omega
    subst hj0;have hvv:v= .int k z':=by have:(Value.int k z').cells[0]? =some (.int k z'):=rfl;exact ZGr (hv.symm.trans this)
    subst hvv;rw[ha]at hb;simpa using hb
   ·have hi0:i=0:=by have:=(ZFX.1 hx).1;simp at this;omega
    subst hi0;simp only[ZFW,Option.some.injEq]at hx;subst hx;exact .int k z' hz.1 hz.2
end Eng
