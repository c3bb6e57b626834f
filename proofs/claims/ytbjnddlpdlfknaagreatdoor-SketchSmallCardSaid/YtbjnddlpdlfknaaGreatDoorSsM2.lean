/- Plain laws over the specs, part 2. -/
import Derived.Test.YtbjnddlpdlfknaaGreatDoorSsM1
import Derived.Test.YtbjnddlpdlfknaaGreatDoorQ
set_option linter.unusedVariables false
set_option linter.unusedSimpArgs false
set_option linter.unusedSectionVars false
open List renaming map_cons→ZFa, length_take→ZE9, sum_cons→ZFb, all_eq_true→ZCA, length_cons→ZE8, take_succ_eq_append_getElem→ZFc, getElem?_cons_zero→ZE7
namespace Go.Proofs
open Go Eng
theorem ZCE {s:Str} (h:s∈[48]::(ZzZ.map (·.1)++ZzB.map (·.1))):(nv (ZnB.mk false s)).isSome=true:=by
 have key:∃q,ZoN (ZnB.mk false s)=some (fOf q,true)∧Sz 4 q:=by
  rcases List.mem_cons.1 h with rfl |h
  ·exact⟨_,valZ,Zwt (by decide) (by decide) (by decide)⟩
  ·rcases List.mem_append.1 h with h |h
   ·obtain⟨p,hp,rfl⟩:=List.mem_map.1 h;have h1:=of_decide_eq_true (ZCA.1 ZyT p hp);have h2:=ZCA.1 ZAf p hp;simp only[Bool.and_eq_true,decide_eq_true_eq]at h2;rw[h2.1]at h1;exact⟨_,h1,Zwt (by decide) h2.2 (by decide)⟩
   ·obtain⟨p,hp,rfl⟩:=List.mem_map.1 h;have h1:=of_decide_eq_true (ZCA.1 Zzk p hp);have h2:=ZCA.1 ZAg p hp;simp only[Bool.and_eq_true,decide_eq_true_eq]at h2;rw[h2.1]at h1;exact⟨_,h1,Zwt (by decide) h2.2 (by decide)⟩
 obtain⟨q,h1,h2⟩:=key;rw[ZA1 h1 h2];rfl
theorem ZEr {s:Str} (h:s∈noT):(nv (ZnB.mk false s)).isSome=false:=by
 have h1:=ZCA.1 ZA2 s h;split at h1;rotate_left;simp at h1;rename_i f hf;cases hn:nv (ZnB.mk false s)with
 |none=>rfl
 |some q=>
  have:=(Zxu hn).1;rw[hf]at this;simp at this
theorem Zzp {c:ZnB} (h:Zwc c):∃f,ZoH c=some (f,(nv c).isSome):=by
 rcases h with rfl |⟨s,hs,rfl⟩
 ·refine⟨ZnD.mk (ZnC.mk false ([]:(List Int))) (ZnC.mk false ([]:(List Int))), ?_⟩
  ·have:nv (ZnB.mk true [])=none:=by
    cases hn:nv (ZnB.mk true [])with
    |none=>rfl
    |some q=>
     have h1:=(Zxu hn).1;unfold ZoN at h1;dsimp only at h1;rw[cond_true,ZyN]at h1;simp at h1
   rw[this];rfl
 ·have hs':s∈[48]::(ZzZ.map (·.1)++ZzB.map (·.1))∨s∈noT:=by
   rcases List.mem_cons.1 hs with rfl |hs
   ·exact .inl (by simp)
   ·rcases List.mem_append.1 hs with hs |hs
    ·exact .inl (List.mem_cons_of_mem _ hs)
    ·exact .inr hs
  rcases hs' with hs' |hs'
  ·have h1:=ZCA.1 ZAE s hs';split at h1;rotate_left;simp at h1;rename_i f hf;exact⟨f,by rw[hf,ZCE hs']⟩
  ·have h1:=ZCA.1 ZBD s hs';split at h1;rotate_left;simp at h1;rename_i f hf;exact⟨f,by rw[hf,ZEr hs']⟩
def mpb:List Str→List (Str×Bool)
 | []=>[]
 |k::r=>(k,true)::mpb r
theorem Zym:∀ks:List Str,(mpb ks).length=ks.length
 | []=>rfl
 |k::r=>by unfold mpb;rw[ZE8,ZE8,Zym r]
theorem Zzf:∀(ks:List Str) (s:Str),mpb (ks++[s])=mpb ks++[(s,true)]
 | [],_=>rfl
 |k::r,s=>by rw[List.cons_append];unfold mpb;rw[Zzf r,List.cons_append]
theorem Zzh:∀(ks:List Str) (s:Str),s∈ks→Zg3 (k:= .str) (v:= .bool) (car:=ZuU) (mpb ks) s=some true
 | [],_,h=>absurd h (by simp)
 |k::r,s,h=>by
  unfold mpb;show (((k,true)::mpb r).find? fun e=>s == e.1).map (·.2)=some true;rw[List.find?_cons];cases e:s == k with
  |true=>rfl
  |false=>
   have:s∈r:=(List.mem_cons.1 h).resolve_left (by simpa using e);exact Zzh r s this
theorem anyb:∀(ks:List Str) (s:Str),(mpb ks).any (fun e=>ZlP (car:=ZuU) .str s e.1)=decide (s∈ks)
 | [],_=>rfl
 |k::r,s=>by
  unfold mpb;rw[List.any_cons,anyb r s];show ((s == k)||decide (s∈r))=_
  by_cases h:s=k
  ·subst h;simp
  ·rw[show (s == k)=false by simpa using h];simp[h]
theorem Zz1:∀(ks:List Str) (s:Str),(mpb ks).map (fun e=>if ZlP (car:=ZuU) .str s e.1=true then (e.1,true)else e)=mpb ks
 | [],_=>rfl
 |k::r,s=>by unfold mpb;rw[ZFa,Zz1 r s];congr 1;split<;>rfl
theorem ZzO (ks:List Str) (r:Str×Rat):setB (k:= .str) (v:= .bool) (car:=ZuU) (mpb ks) r.1 true=mpb (Zv6 ks r):=by
 unfold setB Zv6;rw[anyb]
 by_cases h:r.1∈ks
 ·rw[if_pos (decide_eq_true h),if_pos h];exact Zz1 ks r.1
 ·rw[decide_eq_false h,if_neg (by simp),if_neg h,Zzf]
theorem ZCK {K V:List ZnB} (hV:∀c∈V,Zwc c) (hn:K.length≤20) (hl:K.length=V.length) (nm:Str) (s:Str) (m e:Int) (x:ZnG):
  wp (ZnU big s m e 0 K (K.length:Int) 0 (ZnI.mk nm V) x []) (fun y=>y=(s,m,e,((ZpE K V).length:Int),x,mpb (ZwB (ZpE K V)))):=by
 refine ZwQ Zut K (by omega) (fun i (t:Int×List (Str×Bool))=>(s,m,e,t.1,K,(K.length:Int),i,ZnI.mk nm V,x,t.2))
  (fun k t=>t.1=((ZpE (K.take k) (V.take k)).length:Int)∧t.2=mpb (ZwB (ZpE (K.take k) (V.take k)))) (Q:=fun y=>y=(s,m,e,((ZpE K V).length:Int),x,mpb (ZwB (ZpE K V)))) (0,[]) ⟨rfl,rfl⟩ ?_ ?_
 ·rintro rec k ⟨rows,keys⟩ hk ⟨hr,hks⟩ ih;dsimp only at hr hks ih;subst hr hks;have hkv:k < V.length:=by omega
  have hrl:(ZpE (K.take k) (V.take k)).length≤k:=by unfold ZpE;refine Nat.le_trans (List.length_filterMap_le _ _) ?_;rw[List.length_zip,ZE9];omega
  have hstep:ZpE (K.take (k+1)) (V.take (k+1))=ZpE (K.take k) (V.take k)++(Zwx (K[k],V[k])).toList:=by unfold ZpE;rw[ZFc hk,ZFc hkv,List.zip_append (by rw[ZE9,ZE9];omega),List.filterMap_append];congr 1
  obtain⟨f,hf⟩:=Zzp (hV _ (List.getElem_mem hkv));unfold ZpB ZoF;dsimp only;rw[decide_eq_true (show (k:Int) < (K.length:Int) by omega),cond_true,Zv8 hk,ZnH,ZnF,Zv8 hkv,ZnH,ZnF,hf,ZnH,ZnF];dsimp only;unfold ZoS ZoR;have none_row:Zwx (K[k],V[k])=none→wp (rec (s,m,e,((ZpE (K.take k) (V.take k)).length:Int),K,(K.length:Int),(k:Int)+1,ZnI.mk nm V,x,mpb (ZwB (ZpE (K.take k) (V.take k))))) (fun y=>y=(s,m,e,((ZpE K V).length:Int),x,mpb (ZwB (ZpE K V)))):=by intro h;refine ih (_,_) ?_;rw[hstep,h];simp
  cases hnv:nv V[k]with
  |none=>
   have hrow:Zwx (K[k],V[k])=none:=by unfold Zwx;dsimp only;rw[hnv];split<;>rfl
   rw[show (none:Option Rat).isSome=false from rfl,cond_false,cond_false,ZnJ];exact⟨ZnM (by omega),none_row hrow⟩
  |some q=>
   rw[show (some q).isSome=true from rfl,cond_true];cases hnull:K[k].Null with
   |true=>
    have hrow:Zwx (K[k],V[k])=none:=by unfold Zwx;rw[if_pos hnull]
    rw[Bool.not_true,cond_false,ZnJ];exact⟨ZnM (by omega),none_row hrow⟩
   |false=>
    have hrow:Zwx (K[k],V[k])=some (K[k].Text,q):=by unfold Zwx;rw[if_neg (by simp[hnull])];dsimp only;rw[hnv];rfl
    rw[Bool.not_false,cond_true,ZnJ,ZnJ];refine⟨ZnM (by omega),ZnM (by omega),ih (_,_) ?_⟩;rw[hstep,hrow];refine⟨?_, ?_⟩
    ·show _=((ZpE (K.take k) (V.take k)++[(K[k].Text,q)]).length:Int);rw[List.length_append,List.length_singleton];dsimp only;omega
    ·show _=mpb (ZwB (ZpE (K.take k) (V.take k)++[(K[k].Text,q)]));rw[ZxR];exact ZzO _ (K[k].Text,q)
 ·rintro rec ⟨rows,keys⟩ ⟨hr,hks⟩;dsimp only at hr hks;subst hr hks;unfold ZpB ZoF;dsimp only;rw[decide_eq_false (show ¬(K.length:Int) < (K.length:Int) by omega),cond_false,ZnF,List.take_length,hl,List.take_length]
def cN (e:ZnA):Nat:=e.Count.toNat
def Zys (l:List ZnA):Nat:=(l.map cN).sum
theorem ZzL (f g:Str→Nat):∀ks:List Str,(ks.map fun k=>f k+g k).sum=(ks.map f).sum+(ks.map g).sum
 | []=>rfl
 |k::r=>by rw[ZFa,ZFa,ZFa,ZFb,ZFb,ZFb,ZzL f g r];omega
theorem Zy6 (x:Str):∀{ks:List Str},x∉ks→(ks.map fun k=>if x=k then 1 else 0).sum=0
 | [],_=>rfl
 |k::r,h=>by rw[ZFa,ZFb,if_neg (by rintro rfl;exact h (by simp)),Zy6 x (fun hx=>h (by simp[hx]))]
theorem ZzK (x:Str):∀{ks:List Str},ks.Nodup→x∈ks→(ks.map fun k=>if x=k then 1 else 0).sum=1
 | [],_,h=>absurd h (by simp)
 |k::r,hn,h=>by
  rw[ZFa,ZFb];have hn':=List.nodup_cons.1 hn
  by_cases e:x=k
  ·subst e;rw[if_pos rfl,Zy6 x hn'.1]
  ·rw[if_neg e,ZzK x hn'.2 ((List.mem_cons.1 h).resolve_left e)]
theorem ZCs:∀(R:List (Str×Rat)) (ks:List Str),ks.Nodup→(∀r∈R,r.1∈ks)→(ks.map (cnt R)).sum=R.length
 | [],ks,_,_=>by
  have:∀ks:List Str,(ks.map (cnt [])).sum=0:=by
   intro ks
   induction ks with
   |nil=>rfl
   |cons k r ih=>rw[ZFa,ZFb,ih];rfl
  exact this ks
 |r::R,ks,hn,h=>by
  have e:cnt (r::R)=fun k=>cnt R k+if r.1=k then 1 else 0:=by
   funext k;unfold cnt;rw[List.countP_cons]
   by_cases hk:r.1=k
   ·rw[if_pos hk,if_pos (by simpa using hk)]
   ·rw[if_neg hk,if_neg (by simpa using hk)]
  rw[e,ZzL,ZCs R ks hn (fun x hx=>h x (by simp[hx])),ZzK r.1 hn (h r (by simp)),ZE8]
theorem Zyy (K V:List ZnB):Zys (Zrb K V)=(ZpE K V).length:=by
 unfold Zys Zrb;rw[((ZwV (lt:=ltE) (Zmg (ZpE K V))).map cN).sum_nat];unfold Zmg;rw[List.map_map];have:cN∘En (ZpE K V)=cnt (ZpE K V):=by funext k;show ((cnt (ZpE K V) k:Int)).toNat=_;rw[Int.toNat_natCast]
 rw[this];exact ZCs _ _ (Zxx _) fun r hr=>Zyn.2 ⟨r,hr,rfl⟩
theorem Zy7:∀{l:List ZnA},(∀e∈l,ZCn e)→l.length≤Zys l
 | [],_=>Nat.zero_le _
 |e::l,h=>by
  have h1:=(h e (by simp)).2.1;have h2:=Zy7 (l:=l) fun x hx=>h x (by simp[hx])
  unfold Zys at h2⊢
  rw[ZFa,ZFb,ZE8];unfold cN;unfold cN at h2;omega
theorem ZxL (a b:List ZnA):Zys (a++b)=Zys a+Zys b:=by unfold Zys;rw[List.map_append,List.sum_append]
theorem ZCJ {l:List ZnA} (hg:∀e∈l,ZCn e) (hn:l.length≤100) {ks:List Str} (hk:∀e∈l,e.Key∈ks) (s:Str) (m e rows:Int) (x:ZnG):
  wp (Zn1 big s m e rows 0 l (l.length:Int) 0 x (mpb ks)) (fun y=>y= .brk (s,m,e,rows,((Zys l:Nat):Int),x,mpb ks)):=by
 refine ZwQ Zus l (by omega) (fun i (t:Int)=>(s,m,e,rows,t,l,(l.length:Int),i,x,mpb ks)) (fun k t=>t=((Zys (l.take k):Nat):Int)) (Q:=fun y=>y= .brk (s,m,e,rows,((Zys l:Nat):Int),x,mpb ks)) 0 rfl ?_ ?_
 ·rintro rec k t hk2 rfl ih;obtain⟨h1,⟨h2,h2'⟩,h3,_⟩:=hg _ (List.getElem_mem hk2);have hb:Zys (l.take k)≤20*k:=by
   have:∀{l:List ZnA},(∀e∈l,ZCn e)→Zys l≤20*l.length:=by
    intro l
    induction l with
    |nil=>intro _;exact Nat.zero_le _
    |cons e l ih=>
     intro h;have h1:=(h e (by simp)).2.1;have h2:=ih fun x hx=>h x (by simp[hx])
     unfold Zys at h2⊢
     rw[ZFa,ZFb,ZE8];unfold cN;unfold cN at h2;omega
   have h4:=this (l:=l.take k) fun e he=>hg e (List.mem_of_mem_take he)
   rw[ZE9]at h4;omega
  unfold ZpA ZoE ZoQ;dsimp only;rw[decide_eq_true (show (k:Int) < (l.length:Int) by omega),cond_true,Zv8 hk2,ZnH,ZnF,ZnJ,ZwC h3,ZnH,ZnF,←h1,show (l[k].Hash != l[k].Hash)=false by simp,cond_false,Zzh ks _ (hk _ (List.getElem_mem hk2)),show (!(some true).getD false)=false from rfl,cond_false,ZnJ];refine⟨ZnM (by omega),ZnM (by omega),ih _ ?_⟩;rw[ZFc hk2,ZxL];show _=((Zys (l.take k)+(l[k].Count.toNat+0):Nat):Int);omega
 ·rintro rec t rfl;unfold ZpA ZoE;dsimp only;rw[decide_eq_false (show ¬(l.length:Int) < (l.length:Int) by omega),cond_false,ZnF,List.take_length]
theorem ZCI {s:Str} (hs:s.length≤300) (m e rows sum h:Int) (x:ZnG) (keys:List (Str×Bool)):
  wp (Zom big s m e rows sum h 0 x keys) (fun y=>y= .brk (s,m,e,rows,sum,h,x,keys)):=by
 refine ZwQ Zur s (by omega) (fun i (_:Unit)=>(s,m,e,rows,sum,h,i,x,keys)) (fun _ _=>True) (Q:=fun y=>y= .brk (s,m,e,rows,sum,h,x,keys)) () trivial ?_ ?_
 ·rintro rec k _ hk _ ih;unfold Zpz ZoD;dsimp only;have hh:Zxn (s.take (k+1))=IntKind.wrap .u64 ((xorK .u64 (Zxn (s.take k)) (IntKind.wrap .u64 ((s[k].toNat:Nat):Int)))*1099511628211):=by rw[ZFc hk];unfold Zxn;rw[List.foldl_append];rfl
  rw[decide_eq_true (show (k:Int) < (s.length:Int) by omega),cond_true,ZnJ,ZnJ,show ((k:Int)+1).toNat=k+1 by omega,ZwC (by rw[ZE9];omega),ZnH,ZnF,ZnJ,Int.toNat_natCast,ZwC (by rw[ZE9];omega),ZnH,ZnF,Zv8 hk,ZnH,ZnF,←hh,show (Zxn (s.take (k+1)) != Zxn (s.take (k+1)))=false by simp,cond_false,ZnJ];exact⟨ZnM (by omega),Zu4 (by omega),Zu4 (by omega),ZnM (by omega),ih () trivial⟩
 ·rintro rec _ _;unfold Zpz ZoD;dsimp only;rw[decide_eq_false (show ¬(s.length:Int) < (s.length:Int) by omega),cond_false,ZnF]
theorem sketchSmall_law (t:List Int) (k:Int) (s:Str):Zpg t k s=some true:=by
 refine Zrt ?_;have tr:wp (Zn2 t k s true) (fun x=>x=true):=by unfold Zn2;rw[cond_true,ZyZ,ZnH,ZnF,ZnF]
 unfold Zpg ZrU;rw[ZnH,ZnF,Zn0];refine⟨fun _=>tr,fun hl=> ?_⟩;simp only[Bool.not_eq_false',decide_eq_true_eq]at hl
 by_cases hs:(s.length:Int) > 300
 ·rw[decide_eq_true hs];exact tr
 rw[decide_eq_false hs];unfold Zn2 Zse;rw[cond_false,ZnH,ZnF,ZnH];refine Zn6 (Zxv (d:=⟨t,0⟩) ⟨by simp,by simp,by simp only;omega⟩ (n:=12) (by omega)) ?_;rintro⟨n,d1⟩ ⟨hn,hd1⟩;dsimp only at hn hd1⊢
 obtain⟨n,rfl⟩:=Int.eq_ofNat_of_zero_le hn.1;rw[ZnH];refine Zn6 (ZyH hd1 n (by omega)) ?_;rintro⟨key,d2⟩ ⟨⟨hkl,hk⟩,hd2⟩;dsimp only at hkl hk hd2⊢
 rw[ZnH];refine Zn6 (ZyH hd2 n (by omega)) ?_;rintro⟨value,d3⟩ ⟨⟨hvl,hv⟩,hd3⟩;dsimp only at hvl hv hd3⊢
 rw[ZnH];refine Zn6 (ZA4 k (m:=8) (by omega)) fun z hz=> ?_
 obtain⟨z,rfl⟩:=Int.eq_ofNat_of_zero_le hz.1;rw[ZnJ,show 1+(z:Int)=((1+z:Nat):Int) by omega,Zz2 hk hv (by omega) (by omega) (m:=1+z) (by omega) (by omega),ZnH,ZnF];refine⟨ZnM (by omega), ?_⟩;dsimp only;rw[ZnH];refine Zn6 (ZCK (K:=key.Cells) (V:=value.Cells) hv (by omega) (by omega) value.Name s _ 0 _) ?_;rintro _ rfl;dsimp only;have hgood:∀e∈Zrb key.Cells value.Cells,ZCn e:=Zx9 hk (by omega);have hkn:(Zrb key.Cells value.Cells).length≤12:=Nat.le_trans Zz6 (by omega);have hkeys:(Zrb key.Cells value.Cells).length=(ZwB (ZpE key.Cells value.Cells)).length:=by unfold Zrb;rw[Zv7];unfold Zmg;rw[List.length_map]
 have hE:(mkS key.Cells value.Cells (1+z)).Entries=(Zrb key.Cells value.Cells).take (1+z):=rfl;unfold Zp2;rw[ZnH,hE];refine Zn6 (ZCJ (l:=(Zrb key.Cells value.Cells).take (1+z)) (fun e he=>hgood e (List.mem_of_mem_take he)) (by rw[ZE9];omega) (ks:=ZwB (ZpE key.Cells value.Cells)) (fun e he=> ?_) s _ 0 _ _) ?_
 ·obtain⟨k',hk',rfl⟩:=ZxS.1 (List.mem_of_mem_take he);exact hk'
 rintro _ rfl;dsimp only;unfold Zp1;rw[ZwC (by omega),ZnH,ZnF,ZnH];refine Zn6 (ZCI (by omega) _ 0 _ _ _ _ _) ?_;rintro _ rfl;dsimp only;unfold Zp0 ZnL;have hmax:decide ((mpb (ZwB (ZpE key.Cells value.Cells))).length≤Zq)=true:=decide_eq_true (by rw[Zym];unfold Zq;omega);have hall:(mkS key.Cells value.Cells (1+z)).All=decide ((Zrb key.Cells value.Cells).length≤1+z):=rfl;have hlen:((((Zrb key.Cells value.Cells).take (1+z)).length:Nat):Int)=(if (((mpb (ZwB (ZpE key.Cells value.Cells))).length:Nat):Int) < ((1+z:Nat):Int)then (((mpb (ZwB (ZpE key.Cells value.Cells))).length:Nat):Int)else ((1+z:Nat):Int)):=by rw[Zym,←hkeys,ZE9];split<;>omega
 have hd2:decide ((((mpb (ZwB (ZpE key.Cells value.Cells))).length:Nat):Int)≤((1+z:Nat):Int))=decide ((Zrb key.Cells value.Cells).length≤1+z):=by
  rw[Zym,←hkeys]
  by_cases h:(Zrb key.Cells value.Cells).length≤1+z
  ·rw[decide_eq_true h,decide_eq_true (by omega)]
  ·rw[decide_eq_false h,decide_eq_false (by omega)]
 have hsplit:Zys ((Zrb key.Cells value.Cells).take (1+z))+Zys ((Zrb key.Cells value.Cells).drop (1+z))=(ZpE key.Cells value.Cells).length:=by rw[←ZxL,List.take_append_drop,Zyy]
 have hdrop:=Zy7 (l:=(Zrb key.Cells value.Cells).drop (1+z)) fun e he=>hgood e (List.mem_of_mem_drop he)
 rw[List.length_drop]at hdrop;rw[show ((0:Int) == 0)=true from rfl,cond_true,ZnJ,hE,hlen,show ∀z:Int,(z == z)=true from fun z=>by simp,cond_true,ZnJ,hall,hd2,show ∀b:Bool,(b == b)=true from fun b=>by simp,cond_true,Zn0];refine⟨hmax,hmax,fun _=> ?_,fun hne=> ?_⟩
 ·rw[ZwC (by omega),ZnH,ZnF,show ∀z:Int,(z == z)=true from fun z=>by simp,cond_true,ZyZ,ZnH,ZnF,ZnF]
 ·have hne':Zys ((Zrb key.Cells value.Cells).take (1+z))≠(ZpE key.Cells value.Cells).length:=by intro h;rw[h]at hne;simp at hne
  have hbig:¬(Zrb key.Cells value.Cells).length≤1+z:=by intro h;apply hne';rw[List.take_of_length_le h,Zyy]
  rw[decide_eq_false hbig,Bool.not_false,cond_true,decide_eq_true (by omega),cond_true,ZwC (by omega),ZnH,ZnF,show ∀z:Int,(z == z)=true from fun z=>by simp,cond_true,ZyZ,ZnH,ZnF,ZnF]
end Go.Proofs
namespace Eng
open Go Go.Lib
theorem globOk_one {Pg:Program} {w:World} {n:String} {g:Nat} {t e:TypeId} {k:IntKind} {z:Int} (hn:Pg.globalNamed n=some g) (hty:(Pg.globals[g]?).map (·.type)=some t)
  (ht:Pg.underlying t=some (.slice e)) (he:Pg.underlying e=some (.int k)) (hce:Pg.cellsOf e=1) (hz:k.min≤z∧z≤k.max)
  (h:VarReads Pg w n (.slice [.lit (.int k z)] [])):Zej w (fun b=>b < w.heap.size) g [P.sl 1 [.int k z]]:=by
 obtain⟨g',t',cs,fuel,p,hg,hty',hvar,hd⟩:=h;obtain rfl:=Option.some.inj (hn.symm.trans hg);obtain rfl:=Option.some.inj (hty.symm.trans hty');rcases DataW.trod_slice ht hd with ⟨_,hx⟩ |⟨a,len,cap,elems,rest,m,_,hcs,hx,_,hl,hcap,hlen,hel,_,_⟩
 ·cases congrArg Prod.fst hx
 ·have e0:=congrArg Prod.fst hx;simp only[DataW.slice.injEq]at e0;obtain⟨e1,_⟩:=e0
  match elems,e1 with
  | [(d,q)],e1=>
   simp only[ZFa,List.map_nil,List.cons.injEq,and_true]at e1;subst e1;have hlen1:len=1:=by simpa using hlen.symm
   subst hlen1;obtain⟨ci,hci,htr⟩:=Option.bind_eq_some_iff.1 (hel 0 (by decide));obtain⟨z',hc,hxx,_⟩:=DataW.trod_int he htr;have hzz:z'=z:=by have:=congrArg Prod.fst hxx;simpa using this.symm
   subst hzz;subst hc;rw[hce,Nat.zero_mul]at hci;obtain⟨_,_,hc2⟩:=World.cells?_some hci;have h0:=hc2 0 (by decide);have hb:w.cell? a=some (.int k z'):=by simpa[Addr.add]using h0
   have hspot:a.spot=none:=by
    unfold World.cell? at hb;cases hs:a.spot with
    |none=>rfl
    |some s=>rw[hs]at hb;split at hb<;>simp at hb
   have ha:a=⟨a.block,a.off,none⟩:=by cases a;simp at hspot;subst hspot;rfl
   have hlt:a.block < w.heap.size:=ZjV (by rw[ha]at hb;exact hb);have hcs1:cs.size=1:=by have:=congrArg List.length hcs;simpa using this
   refine ZwP (t:=0) (fr:= #[]) (ZxI hn hvar) _ (by rw[hcs1];rfl) fun j v p hv hp=> ?_
   have hj:j=0:=by have:=(Array.getElem?_eq_some_iff.1 hv).1;omega
   subst hj;simp only[ZE7,Option.some.injEq]at hp;subst hp;rw[←Array.getElem?_toList,hcs]at hv;simp only[ZE7,Option.some.injEq]at hv;subst hv;refine⟨.sl (some a) 1 cap _ _ (fun _=> .int k z') rfl (by decide) hl (fun i hi=>rfl) (fun i hi=> ?_) (fun i x hx=> ?_),rfl⟩
   ·have hi0:i=0:=by omega
    subst hi0;refine⟨a.block,a.off,by rw[←ha],hlt,fun j v hv=> ?_⟩;have hj:=(Array.getElem?_eq_some_iff.1 hv).1;have hj0:j=0:=by have:(Value.int k z').cells.size=1:=rfl;omega
    subst hj0;have hvv:v= .int k z':=by have:(Value.int k z').cells[0]? =some (.int k z'):=rfl;exact Option.some.inj (hv.symm.trans this)
    subst hvv;rw[ha]at hb;simpa using hb
   ·have hi0:i=0:=by have:=(List.getElem?_eq_some_iff.1 hx).1;simp at this;omega
    subst hi0;simp only[ZE7,Option.some.injEq]at hx;subst hx;exact .int k z' hz.1 hz.2
end Eng
