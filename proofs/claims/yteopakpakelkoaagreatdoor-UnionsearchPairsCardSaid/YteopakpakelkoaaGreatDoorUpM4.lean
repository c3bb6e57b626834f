/- Plain laws over the specs, part 4. -/
import Derived.Test.YteopakpakelkoaaGreatDoorUpM3
import Derived.Test.YteopakpakelkoaaGreatDoorUpM1
import Derived.Test.YteopakpakelkoaaGreatDoorUpM2
import Derived.Test.YteopakpakelkoaaGreatDoorQ
import Derived.Test.YteopakpakelkoaaGreatDoorE4
import Derived.Test.YteopakpakelkoaaGreatDoorUpU
set_option linter.all false
open Bool renaming not_true->Z0t, not_false->ZVx
open Int renaming toNat_natCast->Z0u
open List renaming getElem_mem->Z0z, take_succ_eq_append_getElem->Z0F, getElem?_eq_getElem->Z0y, take_length->Z0E, zipWith->Z0G, length_map->Z0A, drop_eq_nil_of_le->Z0w, drop_eq_getElem_cons->Z0v, mem_singleton->Z0D, mem_iff_getElem->Z0C, mem_append->Z0B, getElem?_cons_zero->Z0x
open Option renaming bind_some->Z0H
namespace Go.Proofs
open Go Eng
theorem ZNu:∀u:Fin 256,∀k:Fin 8,(andK .i64 (shrK .i64 ((255 - u.val:Nat):Int) (IntKind.wrap .u64 (k.val:Int))) 1 == 0)=ZJf u.val k.val/\andNotK .i64 ((255 - u.val:Nat):Int) (shlK .i64 1 (IntKind.wrap .u64 (k.val:Int)))=((255 - ZF8 u.val k.val:Nat):Int):=by decide+kernel
theorem ZNt {u k:Nat} (a:u < 256) (b:k < 8):(andK .i64 (shrK .i64 ((255 - u:Nat):Int) (IntKind.wrap .u64 (k:Int))) 1 == 0)=ZJf u k:=(ZNu ⟨u,a⟩ ⟨k,b⟩).1
theorem ZKW {u k:Nat} (a:u < 256) (b:k < 8):andNotK .i64 ((255 - u:Nat):Int) (shlK .i64 1 (IntKind.wrap .u64 (k:Int)))=((255 - ZF8 u k:Nat):Int):=(ZNu ⟨u,a⟩ ⟨k,b⟩).2
theorem ZJl {k:Nat} (a:k < 8):decide (0<=IntKind.wrap .u64 (k:Int))=true:=by grind[wrap_u64]
theorem ZRE:∀u:Fin 256,∀k j:Fin 8,ZJf (ZF8 u.val k.val) j.val=(ZJf u.val j.val||decide (j.val=k.val)):=by decide+kernel
def ZQc (u v:Nat):Prop:=∀j,j < 8->ZJf u j=true->ZJf v j=true
theorem ZQc.set {u v k:Nat} (f:u < 256) (g:v < 256) (c:k < 8) (h:ZQc u v):ZQc (ZF8 u k) (ZF8 v k):=by intro j a e;have b:=ZRE ⟨u,f⟩ ⟨k,c⟩ ⟨j,a⟩;have d:=ZRE ⟨v,g⟩ ⟨k,c⟩ ⟨j,a⟩;dsimp only at b d;rw[b,Bool.or_eq_true]at e;rw[d,Bool.or_eq_true];exact e.imp (h j a) id
theorem ZQc.step {u k:Nat} (a:u < 256) (d:k < 8):ZQc u (ZF8 u k):=fun _ b c=>ZQY a d b c
theorem ZNv {F:Nat->Rat} {u v:Nat} (hu:u < 256) (hv:v < 256) (hs:ZQc u v) (hF:∀u v,u < 256->v < 256->ZQc u v->F v<=F u):∀(r:List Rat) (k:Nat) (b c:Rat),k+r.length<=8->c<=b->goW F v k r c<=goW F u k r b
 | [],k,b,c,_,h=>h
 |x::r,k,b,c,hk,h=>by
  rw[List.length_cons]at hk;rw[goW,goW];refine ZNv hu hv hs hF r (k+1) _ _ (by omega) ?_;have hk8:k < 8:=by omega
  have h1:=hF (ZF8 u k) (ZF8 v k) (ZHp hu hk8) (ZHp hv hk8) (hs.set hu hv hk8);have hb':b<=(match ZEh F u k x with |some y=>if b < y then y else b |none=>b):=by grind
  cases hv2:ZEh F v k x with
  |none=>grind
  |some y=>
   obtain⟨a1,a2,rfl⟩:=ZLr hv2;have hbu:ZJf u k=false:=by
    cases hc:ZJf u k with
    |false=>rfl
    |true=>rw[hs k hk8 hc]at a1;omega
   grind[ZEh]
theorem ZKu:∀(w:List (List Rat)),(∀r∈w,r.length<=8)->∀u v,u < 256->v < 256->ZQc u v->ZpC w v<=ZpC w u
 | [],_,u,v,_,_,_=>Rat.le_refl
 |r::rest,h,u,v,hu,hv,hs=>by
  have a:=ZKu rest fun r b=>h r (by grind)
  exact ZNv hu hv hs a r 0 _ _ (by grind) (a u v hu hv hs)
def goR (F:Nat->Rat) (u:Nat):Nat->List Rat->Rat->Rat
 |_,[],b=>b
 |k,x::r,b=>goR F u (k+1) r (if ZJf u k then b else if b < x+F (ZF8 u k)then x+F (ZF8 u k)else b)
theorem ZRC {F:Nat->Rat} {u:Nat} (hu:u < 256) (hF:∀u v,u < 256->v < 256->ZQc u v->F v<=F u):∀(r:List Rat) (k:Nat) (b:Rat),k+r.length<=8->F u<=b->goR F u k r b=goW F u k r b
 | [],k,b,_,_=>rfl
 |x::r,k,b,hk,hb=>by
  rw[List.length_cons]at hk;have hk8:k < 8:=by omega
  have h1:=hF u (ZF8 u k) hu (ZHp hu hk8) (ZQc.step hu hk8);rw[goR,goW];have e:(if ZJf u k then b else if b < x+F (ZF8 u k)then x+F (ZF8 u k)else b)=(match ZEh F u k x with |some y=>if b < y then y else b |none=>b):=by grind[ZEh]
  rw[e];refine ZRC hu hF r (k+1) _ (by omega) ?_;grind
def ZHY (w:List (List Rat)) (m:ZKf):Prop:=∀(i u:Nat) v,u < 256->lkF m ⟨(i:Int),((255 - u:Nat):Int)⟩=some v->v=fOf (ZpC (w.drop i) u)
theorem ZPb (w:List (List Rat)):ZHY w []:=fun i u v _ h=>by cases h
theorem ZHY.set {w:List (List Rat)} {m:ZKf} (h:ZHY w m) {i u:Nat} (e:u < 256):ZHY w (stF m ⟨(i:Int),((255 - u:Nat):Int)⟩ (fOf (ZpC (w.drop i) u))):=by
 intro d c v b a;rw[ZO4]at a;split at a
 ·grind
 ·exact h d c v b a
def Z0s (w:List (List Rat)) (b:RF) (i:Nat):Prop:=∀(u:Nat) (m:ZKf),u < 256->ZHY w m->∃a,b (Zo8 w) (i:Int) ((255 - u:Nat):Int) m=some (fOf (ZpC (w.drop i) u),a)/\ZHY w a
theorem ZOO {w:List (List Rat)} {s:Nat} (j:WOk s w) {t:RF} {i:Nat} (G:i < w.length) (C:Z0s w t (i+1)) {u:Nat} (F:u < 256) (y a:Bool) (e:Ziw) (v x:List Int):
  ∀(d k n:Nat) (m:ZKf) (b:Rat),k+d=w[i].length->d < n->ZHY w m->Sz (s+((s+1)*(w.drop (i+1)).length+1)+1) b->
   ∃l,ZoP t n (Zo8 w) (i:Int) ((255 - u:Nat):Int) (w[i].map fOf) (w[i].length:Int) (k:Int) m y a e (fOf b) v x=
    some (l,y,a,e,fOf (goR (ZpC (w.drop (i+1))) u k (w[i].drop k) b),v,x)/\ZHY w l:=by
 have P:s+((s+1)*(w.drop (i+1)).length+1)+1<=7700:=by
  have B:(w.drop (i+1)).length<=8:=by rw[List.length_drop];have:=j.rows;omega
  have Q:=j.lim;have:(s+1)*(w.drop (i+1)).length<=601*8:=Nat.mul_le_mul (by omega) B;omega
 have O:=j.cols _ (Z0z G);have J:=j.rows;intro d
 induction d with
 |zero=>
  intro k n m b K L A z;obtain⟨n,rfl⟩:∃E,n=E+1:=⟨n - 1,by omega⟩;refine⟨m, ?_,A⟩;rw[ZoP,Ztm,show decide ((k:Int) < (w[i].length:Int))=false from decide_eq_false (by omega),cond_false,show w[i].drop k=[]from Z0w (by omega)];rfl
 |succ d N=>
  intro k n m b K L A z;obtain⟨n,rfl⟩:∃E,n=E+1:=⟨n - 1,by omega⟩;have o:k < w[i].length:=by omega
  have g:k < 8:=by omega
  have H:=j.sz _ (Z0z G) _ (Z0z o);have p:w[i].drop k=w[i][k]::w[i].drop (k+1):=Z0v o;have c:∀(h:ZKf) (q:Rat),ZHY w h->Sz (s+((s+1)*(w.drop (i+1)).length+1)+1) q->∃l,Zqn t (ZoP t n) (Zo8 w) (i:Int) ((255 - u:Nat):Int) (w[i].map fOf) (w[i].length:Int) (k:Int) h y a e (fOf q) v x=
    some (l,y,a,e,fOf (goR (ZpC (w.drop (i+1))) u (k+1) (w[i].drop (k+1)) q),v,x)/\ZHY w l:=by
   intro h q f D;unfold Zqn;rw[ZiH (n:=(k:Int)+1) (by omega)];show ∃l,ZoP t n _ _ _ _ _ ((k:Int)+1) h y a e (fOf q) v x=_/\_;rw[show ((k:Int)+1)=((k+1:Nat):Int) by omega];exact N (k+1) n h q (by omega) (by omega) f D
  rw[p,goR];rw[ZoP,Ztm,show decide ((k:Int) < (w[i].length:Int))=true from decide_eq_true (by omega),cond_true,ZJI o,Z0H,ZJl g,ZNt F g];show ∃l,(bif ZJf u k then _ else _)=_/\_;cases hbit:ZJf u k with
  |true=>
   simp_all
  |false=>
   rw[cond_false,if_neg (by simp),ZiH (n:=(i:Int)+1) (by omega),ZKW F g];show ∃l,((t (Zo8 w) ((i:Int)+1) ((255 - ZF8 u k:Nat):Int) m).bind _)=_/\_;obtain⟨h,B,f⟩:=C (ZF8 u k) m (ZHp F g) A;rw[show ((i:Int)+1)=((i+1:Nat):Int) by omega,B,Z0H];dsimp only;have I:Sz (s+((s+1)*(w.drop (i+1)).length+1)+1) (w[i][k]+ZpC (w.drop (i+1)) (ZF8 u k)):=H.add (ZHT _ _ fun r M=>j.sz r (List.mem_of_mem_drop M));rw[ZID H (ZEx j (i+1) (ZF8 u k)) (by have:=j.lim;omega),Z0H,ZJT (z.wq (by omega)) (I.wq (by omega)),Z0H]
   grind
theorem ZNi {w:List (List Rat)} {s:Nat} (hw:WOk s w):∀(n i:Nat),i<=w.length->w.length - i < n->Z0s w (Zk3 n) i:=by
 intro n
 induction n with
 |zero=>omega
 |succ n ih=>
  intro i hi hn u m hu hm;have h8:=hw.rows;have hlim:=hw.lim;rw[Zk3,Zzx];have hl:(Zo8 w).length=w.length:=by simp[Zo8]
  by_cases he:i=w.length
  ·rw[show ((i:Int) == ((Zo8 w).length:Int))=true by grind,cond_true,ZEy,Z0H,show w.drop i=[]from Z0w (by omega)];exact⟨m,rfl,hm⟩
  ·have hlt:i < w.length:=by omega
   rw[show ((i:Int) == ((Zo8 w).length:Int))=false by grind,cond_false]
   change ∃m',(bif (lkF m ⟨(i:Int),((255 - u:Nat):Int)⟩).isSome then some ((lkF m ⟨(i:Int),((255 - u:Nat):Int)⟩).getD _,m)else _)=_/\_
   cases hlk:lkF m ⟨(i:Int),((255 - u:Nat):Int)⟩with
   |some v=>
    rw[hm i u v hu hlk]
    grind
   |none=>
    have hrf:=ih (i+1) (by omega) (by omega);rw[show (none:Option ZbF).isSome=false from rfl,cond_false,ZiH (n:=(i:Int)+1) (by omega)];show ∃m',((Zk3 n (Zo8 w) ((i:Int)+1) ((255 - u:Nat):Int) m).bind _)=_/\_;obtain⟨m1,h1,hm1⟩:=hrf u m hu hm;rw[show ((i:Int)+1)=((i+1:Nat):Int) by omega,h1,Z0H];dsimp only;rw[ZGG hlt,Z0H,Z0A];have hsz:=ZHT (s:=s) (w.drop (i+1)) u fun r hr=>hw.sz r (List.mem_of_mem_drop hr)
    obtain⟨m2,h2,hm2⟩:=ZOO hw hlt hrf hu false false ⟨(i:Int),((255 - u:Nat):Int)⟩ [] [] w[i].length 0 big m1 (ZpC (w.drop (i+1)) u) (by omega) (by rw[big_eq];have:=hw.cols _ (Z0z hlt);omega) hm1 (hsz.mono (by omega));rw[show ((0:Int))=((0:Nat):Int)from rfl,h2,Z0H];dsimp only;unfold ZyS;have hd:ZpC (w.drop i) u=goR (ZpC (w.drop (i+1))) u 0 (w[i].drop 0) (ZpC (w.drop (i+1)) u):=by rw[List.drop_zero,ZRC hu (ZKu _ fun r hr=>hw.cols r (List.mem_of_mem_drop hr)) _ _ _ (by have:=hw.cols _ (Z0z hlt);omega) Rat.le_refl];grind[Z0v,ZpC]
    rw[<-hd];exact⟨_,rfl,hm2.set hu⟩
end Go.Proofs
namespace Go.Proofs
open Go Eng
theorem ZMa {w:List (List Rat)} {s m:Nat} (b:ZPH s m w):Zwf (Zo8 w)=some 0:=by
 have o:=b.rows;have p:=ZHw w;have h:=b.lim;apply Zo1;unfold Zwf;rw[decide_eq_false (show ¬((Zo8 w).length:Int) > 8 by omega),cond_false,ZhS];refine Zjf (Zpy ZEM (Zo8 w) (by omega) (fun i (_:Unit)=>(Zo8 w,Zo8 w,((Zo8 w).length:Int),i)) (fun _ _=>True) (Q:=fun x=>x= .brk (Zo8 w)) () trivial ?_ ?_) ?_
 ·rintro c k _ a _ d;unfold ZwC ZsL;dsimp only;rw[decide_eq_true (show (k:Int) < ((Zo8 w).length:Int) by omega),cond_true,ZoM a,Z0H,ZE1 a,Z0A];have:=b.cols _ (Z0z (by omega:k < w.length));rw[decide_eq_false (by omega),cond_false,Zhr];exact⟨ZiH (by omega),d () trivial⟩
 ·grind[ZwC,ZsL,Zfa]
 rintro _ rfl;dsimp only;unfold ZxV;rw[ZhS];refine Zjf (Zpy ZEL (Zo8 w) (by omega) (fun i (_:Unit)=>(Zo8 w,Zo8 w,((Zo8 w).length:Int),i)) (fun _ _=>True) (Q:=fun x=>x= .brk (Zo8 w)) () trivial ?_ ?_) ?_
 ·rintro c k _ a _ d;unfold ZwB ZsK;dsimp only;have g:0 < (Zo8 w).length:=by omega
  rw[decide_eq_true (show (k:Int) < ((Zo8 w).length:Int) by omega),cond_true,ZoM a,Z0H,show (0:Int)=((0:Nat):Int)from rfl,ZoM g,Z0H,ZE1 a,ZE1 g,Z0A,Z0A,
   b.len _ (Z0z _),b.len _ (Z0z _),show (((m:Nat):Int) != (m:Int))=false by simp,cond_false,Zhr]
  exact⟨ZiH (by omega),d () trivial⟩
 ·grind[ZwB,ZsK,Zfa]
 rintro _ rfl;dsimp only;unfold ZxU;rw[ZhS];refine Zjf (Zpy ZEK (Zo8 w) (by omega) (fun i (_:Unit)=>(Zo8 w,((Zo8 w).length:Int),i)) (fun _ _=>True) (Q:=fun x=>x= .brk ()) () trivial ?_ ?_) ?_
 ·rintro c k _ a _ d;unfold ZwA ZsJ;dsimp only;have e:k < w.length:=by omega
  rw[decide_eq_true (show (k:Int) < ((Zo8 w).length:Int) by omega),cond_true,ZoM a,Z0H,ZE1 a,ZhS];have n:=b.cols _ (Z0z e);refine Zjf (Zpy ZEJ (w[k].map fOf) (by grind) (fun i (_:Unit)=>(Zo8 w,((Zo8 w).length:Int),(k:Int),w[k].map fOf,((w[k].map fOf).length:Int),i)) (fun _ _=>True)
   (Q:=fun x=>x= .brk (Zo8 w,((Zo8 w).length:Int),(k:Int))) () trivial ?_ ?_) ?_
  ·rintro c j _ l _ d;unfold Zwz ZsI;dsimp only;have f:j < w[k].length:=by grind
   rw[decide_eq_true (show (j:Int) < ((w[k].map fOf).length:Int) by omega),cond_true,ZoM l,Z0H,List.getElem_map,ZEy,Z0H,ZJT ((b.sz _ (Z0z e) _ (Z0z f)).wq (by omega)) (ZFN.wq (by decide)),Z0H,
    decide_eq_false (by have:=b.nn _ (Z0z e) _ (Z0z f);grind),cond_false,Zhr]
   exact⟨ZiH (by omega),d () trivial⟩
  ·grind[Zwz,ZsI,Zfa]
  rintro _ rfl;dsimp only;unfold ZxT;rw[Zhr];exact⟨ZiH (by omega),d () trivial⟩
 all_goals grind[ZwA,ZsJ,Zfa,ZxS]
def ZSs (o:Option Rat) (b:Rat):Rat:=match o with
 |some y=>if b < y then y else b
 |none=>b
theorem ZQL (F:Nat->Rat) (u k:Nat) (x:Rat) (r:List Rat) (b:Rat):goW F u k (x::r) b=goW F u (k+1) r (ZSs (ZEh F u k x) b):=rfl
theorem ZRB {F:Nat->Rat} {u:Nat}:∀(r:List Rat) (k:Nat) (b:Rat),goW F u k r b=b\/ZF6 F u (goW F u k r b) k r≠none
 | [],k,b=> .inl rfl
 |x::r,k,b=>by rw[ZQL,ZF6];have a:=ZRB (F:=F) (u:=u) r (k+1) (ZSs (ZEh F u k x) b);grind[ZEh,ZSs]
theorem ZSF (r:List Rat) (a:List (List Rat)) (u:Nat):
  ZpC a (ZIv (ZpC a) u (ZpC (r::a) u) r)=(match ZF6 (ZpC a) u (ZpC (r::a) u) 0 r with |some k=>ZpC (r::a) u - (r[k]?).getD 0 |none=>ZpC (r::a) u):=by
 unfold ZIv;cases b:ZF6 (ZpC a) u (ZpC (r::a) u) 0 r with
 |none=>
  grind[ZRB,ZpC]
 |some k=>
  obtain⟨_,_,x,d,c⟩:=ZJu _ _ _ b;have:=(ZLr c).2.2;grind
theorem ZNS {w:List (List Rat)} {s:Nat} (hw:WOk s w) {i:Nat} (hi:i < w.length) {u:Nat} (hu:u < 256) (t29:List (List ZbF)) (t30:Int) (t3 t3_1:Bool) (sum:ZbF) (out:List Int) (l1 l2:List Int) {b:Rat} (hb:Sz 7000 b):
  ∀(d k n:Nat) (m:ZKf),k+d=w[i].length->d < n->ZHY w m->
   ∃m',ZoK n (Zo8 w) ((255 - u:Nat):Int) (i:Int) (w[i].map fOf) (-1) t29 t30 (i:Int) (w[i].map fOf) (w[i].length:Int) (k:Int) t3 t3_1 m sum (fOf b) out l1 l2=
    some (Zo8 w,((255 - u:Nat):Int),w[i].map fOf,(match ZF6 (ZpC (w.drop (i+1))) u b k (w[i].drop k)with |some j=>(j:Int) |none=> -1),t29,t30,(i:Int),t3,t3_1,m',sum,fOf b,out,l1,l2)/\ZHY w m':=by
 have h8:=hw.cols _ (Z0z hi);have hr8:=hw.rows;have hlim:=hw.lim;have hrf:Z0s w (Zk3 big) (i+1):=ZNi hw big (i+1) (by omega) (by grind[big_eq]);intro d
 induction d with
 |zero=>
  intro k n m hk hn hm;obtain⟨n,rfl⟩:∃n',n=n'+1:=⟨n - 1,by omega⟩;refine⟨m, ?_,hm⟩;rw[ZoK,Zxa,show decide ((k:Int) < (w[i].length:Int))=false from decide_eq_false (by omega),cond_false,show w[i].drop k=[]from Z0w (by omega)];rfl
 |succ d ih=>
  intro k n m hk hn hm;obtain⟨n,rfl⟩:∃n',n=n'+1:=⟨n - 1,by omega⟩;have hkl:k < w[i].length:=by omega
  have hk8:k < 8:=by omega
  have hx:=hw.sz _ (Z0z hi) _ (Z0z hkl);have hdrop:w[i].drop k=w[i][k]::w[i].drop (k+1):=Z0v hkl;rw[ZoK,Zxa,show decide ((k:Int) < (w[i].length:Int))=true from decide_eq_true (by omega),cond_true,ZJI hkl,Z0H,ZJl hk8,ZNt hu hk8,hdrop,ZF6];have next:∀m1,ZHY w m1->∃m',ZrQ (ZoK n) (Zo8 w) ((255 - u:Nat):Int) (i:Int) (w[i].map fOf) (-1) t29 t30 (i:Int) (w[i].map fOf) (w[i].length:Int) (k:Int) t3 t3_1 m1 sum (fOf b) out l1 l2=
    some (Zo8 w,((255 - u:Nat):Int),w[i].map fOf,(match ZF6 (ZpC (w.drop (i+1))) u b (k+1) (w[i].drop (k+1))with |some j=>(j:Int) |none=> -1),t29,t30,(i:Int),t3,t3_1,m',sum,fOf b,out,l1,l2)/\ZHY w m':=by
   intro m1 hm1;unfold ZrQ;rw[ZiH (n:=(k:Int)+1) (by omega)];show ∃m',ZoK n _ _ _ _ _ _ _ _ _ _ ((k:Int)+1) t3 t3_1 m1 sum (fOf b) out l1 l2=_/\_;rw[show ((k:Int)+1)=((k+1:Nat):Int) by omega];exact ih (k+1) n m1 (by omega) (by omega) hm1
  have none:ZEh (ZpC (w.drop (i+1))) u k w[i][k]=none->∃m',Zqo (ZoK n) (Zo8 w) ((255 - u:Nat):Int) (i:Int) (w[i].map fOf) (-1) (k:Int) t29 t30 (i:Int) (w[i].map fOf) (w[i].length:Int) (k:Int) true t3 t3_1 m sum (fOf b) out (fOf w[i][k]) l1 l2=
    some (Zo8 w,((255 - u:Nat):Int),w[i].map fOf,(match (if ZEh (ZpC (w.drop (i+1))) u k w[i][k]=some b then some k else ZF6 (ZpC (w.drop (i+1))) u b (k+1) (w[i].drop (k+1)))with |some j=>(j:Int) |none=> -1),t29,t30,(i:Int),t3,t3_1,m',sum,fOf b,out,l1,l2)/\ZHY w m':=by
   grind[Zqo]
  show ∃m',(bif ZJf u k then _ else _)=_/\_;cases hbit:ZJf u k with
  |true=>
   grind[ZEh]
  |false=>
   rw[cond_false,ZEy,Z0H,ZPq (hx.wq (by omega)) (ZFN.wq (by decide)),Z0H,ZKp]
   by_cases hz:w[i][k]=0
   ·grind[ZEh]
   ·have ht:ZEh (ZpC (w.drop (i+1))) u k w[i][k]=some (w[i][k]+ZpC (w.drop (i+1)) (ZF8 u k)):=by grind[ZEh]
    rw[decide_eq_false hz];unfold Zqo;rw[cond_false,ZiH (n:=(i:Int)+1) (by omega),ZJl hk8,ZKW hu hk8];show ∃m',((Zk3 big (Zo8 w) ((i:Int)+1) ((255 - ZF8 u k:Nat):Int) m).bind _)=_/\_;obtain⟨m1,h1,hm1⟩:=hrf (ZF8 u k) m (ZHp hu hk8) hm;rw[show ((i:Int)+1)=((i+1:Nat):Int) by omega,h1,Z0H];dsimp only;have hy:=(hx.add (ZEx hw (i+1) (ZF8 u k))).mono (show s+7000+1<=7700 by omega);rw[ZID hx (ZEx hw (i+1) (ZF8 u k)) (by omega),Z0H,ZHq _ _ (hy.wq (by omega)) (hb.wq (by omega)),Z0H,ht]
    grind
theorem ZNR {w:List (List Rat)} {s:Nat} (hw:WOk s w) (t3 t3_1:Bool) (sum:ZbF) (l1 l2:List Int):
  ∀(d i n u:Nat) (m:ZKf) (out:List Int),i+d=w.length->d < n->u < 256->ZHY w m->out.length=i->
   ZoQ n (Zo8 w) ((255 - u:Nat):Int) (Zo8 w) (w.length:Int) (i:Int) t3 t3_1 m sum (fOf (ZpC (w.drop i) u)) out l1 l2=some (t3,t3_1,sum,out++ZHW (w.drop i) u,l1,l2):=by
 have hr8:=hw.rows;have hlim:=hw.lim;intro d
 induction d with
 |zero=>
  intro i n u m out hi hn hu hm ho;obtain⟨n,rfl⟩:∃n',n=n'+1:=⟨n - 1,by omega⟩;grind[ZoQ,Zxb,ZHW]
 |succ d ih=>
  intro i n u m out hi hn hu hm ho;obtain⟨n,rfl⟩:∃n',n=n'+1:=⟨n - 1,by omega⟩;have hil:i < w.length:=by omega
  have h8:=hw.cols _ (Z0z hil);obtain⟨m2,h2,hm2⟩:=ZNS hw hil hu (Zo8 w) (w.length:Int) t3 t3_1 sum out l1 l2 (ZEx hw i u) w[i].length 0 big m (by omega) (by grind[big_eq]) hm;rw[ZoQ,Zxb,show decide ((i:Int) < (w.length:Int))=true from decide_eq_true (by omega),cond_true,ZGG hil,Z0H,Z0A,show (0:Int)=((0:Nat):Int)from rfl,h2,Z0H,List.drop_zero];dsimp only;have hd:w.drop i=w[i]::w.drop (i+1):=Z0v hil;have hre:=ZSF w[i] (w.drop (i+1)) u;rw[hd,ZIV];rw[hd]at h2;unfold ZyT;have j4:∀(t:Int) (v:Nat),t=ZLs (ZpC (w.drop (i+1))) u (ZpC (w[i]::w.drop (i+1)) u) w[i]->v=ZIv (ZpC (w.drop (i+1))) u (ZpC (w[i]::w.drop (i+1)) u) w[i]->v < 256->
    ZrP (ZoQ n) (Zo8 w) ((255 - v:Nat):Int) t (Zo8 w) (w.length:Int) (i:Int) t3 t3_1 m2 sum (fOf (ZpC (w.drop (i+1)) v)) out l1 l2=
     some (t3,t3_1,sum,out++(ZLs (ZpC (w.drop (i+1))) u (ZpC (w[i]::w.drop (i+1)) u) w[i]::ZHW (w.drop (i+1)) (ZIv (ZpC (w.drop (i+1))) u (ZpC (w[i]::w.drop (i+1)) u) w[i])),l1,l2):=by
   intro t v ht hv hv2;unfold ZrP;rw[ZpN (by simp;omega),ZiH (n:=(i:Int)+1) (by omega)];show ZoQ n (Zo8 w) _ (Zo8 w) (w.length:Int) ((i:Int)+1) t3 t3_1 m2 sum _ _ l1 l2=_;rw[show ((i:Int)+1)=((i+1:Nat):Int) by omega,ih (i+1) n v m2 (out++[t]) (by omega) (by omega) hv2 hm2 (by simp[ho]),List.append_assoc,ht,hv];rfl
  cases hf:ZF6 (ZpC (w.drop (i+1))) u (ZpC (w[i]::w.drop (i+1)) u) 0 w[i]with
  |none=>
   rw[hf]at hre;dsimp only at hre|-
   have hnu:ZIv (ZpC (w.drop (i+1))) u (ZpC (w[i]::w.drop (i+1)) u) w[i]=u:=by grind[ZIv]
   grind[ZLs]
  |some k=>
   obtain⟨_,h3,x,h4,h5⟩:=ZJu _ _ _ hf;rw[hf]at hre;dsimp only at hre|-
   have hk8:k < 8:=by omega
   have hkl:k < w[i].length:=by omega
   have hnu:ZIv (ZpC (w.drop (i+1))) u (ZpC (w[i]::w.drop (i+1)) u) w[i]=ZF8 u k:=by unfold ZIv;rw[hf]
   have hx:=hw.sz _ (Z0z hil) _ (Z0z hkl);rw[hnu,Z0y hkl,Option.getD_some]at hre;rw[decide_eq_true (show (k:Int)>=0 by omega),cond_true,ZJl hk8,ZJI hkl,ZKW hu hk8];have hs7:=ZEx hw i u;rw[hd]at hs7;show ((ZpX (fOf (ZpC (w[i]::w.drop (i+1)) u)) (fOf w[i][k])).bind _)=_;rw[ZJo hs7 hx (by omega),Z0H,<-hre];exact j4 (k:Int) (ZF8 u k) (by unfold ZLs;rw[hf]) hnu.symm (ZHp hu hk8)
theorem ZNP {w:List (List Rat)} {s m:Nat} (hw:ZPH s m w):Zxc (Zo8 w)=some (ZHW w 0,fOf (ZpC w 0),0):=by have hr8:=hw.rows;unfold Zxc;rw[ZMa hw,Z0H,show ((0:Int) != 0)=false from rfl,cond_false];obtain⟨m1,h1,hm1⟩:=ZNi hw.toWOk big 0 (by omega) (by grind[big_eq]) 0 [] (by omega) (ZPb w);rw[ZHw,show (255:Int)=((255 - 0:Nat):Int)from rfl,show (0:Int)=((0:Nat):Int)from rfl,h1,Z0H];dsimp only;rw[ZNR hw.toWOk false false _ [] [] w.length 0 big 0 m1 [] (by omega) (by grind[big_eq]) (by omega) hm1 rfl,Z0H];rfl
end Go.Proofs
namespace Go.Proofs
open Go Eng
structure ZL3 (t:G_api_Table):Prop where
 name:t.Name.length<=9223372036854775807
 cols:t.Columns.length<=10
 col:∀c∈t.Columns,ZIG c
theorem ZL3.texts {t:G_api_Table} (h:ZL3 t):ZIc t:=⟨h.name,fun c a=>⟨by have:=(h.col c a).name;omega,(h.col c a).cells⟩⟩
theorem ZL3.valid {t:G_api_Table} (h:ZL3 t):Zue t=some (ZuN t):=ZJn t (by have:=h.cols;omega) (fun c a=>by have:=(h.col c a).rows;omega)
theorem ZL3.rvalid {t:G_api_Table} (h:ZL3 t):Znd t=some (ZuN t):=ZLv t h.texts (by have:=h.cols;omega)
structure SmallL (l:List G_api_Table):Prop where
 len:l.length<=10
 tab:∀t∈l,ZL3 t
end Go.Proofs
namespace Go.Proofs
open Go Eng
theorem ZL3.C {t:G_api_Table} (h:ZL3 t) (a:ZuN t=true) (b:t.Columns.length<=8):ZLi t:=⟨a,b,h.col⟩
end Go.Proofs
namespace Go.Proofs
open Go Eng
structure ZIF (t:G_api_Table):Prop where
 w:ZL3 t
 few:∀c∈t.Columns,c.Cells.length<=10
def ZHX (b:G_api_Table) (l:List Int):Prop:=∀k∈l, -1<=k/\k < (b.Columns.length:Int)
def ZHJ (l:List Int):Prop:=List.Pairwise (fun x y=>0<=y->x≠y) l
def noT:G_api_Table:=⟨0,[],[]⟩
theorem ZHJ.snoc {l:List Int} (h:ZHJ l) {k:Int} (b:¬(0<=k/\k∈l)):ZHJ (l++[k]):=by refine List.pairwise_append.2 ⟨h,List.pairwise_singleton _ _,fun x d y a c e=> ?_⟩;simp_all
theorem ZHJ.not {l:List Int} {k:Nat} (c:k < l.length) (d:0<=l[k]) (f:l[k]∈l.take k):¬ZHJ l:=fun h=>by
 obtain⟨j,e,b⟩:=Z0C.1 f;have a:j < k:=by grind
 rw[List.getElem_take]at b;exact List.pairwise_iff_getElem.1 h j k (by omega) c a d b
theorem ZHX.snoc {b:G_api_Table} {l:List Int} (h:ZHX b l) {k:Int} (c: -1<=k/\k < (b.Columns.length:Int)):ZHX b (l++[k]):=fun x a=>by
 rcases Z0B.1 a with a |a
 ·exact h x a
 simp_all
theorem ZVc (a b:G_api_Table) (l:List Int) (j:l.length<=1000):wp (Zsb big l l (l.length:Int) 0 a b 0 [] [])
  (fun x=>(ZHX b l/\x= .brk (l,a,b,(0:Int),([]:Str),([]:List G_api_Column)))\/(¬ZHX b l/\x= .ret (noT,2))):=by
 refine Zpy ZDb l (by omega) (fun i (_:Unit)=>(l,l,(l.length:Int),i,a,b,(0:Int),([]:Str),([]:List G_api_Column))) (fun k _=>ZHX b (l.take k)) () (by simp[ZHX]) ?_ ?_
 ·rintro d k _ e c g;unfold Zs5 Zq5 ZuR;dsimp only;rw[decide_eq_true (show (k:Int) < (l.length:Int) by omega),cond_true,ZoM e,Z0H];have f:=Z0z e
  by_cases h1:l[k] < -1
  ·rw[decide_eq_true h1,cond_true,cond_true,Zfa];exact .inr ⟨fun h=>by have:=h _ f;omega,rfl⟩
  rw[decide_eq_false h1,cond_false]
  by_cases h2:l[k]>=(b.Columns.length:Int)
  ·rw[decide_eq_true h2,cond_true,Zfa];exact .inr ⟨fun h=>by have:=h _ f;omega,rfl⟩
  rw[decide_eq_false h2,cond_false,Zhr];refine⟨ZiH (by omega),g () ?_⟩;rw[Z0F e];exact c.snoc ⟨by omega,by omega⟩
 grind[Zs5,Zq5,Zfa]
theorem ZVb (a b:G_api_Table) (l:List Int) (j:l.length<=1000):wp (Zsa big l l (l.length:Int) 0 a b 0 [] [])
  (fun x=>(ZHJ l/\x= .brk (l,a,b,(0:Int),([]:Str),([]:List G_api_Column)))\/(¬ZHJ l/\x= .ret (noT,6))):=by
 refine Zpy ZDa l (by omega) (fun i (_:Unit)=>(l,l,(l.length:Int),i,a,b,(0:Int),([]:Str),([]:List G_api_Column))) (fun k _=>ZHJ (l.take k)) () (by simp[ZHJ]) ?_ ?_
 ·rintro f k _ e c g;unfold Zs4 Zq4 ZuQ;dsimp only;rw[decide_eq_true (show (k:Int) < (l.length:Int) by omega),cond_true,ZoM e,Z0H];have d:inK .i64 ((k:Int)+1)=true:=ZiH (by omega)
  by_cases h0:0<=l[k]
  ·rw[decide_eq_true (show l[k]>=0 from h0),cond_true,Zhr];refine⟨Zpj ⟨by omega,by omega,by omega⟩, ?_⟩;rw[Z0u,ZJZ _ _ (by grind),Z0H]
   by_cases hm:l[k]∈l.take k
   ·rw[decide_eq_true hm,cond_true,Zfa];exact .inr ⟨ZHJ.not e h0 hm,rfl⟩
   ·rw[decide_eq_false hm,cond_false,Zhr];refine⟨d,g () ?_⟩;rw[Z0F e];exact c.snoc fun h=>hm h.2
  ·rw[decide_eq_false (show ¬l[k]>=0 from h0),cond_false,cond_false,Zhr];refine⟨d,g () ?_⟩;rw[Z0F e];exact c.snoc fun h=>h0 h.1
 grind[Zs4,Zq4,Zfa]
theorem ZSH {a:G_api_Table} (d:ZL3 a):ZDo a=some (a,a.Columns.length):=by
 have g:=d.cols;apply Zo1;unfold ZDo;rw[ZLQ (by omega),Z0H,ZhS];refine Zjf (Zpy ZGy a.Columns (by omega) (fun i (s:List G_api_Column×Nat)=>((a.Columns.length:Int),i,a.ID,a.Name,(0:Int),([]:Str),s.1,s.2,([]:List G_api_Column))) (fun k s=>s=(a.Columns,k))
  (Q:=fun x=>x=(a.ID,a.Name,(0:Int),([]:Str),a.Columns,a.Columns.length,([]:List G_api_Column))) (a.Columns,0) rfl ?_ ?_) ?_
 ·rintro c k _ b rfl f;unfold ZBf Zzb;dsimp only;have h:=d.col _ (Z0z b);rw[decide_eq_true (show (k:Int) < (a.Columns.length:Int) by omega),cond_true,Zhr];refine⟨ZFh b, ?_⟩;rw[Z0u,Z0y b,Z0H,Zhr];refine⟨decide_eq_true (Nat.le_refl _), ?_⟩;rw[ZLR (by have:=h.rows;omega),Z0H,Zhr,Zhr];refine⟨ZFh b,decide_eq_true rfl, ?_⟩;rw[Z0H,Zhr];refine⟨ZiH (by omega), ?_⟩;have e:a.Columns.set k ⟨a.Columns[k].Name,a.Columns[k].Cells⟩=a.Columns:=by show a.Columns.set k a.Columns[k]=a.Columns;simp_all
  simp_all
 all_goals simp_all[ZBf,Zzb,Zfa,ZEu]
theorem ZMk {a:G_api_Table} (b:ZIF a):0<=Zr9 a/\Zr9 a<=10:=by
 unfold Zr9;cases h:a.Columns with
 |nil=>simp_all
 |cons c r=>
  have:=b.few c (by simp_all);grind
theorem ZVd {a b:G_api_Table} {l:List Int} (t:ZIF a) (A:ZIF b) (C:l.length=a.Columns.length) (I:ZHX b l):ZuP l a b 0 [] []=some (ZJE a b l,0):=by
 have K:=t.w.cols;have F:=A.w.cols;have H:=ZMk t;have u:=ZMk A;apply Zo1;unfold ZuP;rw[ZF7,Z0H,ZF7,Z0H,Zhr];refine⟨ZiH (by omega), ?_⟩;rw[decide_eq_false (by omega),cond_false,ZSH t.w,Z0H];dsimp only;rw[ZhS];have e:∀k,k<=a.Columns.length->(Z0G (ZCT b) (a.Columns.take k) (l.take k)).length=k:=fun k s=>by simp_all
 refine Zjf (Zpy ZC9 l (by omega) (fun i (z:List G_api_Column)=>(l,(l.length:Int),i,b,(0:Int),([]:Str),a.ID,a.Name,([]:List G_api_Column),z,a.Columns.length)) (fun k z=>z=Z0G (ZCT b) (a.Columns.take k) (l.take k)++a.Columns.drop k)
  (Q:=fun x=>x=((0:Int),([]:Str),a.ID,a.Name,([]:List G_api_Column),Z0G (ZCT b) a.Columns l,a.Columns.length)) a.Columns (by simp) ?_ ?_) ?_
 ·rintro q k _ s rfl J;unfold Zs3 Zq3;dsimp only;have d:k < a.Columns.length:=by omega
  have h:=I _ (Z0z s);have B:(Z0G (ZCT b) (a.Columns.take k) (l.take k)++a.Columns.drop k).length=a.Columns.length:=by grind
  rw[decide_eq_true (show (k:Int) < (l.length:Int) by omega),cond_true,ZoM s,Z0H,ZF7,Z0H]
  change wp ((Zpp [ZMr] (Zr9 b)).bind _) _
  rw[ZLw u,Z0H];have G:=t.w.col _ (Z0z d);have g:∀c,c=ZCG b l[k]->c.length<=1000->wp (ZqL (fun v w i b E r y m o n f=>q (v,w,i,b,E,r,y,m,o,n,f)) (k:Int) c l (l.length:Int) (k:Int) b 0 [] a.ID a.Name [] (Z0G (ZCT b) (a.Columns.take k) (l.take k)++a.Columns.drop k) a.Columns.length) (fun x=>x=((0:Int),([]:Str),a.ID,a.Name,([]:List G_api_Column),Z0G (ZCT b) a.Columns l,a.Columns.length)):=by
   rintro c p D;unfold ZqL;rw[Zhr];refine⟨Zs1 ⟨by omega,by omega⟩, ?_⟩;rw[Z0u,ZLt _ _ _ d (e k (by omega)),Z0H,Zhr,Zhr,Zhr,Zhr];refine⟨decide_eq_true d,ZpN (by have:=G.rows;omega),Zs1 ⟨by omega,by omega⟩,decide_eq_true ⟨rfl,d⟩, ?_⟩;rw[Z0H,Zhr];refine⟨ZiH (by omega),J _ ?_⟩;rw[List.set_append_right _ _ (by grind),e k (by omega),Nat.sub_self,Z0v d,List.set_cons_zero,Z0F d,Z0F s,
    List.zipWith_append (by simp_all)]
   simp[ZCT,p]
  by_cases h0:0<=l[k]
  ·have j:(l[k]).toNat < b.Columns.length:=by omega
   rw[decide_eq_true (show l[k]>=0 from h0),cond_true,Zin h0 j,Z0H];refine g _ ?_ (by have:=(A.w.col _ (Z0z j)).rows;omega)
   grind[ZCG]
  grind[ZCG]
 ·grind[Zs3,Zq3,Zfa]
 rintro _ rfl;dsimp only;unfold Zyt;exact Zfa.2 rfl
inductive ZD7 (a b:G_api_Table) (l:List Int):G_api_Table×Int->Prop
 |bad (h:¬(ZuN a=true/\ZuN b=true/\l.length=a.Columns.length)):ZD7 a b l (noT,1)
 |rng (h:ZuN a=true/\ZuN b=true/\l.length=a.Columns.length) (hr:¬ZHX b l):ZD7 a b l (noT,2)
 |dif (h:ZuN a=true/\ZuN b=true/\l.length=a.Columns.length) (hr:ZHX b l) (hd:¬ZHJ l):ZD7 a b l (noT,6)
 |ok (h:ZuN a=true/\ZuN b=true/\l.length=a.Columns.length) (hr:ZHX b l) (hd:ZHJ l):ZD7 a b l (ZJE a b l,0)
theorem ZSt {a b:G_api_Table} {l:List Int} (f:ZIF a) (g:ZIF b) (i:l.length<=1000):wp (Zqp a b l) (ZD7 a b l):=by
 unfold Zqp;rw[f.w.valid,g.w.valid,Z0H];have c:∀h:¬(ZuN a=true/\ZuN b=true/\l.length=a.Columns.length),wp (ZpW l true a b 0 [] []) (ZD7 a b l):=fun h=>by unfold ZpW;rw[cond_true,Zfa];exact .bad h
 cases hva:ZuN a with
 |false=>
  simp_all
 |true=>
 rw[Z0t,cond_false,Z0H];cases hvb:ZuN b with
 |false=>
  simp_all
 |true=>
 rw[Z0t,cond_false]
 by_cases hll:l.length=a.Columns.length
 rotate_left
 ·rw[show (((l.length:Nat):Int) != (a.Columns.length:Int))=true by grind];simp_all
 have h:ZuN a=true/\ZuN b=true/\l.length=a.Columns.length:=⟨hva,hvb,hll⟩;rw[show (((l.length:Nat):Int) != (a.Columns.length:Int))=false by simp_all];unfold ZpW;rw[cond_false,ZhS];refine Zjf (ZVc a b l i) ?_;rintro _ (⟨d,rfl⟩ |⟨d,rfl⟩);rotate_left
 ·dsimp only;rw[Zfa];exact .rng h d
 dsimp only;unfold Zyu;rw[ZhS];refine Zjf (ZVb a b l i) ?_;rintro _ (⟨e,rfl⟩ |⟨e,rfl⟩);rotate_left
 ·dsimp only;rw[Zfa];exact .dif h d e
 dsimp only;rw[ZVd f g hll d,Zfa];exact .ok h d e
end Go.Proofs
namespace Go.Proofs
open Go Eng
theorem ZSB (a b:G_api_Table) (l:List Int) (j:l.length<=1000):wp (Zp4 big l l (l.length:Int) 0 a b 0 [] [])
  (fun x=>(ZHX b l/\x= .brk (l,a,b,(0:Int),([]:Str),([]:List G_api_Column)))\/(¬ZHX b l/\x= .ret (noT,2))):=by
 refine Zpy ZEG l (by omega) (fun i (_:Unit)=>(l,l,(l.length:Int),i,a,b,(0:Int),([]:Str),([]:List G_api_Column))) (fun k _=>ZHX b (l.take k)) () (by simp[ZHX]) ?_ ?_
 ·rintro d k _ e c g;unfold Zww ZsF ZtK;dsimp only;rw[decide_eq_true (show (k:Int) < (l.length:Int) by omega),cond_true,ZoM e,Z0H];have f:=Z0z e
  by_cases h1:l[k] < -1
  ·rw[decide_eq_true h1,cond_true,cond_true,Zfa];exact .inr ⟨fun h=>by have:=h _ f;omega,rfl⟩
  rw[decide_eq_false h1,cond_false]
  by_cases h2:l[k]>=(b.Columns.length:Int)
  ·rw[decide_eq_true h2,cond_true,Zfa];exact .inr ⟨fun h=>by have:=h _ f;omega,rfl⟩
  rw[decide_eq_false h2,cond_false,Zhr];refine⟨ZiH (by omega),g () ?_⟩;rw[Z0F e];exact c.snoc ⟨by omega,by omega⟩
 grind[Zww,ZsF,Zfa]
theorem ZSz (a b:G_api_Table) (l m:List Int) (k i:Int) (o:m.length<=1000):wp (Zp2 big l k l (l.length:Int) i m (m.length:Int) 0 a b 0 [] [])
  (fun x=>(¬(0<=k/\k∈m)/\x= .brk (l,l,(l.length:Int),i,a,b,(0:Int),([]:Str),([]:List G_api_Column)))\/((0<=k/\k∈m)/\x= .ret (noT,6))):=by
 refine Zpy ZEE m (by omega) (fun j (_:Unit)=>(l,k,l,(l.length:Int),i,m,(m.length:Int),j,a,b,(0:Int),([]:Str),([]:List G_api_Column))) (fun j _=>¬(0<=k/\k∈m.take j)) () (by simp) ?_ ?_
 ·rintro e j _ f c g;unfold Zwu ZsD ZtJ;dsimp only;rw[decide_eq_true (show (j:Int) < (m.length:Int) by omega),cond_true,ZoM f,Z0H];have d:inK .i64 ((j:Int)+1)=true:=ZiH (by omega)
  by_cases h0:0<=k
  ·rw[decide_eq_true (show k>=0 from h0),cond_true]
   by_cases he:k=m[j]
   ·rw[show (k == m[j])=true by simp_all,cond_true,Zfa];exact .inr ⟨⟨h0,he▸Z0z f⟩,rfl⟩
   ·rw[show (k == m[j])=false by simp_all,cond_false,Zhr];refine⟨d,g () fun h=> ?_⟩;grind[Z0F]
  ·rw[decide_eq_false (show ¬k>=0 from h0),cond_false,cond_false,Zhr];exact⟨d,g () fun h=>h0 h.1⟩
 grind[Zwu,ZsD,Zfa]
theorem ZSA (a b:G_api_Table) (l:List Int) (j:l.length<=1000):wp (Zp3 big l l (l.length:Int) 0 a b 0 [] [])
  (fun x=>(ZHJ l/\x= .brk (l,a,b,(0:Int),([]:Str),([]:List G_api_Column)))\/(¬ZHJ l/\x= .ret (noT,6))):=by
 refine Zpy ZEF l (by omega) (fun i (_:Unit)=>(l,l,(l.length:Int),i,a,b,(0:Int),([]:Str),([]:List G_api_Column))) (fun k _=>ZHJ (l.take k)) () (by simp[ZHJ]) ?_ ?_
 ·rintro d k _ e c g;unfold Zwv ZsE;dsimp only;rw[decide_eq_true (show (k:Int) < (l.length:Int) by omega),cond_true,ZoM e,Z0H,Zhr];refine⟨Zpj ⟨by omega,by omega,by omega⟩, ?_⟩;rw[Z0u,ZhS];refine Zjf (ZSz a b l (l.take k) l[k] (k:Int) (by grind)) ?_;rintro _ (⟨h,rfl⟩ |⟨f,rfl⟩)
  ·dsimp only;unfold ZxO;rw[Zhr];refine⟨ZiH (by omega),g () ?_⟩;rw[Z0F e];exact c.snoc h
  grind[Zfa,ZHJ.not]
 grind[Zwv,ZsE,Zfa]
theorem ZJA {t:G_api_Table} (h:ZuN t=true):∀c∈t.Columns,(c.Cells.length:Int)=Zr9 t:=by grind[ZuN,ZPn]
theorem ZKB {b:G_api_Table} (c:ZuN b=true) (d:0<=Zr9 b) {k:Int} (e: -1<=k/\k < (b.Columns.length:Int)):(ZCG b k).length=(Zr9 b).toNat:=by
 grind[ZCG,ZJA]
theorem ZSy {b:G_api_Table} {l:List Int} (D:ZIF b) (w:ZuN b=true) {i:Nat} (B:i < l.length) (C: -1<=l[i]/\l[i] < (b.Columns.length:Int)) (n:List G_api_Column) (o m:Int) (g c a:Str) (id:Int) (f d:List G_api_Column) (h:List G_api_Cell) (E:h.length<=100):
  Zpz big l (Zr9 b) (i:Int) n o (i:Int) (Zr9 b) 0 b m g id c a f d h=some (l,Zr9 b,n,o,(i:Int),b,m,g,id,c,a,f,d,h++ZCG b l[i]):=by
 have s:=ZMk D;have A:=ZKB w s.1 C;apply Zo1;have e:Zr9 b=((ZCG b l[i]).length:Int):=by omega
 have p:wp (Zpz big l (Zr9 b) (i:Int) n o (i:Int) ((ZCG b l[i]).length:Int) 0 b m g id c a f d h) (fun x=>x=(l,Zr9 b,n,o,(i:Int),b,m,g,id,c,a,f,d,h++ZCG b l[i])):=by
  refine Zpy ZEC (ZCG b l[i]) (by omega) (fun r (y:List G_api_Cell)=>(l,Zr9 b,(i:Int),n,o,(i:Int),((ZCG b l[i]).length:Int),r,b,m,g,id,c,a,f,d,y)) (fun r y=>y=h++(ZCG b l[i]).take r) h (by simp) ?_ ?_
  ·rintro t r _ v rfl z;unfold Zws ZsB ZtI;dsimp only;rw[decide_eq_true (show (r:Int) < ((ZCG b l[i]).length:Int) by omega),cond_true,ZoM B,Z0H];have j:∀y,y=(ZCG b l[i])[r]->h++(ZCG b l[i]).take r++[y]=h++(ZCG b l[i]).take (r+1):=by grind[Z0F]
   by_cases h0:0<=l[i]
   ·have k:(l[i]).toNat < b.Columns.length:=by omega
    have q:=ZJA w _ (Z0z k);grind[Zin,ZoM,Zhr,ZpN,ZiH,ZCG]
   ·rw[decide_eq_false (show ¬l[i]>=0 from h0),cond_false,Zhr,Zhr];refine⟨ZpN (by simp;omega),ZiH (by omega),z _ (j _ ?_)⟩;simp only[ZCG,if_neg h0,List.getElem_replicate];rfl
  grind[Zws,ZsB,Zfa]
 grind
theorem ZSC {a b:G_api_Table} {l:List Int} (d:ZIF a) (m:ZIF b) (o:ZuN b=true) (r:l.length=a.Columns.length) (p:ZHX b l):ZtH l a b 0 [] []=some (ZJE a b l,0):=by
 have s:=d.w.cols;have u:=ZMk d;have t:=ZMk m;have j:Zre l (Zr9 b) false a b 0 [] []=some (ZJE a b l,0):=by
  apply Zo1;unfold Zre;rw[cond_false,ZhS];refine Zjf (Zpy ZED a.Columns (by omega) (fun i (g:List G_api_Column)=>(l,Zr9 b,a.Columns,(a.Columns.length:Int),i,b,(0:Int),([]:Str),a.ID,a.Name,([]:List G_api_Column),g)) (fun k g=>g=Z0G (ZCT b) (a.Columns.take k) (l.take k))
   (Q:=fun x=>x=((0:Int),([]:Str),a.ID,a.Name,([]:List G_api_Column),Z0G (ZCT b) a.Columns l)) [] rfl ?_ ?_) ?_
  ·rintro f k _ e rfl q;unfold Zwt ZsC;dsimp only;have c:k < l.length:=by omega
   have n:=Z0z e;have h:=p _ (Z0z c);rw[decide_eq_true (show (k:Int) < (a.Columns.length:Int) by omega),cond_true,ZoM e,Z0H,Zhr];refine⟨ZpN (by have:=d.few _ n;omega), ?_⟩;rw[ZSy m o c h _ _ _ _ _ _ _ _ _ _ (by have:=d.few _ n;omega),Z0H];dsimp only;unfold ZxN;rw[Zhr,Zhr];refine⟨ZpN (by grind),ZiH (by omega),q _ ?_⟩;rw[Z0F e,Z0F c,List.zipWith_append (by simp_all)];rfl
  ·grind[Zwt,ZsC,Zfa]
  rintro _ rfl;dsimp only;unfold Zw9;exact Zfa.2 rfl
 grind[ZtH,ZIm,ZiH,chk_true,decide_eq_false]
theorem ZQt {a b:G_api_Table} {l:List Int} (f:ZIF a) (g:ZIF b) (i:l.length<=1000):wp (Zs6 a b l) (ZD7 a b l):=by
 unfold Zs6;rw[f.w.rvalid,g.w.rvalid,Z0H];have c:∀h:¬(ZuN a=true/\ZuN b=true/\l.length=a.Columns.length),wp (ZpA l true a b 0 [] []) (ZD7 a b l):=fun h=>by unfold ZpA;rw[cond_true,Zfa];exact .bad h
 cases hva:ZuN a with
 |false=>
  simp_all
 |true=>
 rw[Z0t,cond_false,Z0H];cases hvb:ZuN b with
 |false=>
  simp_all
 |true=>
 rw[Z0t,cond_false]
 by_cases hll:l.length=a.Columns.length
 rotate_left
 ·rw[show (((l.length:Nat):Int) != (a.Columns.length:Int))=true by grind];simp_all
 have h:ZuN a=true/\ZuN b=true/\l.length=a.Columns.length:=⟨hva,hvb,hll⟩;rw[show (((l.length:Nat):Int) != (a.Columns.length:Int))=false by simp_all];unfold ZpA;rw[cond_false,ZhS];refine Zjf (ZSB a b l i) ?_;rintro _ (⟨d,rfl⟩ |⟨d,rfl⟩);rotate_left
 ·dsimp only;rw[Zfa];exact .rng h d
 dsimp only;unfold ZxP;rw[ZhS];refine Zjf (ZSA a b l i) ?_;rintro _ (⟨e,rfl⟩ |⟨e,rfl⟩);rotate_left
 ·dsimp only;rw[Zfa];exact .dif h d e
 dsimp only;rw[ZSC f g hvb hll d,Zfa];exact .ok h d e
theorem ZD7.one {a b:G_api_Table} {l:List Int} {r c:G_api_Table×Int} (h:ZD7 a b l r) (d:ZD7 a b l c):r=c:=by cases h<;>cases d<;>first |rfl |(exfalso;simp_all)
theorem ZNK {a b:G_api_Table} {l:List Int} (f:ZIF a) (g:ZIF b) (h:l.length<=1000):∃r,Zqp a b l=some r/\Zs6 a b l=some r/\ZD7 a b l r:=by obtain⟨r,i,e⟩:=ZSt f g h;obtain⟨j,d,c⟩:=ZQt f g h;obtain rfl:=e.one c;simp_all
end Go.Proofs
namespace Go.Proofs
open Go Eng
theorem ZJB {a:G_api_Table} (c:ZLi a) (b:ZL3 a):Znd a=some true:=by rw[b.rvalid,c.ok]
theorem ZOP {a b:G_api_Table} (d:ZLi a) (e:ZLi b) (t:ZL3 a) (u:ZL3 b):ZoT a b=some (ZHW (ZNr a b) 0,fOf (ZKn a b),0):=by
 have o:=d.cols;have p:=e.cols;apply Zo1;unfold ZoT;rw[ZJB d t,Z0H,Z0t,cond_false,ZJB e u,Z0H,Z0t];unfold Zp5;rw[cond_false,decide_eq_false (by omega),cond_false,decide_eq_false (by omega)];unfold ZtM;rw[cond_false,ZhS];refine Zjf (Zpy ZEI a.Columns (by omega) (fun i (w:List (List ZbF))=>(a.Columns,(a.Columns.length:Int),i,a,b,false,false,w,([]:List Int),([]:List Int))) (fun k w=>w=Zo8 ((a.Columns.take k).map fun x=>ZOu b x))
  (Q:=fun x=>x=(a,b,false,false,Zo8 (ZNr a b),([]:List Int),([]:List Int))) [] rfl ?_ ?_) ?_
 ·rintro c k w g rfl m;unfold Zwy ZsH;dsimp only;rw[decide_eq_true (show (k:Int) < (a.Columns.length:Int) by omega),cond_true,ZoM g,Z0H,ZhS];have s:=d.col _ (Z0z g);refine Zjf (Zpy ZEH b.Columns (by omega) (fun j (r:List ZbF)=>(a.Columns,(a.Columns.length:Int),(k:Int),b.Columns,(b.Columns.length:Int),j,a,b,false,false,Zo8 ((a.Columns.take k).map fun x=>ZOu b x),a.Columns[k],r,([]:List Int),([]:List Int)))
   (fun j r=>r=((b.Columns.take j).map fun y=>ZIU a.Columns[k] y).map fOf)
   (Q:=fun x=>x=(a.Columns,(a.Columns.length:Int),(k:Int),a,b,false,false,Zo8 ((a.Columns.take k).map fun x=>ZOu b x),(ZOu b a.Columns[k]).map fOf,([]:List Int),([]:List Int))) [] rfl ?_ ?_) ?_
  ·rintro c j r l rfl m;unfold Zwx ZsG;dsimp only;rw[decide_eq_true (show (j:Int) < (b.Columns.length:Int) by omega),cond_true,ZoM l,Z0H,ZON s (e.col _ (Z0z l)),Z0H,Zhr,Zhr];grind[ZpN,ZiH,Z0F]
  ·rintro c r rfl;unfold Zwx ZsG;dsimp only;rw[decide_eq_false (show ¬(b.Columns.length:Int) < (b.Columns.length:Int) by omega),cond_false,Zfa,Z0E];rfl
  grind[ZxR,Zhr,ZpN,Zo8,ZiH,Z0F]
 ·rintro c w rfl;unfold Zwy ZsH;dsimp only;rw[decide_eq_false (show ¬(a.Columns.length:Int) < (a.Columns.length:Int) by omega),cond_false,Zfa,Z0E];rfl
 rintro _ rfl;dsimp only;unfold ZxQ;have h:=ZHo d.cols e.cols;rw[ZNP (ZMs d e),Z0H];dsimp only
 by_cases h0:(if (b.Columns.length:Int) > (a.Columns.length:Int)then (b.Columns.length:Int)else (a.Columns.length:Int))=0
 ·have q:a.Columns=[]:=List.eq_nil_of_length_eq_zero (by omega);rw[h0,beq_self_eq_true,cond_true,ZEy,Z0H,Zfa];have v:ZNr a b=[]:=by grind[ZNr]
  unfold ZKn;rw[v];show _=([],fOf (0 / _),_);grind
 ·have n:ZIK a b=(if (b.Columns.length:Int) > (a.Columns.length:Int)then (b.Columns.length:Int)else (a.Columns.length:Int)):=by grind[ZIK]
  have f:((ZIK a b:Int):Rat)≠0:=by
   simp_all
  rw[beq_eq_false_iff_ne.2 h0,cond_false,<-n,ZIw _ (by omega) (by omega),Z0H,ZNw f (ZJx d e) (ZMf ⟨h.1,h.2.1⟩) (by omega),Z0H,Zfa];rfl
def noF:ZbF:=⟨⟨false,[]⟩,⟨false,[]⟩⟩
theorem ZVh:Zo5 noF noF=some true:=by kernel_rfl
theorem ZN9 {a b:G_api_Table} (c:ZL3 a) (d:ZL3 b):∃l s e,Zo3 a b=some (l,s,e)/\ZoT a b=some (l,s,e)/\l.length<=1000/\Zo5 s s=some true:=by
 have f:∀e,Zo3 a b=some ([],noF,e)->ZoT a b=some ([],noF,e)->∃l s e,Zo3 a b=some (l,s,e)/\ZoT a b=some (l,s,e)/\l.length<=1000/\Zo5 s s=some true:=
  fun e j k=>⟨[],noF,e,j,k,by simp,ZVh⟩
 cases hva:ZuN a with
 |false=>
  refine f 1 ?_ ?_
  ·unfold Zo3;rw[c.valid,hva,Z0H,ZVx,cond_true];rfl
  ·unfold ZoT;rw[c.rvalid,hva,Z0H,ZVx,cond_true];rfl
 |true=>
 cases hvb:ZuN b with
 |false=>
  refine f 1 ?_ ?_
  ·unfold Zo3;rw[c.valid,hva,Z0H,Z0t,cond_false,d.valid,hvb,Z0H];rfl
  ·unfold ZoT;rw[c.rvalid,hva,Z0H,Z0t,cond_false,d.rvalid,hvb,Z0H];rfl
 |true=>
 by_cases ha8:a.Columns.length<=8
 rotate_left
 ·refine f 3 ?_ ?_
  ·unfold Zo3 Zsc;rw[c.valid,hva,Z0H,Z0t,cond_false,d.valid,hvb,Z0H,Z0t,cond_false,decide_eq_true (show (a.Columns.length:Int) > 8 by omega),cond_true];rfl
  ·unfold ZoT Zp5;rw[c.rvalid,hva,Z0H,Z0t,cond_false,d.rvalid,hvb,Z0H,Z0t,cond_false,decide_eq_true (show (a.Columns.length:Int) > 8 by omega),cond_true];rfl
 by_cases hb8:b.Columns.length<=8
 rotate_left
 ·refine f 3 ?_ ?_
  ·unfold Zo3 Zsc;rw[c.valid,hva,Z0H,Z0t,cond_false,d.valid,hvb,Z0H,Z0t,cond_false,decide_eq_false (show ¬(a.Columns.length:Int) > 8 by omega),cond_false,decide_eq_true (show (b.Columns.length:Int) > 8 by omega)];rfl
  ·unfold ZoT Zp5;rw[c.rvalid,hva,Z0H,Z0t,cond_false,d.rvalid,hvb,Z0H,Z0t,cond_false,decide_eq_false (show ¬(a.Columns.length:Int) > 8 by omega),cond_false,decide_eq_true (show (b.Columns.length:Int) > 8 by omega)];rfl
 have g:=c.C hva ha8;have i:=d.C hvb hb8;refine⟨_,_,_,ZNz g i,ZOP g i c d,by grind[ZLU,ZNr], ?_⟩;have h:=ZQs g i;rw[ZHq _ _ (h.wq (by omega)) (h.wq (by omega)),decide_eq_true rfl]
end Go.Proofs
namespace Go.Proofs
open Go Eng
theorem ZKN (l:List Int) (d:l.length<=1000):Zp6 l l=some true:=by
 apply Zo1;unfold Zp6;rw[show (((l.length:Nat):Int) != (l.length:Int))=false by simp,cond_false,ZhS];refine Zjf (Zpy ZDI l (by omega) (fun i (_:Unit)=>(l,l,(l.length:Int),i)) (fun _ _=>True) (Q:=fun x=>x= .brk ()) () trivial ?_ ?_) ?_
 ·rintro c k _ b _ a;unfold Zut Zq9;dsimp only;rw[decide_eq_true (show (k:Int) < (l.length:Int) by omega),cond_true,ZoM b,Z0H,Z0H,show (l[k] != l[k])=false by simp,cond_false,Zhr];exact⟨ZiH (by omega),a () trivial⟩
 all_goals grind[Zut,Zq9,Zfa,ZvX]
theorem ZKb (c:G_api_Column) (e:c.Cells.length<=1000000):Zty c c=some true:=by
 refine Zo1 ?_;unfold Zty;rw[Zoy];refine⟨fun h=>by grind,fun _=> ?_⟩;rw[bne_self_eq_false];unfold ZrE Zvc;rw[cond_false,ZhS];refine Zjf (Zpy ZDF c.Cells (by omega) (fun k (_:Unit)=>((c.Cells.length:Int),k,c,c)) (fun _ _=>True) (Q:=fun x=>x= .brk ()) () trivial (fun a k _ b _ d=> ?_) (fun a _ _=> ?_)) ?_
 ·unfold ZtV ZqW;dsimp only;rw[Zoy];refine⟨fun _=> ?_,fun h=>by simp_all⟩;rw[ZhS,ZoM b,Zfa,ZhS,Zfa,Zoy];refine⟨fun h=>by grind,fun _=> ?_⟩;rw[Zhr];exact⟨ZiH (by omega),d () trivial⟩
 all_goals grind[ZtV,ZqW,Zfa]
theorem ZLu (t:G_api_Table) (f:t.Columns.length<=1000) (e:∀c∈t.Columns,c.Cells.length<=1000000):ZrF t t=some true:=by
 refine Zo1 ?_;unfold ZrF;rw[bne_self_eq_false,cond_false,Zoy];refine⟨fun h=>by grind,fun _=> ?_⟩;rw[bne_self_eq_false];unfold ZrT ZyX;rw[cond_false,ZhS];refine Zjf (Zpy ZE9 t.Columns (by omega) (fun k (_:Unit)=>((t.Columns.length:Int),k,t,t)) (fun _ _=>True) (Q:=fun x=>x= .brk ()) () trivial (fun b k _ a _ d=> ?_) (fun b _ _=> ?_)) ?_
 ·unfold Zxm Ztx;dsimp only;rw[Zoy];refine⟨fun _=> ?_,fun h=>by simp_all⟩;rw[ZhS,ZoM a,Zfa,ZhS,Zfa,ZKb _ (e _ (Z0z a)),ZhS,Zfa,Z0t,cond_false,Zhr];exact⟨ZiH (by omega),d () trivial⟩
 all_goals grind[Zxm,Ztx,Zfa]
theorem ZU9 {t:G_api_Table} (h:ZI9 t):ZL3 t:=by obtain⟨n,g,d⟩:=h.rows;refine⟨by have:=(ZKd h.name).2;omega,by have:=h.cols;omega,fun c a=> ?_⟩;obtain⟨b,i,f⟩:=d c a;refine⟨by have:=(ZKd b).2;omega,by omega,fun x e=> ?_⟩;have:=(ZKd (f x e).1).2;omega
theorem ZNa {t:G_api_Table} (h:ZI9 t):ZIF t:=by refine⟨ZU9 h,fun c a=> ?_⟩;obtain⟨n,d,b⟩:=h.rows;have:=(b c a).2.1;omega
theorem ZNL {t:G_api_Table} (f:ZIc t):wp (Zwi t) (fun r=>r=true->ZIF t):=by
 unfold Zwi
 by_cases h:(t.Columns.length:Int) > 10
 ·grind[Zfa]
 rw[decide_eq_false h,cond_false,ZhS];refine Zjf (Zpy ZET t.Columns (by omega) (fun i (_:Unit)=>(t.Columns,(t.Columns.length:Int),i)) (fun i _=>∀c∈t.Columns.take i,c.Cells.length<=10/\c.Name.length<=100)
  (Q:=fun x=>x= .ret false\/(x= .brk ()/\∀c∈t.Columns,c.Cells.length<=10/\c.Name.length<=100)) () (by simp) ?_ ?_) ?_
 ·rintro d i _ e h g;unfold ZwQ ZsX Zt9;dsimp only;rw[decide_eq_true (show (i:Int) < (t.Columns.length:Int) by omega),cond_true,ZoM e,Z0H]
  by_cases h1:(t.Columns[i].Cells.length:Int) > 10
  ·grind[Zfa]
  rw[decide_eq_false h1,cond_false]
  by_cases b:(t.Columns[i].Name.length:Int) > 100
  ·grind[Zfa]
  rw[decide_eq_false b,cond_false,Zhr];refine⟨ZiH (by omega),g () fun c a=> ?_⟩;grind[Z0F]
 ·grind[ZwQ,ZsX,Zfa]
 ·rintro x (rfl |⟨rfl,b⟩)
  ·grind[Zfa]
  ·dsimp only;unfold Zyd;rw[Zfa];exact fun _=>⟨⟨f.1,by omega,fun c a=>⟨by grind,by grind,(f.2 c a).2⟩⟩,fun c a=>(b c a).1⟩
theorem ZD7.same {a b:G_api_Table} (m:ZIF a) (n:ZIF b) {l:List Int} {r:G_api_Table×Int} (h:ZD7 a b l r):ZrF r.1 r.1=some true:=by
 have q:=m.w.cols;have d:ZrF noT noT=some true:=ZLu _ (by simp[noT]) (fun c g=>by grind[noT]);cases h with
 |bad=>omega
 |rng=>omega
 |dif=>omega
 |ok h p v=>
  refine ZLu _ ?_ ?_
  ·show (Z0G (ZCT b) a.Columns l).length<=1000;grind
  ·intro c g;obtain⟨i,o,rfl⟩:=List.getElem_of_mem g;have j:i < (Z0G (ZCT b) a.Columns l).length:=o;rw[List.length_zipWith]at j;have f:i < a.Columns.length:=by omega
   have k:i < l.length:=by omega
   have e:(ZJE a b l).Columns[i]=ZCT b a.Columns[i] l[i]:=by simp[ZJE]
   rw[e];have s:=m.few _ (Z0z f);have t:=ZKB h.2.1 (ZMk n).1 (p _ (Z0z k));have u:=ZMk n;show (a.Columns[i].Cells++ZCG b l[i]).length<=1000000;grind
theorem ZYx (a:List Int) (g f:Int) (d:ZbZ) {p:ZjT} (o:ZIF p.e0) (q:ZIF p.e1) (c:List ZjT) (b:List (List Int)) (y:b.length<=1000) (h:∀l∈b,l.length<=1000):
  wp (ZoY big a g f (b.length:Int) 0 d p c b) (fun x=>x= .brk (a,g,f,d,c)):=by
 refine Zpy ZBs b (by omega) (fun i (_:Unit)=>(a,g,f,(b.length:Int),i,d,p,c,b)) (fun _ _=>True) () trivial ?_ ?_
 ·rintro j k _ m _ t;unfold ZqY ZpE ZpS;dsimp only;rw[decide_eq_true (show (k:Int) < (b.length:Int) by omega),cond_true,Zhr];refine⟨ZFh m, ?_⟩;obtain⟨r,s,v,w⟩:=ZNK o q (h _ (Z0z m));rw[Z0u,Z0y m,Z0H,Zhr,Zhr];refine⟨by rfl,by rfl, ?_⟩;rw[s,Z0H];obtain⟨u,e⟩:=r;dsimp only;rw[Zhr,Zhr];refine⟨by rfl,by rfl, ?_⟩;rw[v,Z0H];dsimp only;have n:=w.same o q;dsimp only at n;rw[n,Z0H,Z0t,cond_false,show (e != e)=false by simp,cond_false,Zhr];exact⟨ZiH (by omega),t () trivial⟩
 grind[ZqY,ZpE,Zfa]
theorem ZYy (a:List Int) (K:a.length<=12) {d:ZbZ} (r:Zth d) (b:List ZjT) (O:b.length<=1000) (y:∀p∈b,ZIF p.e0/\ZIF p.e1):
  wp (Zna big a (b.length:Int) 0 d b) (fun x=>x= .brk ()):=by
 refine Zpy ZBt b (by omega) (fun i (d:ZbZ)=>(a,(b.length:Int),i,d,b)) (fun _ d=>Zth d) d r ?_ ?_
 ·rintro j k d A r I;unfold ZqZ ZpF;dsimp only;rw[decide_eq_true (show (k:Int) < (b.length:Int) by omega),cond_true,Zhr];refine⟨ZFh A, ?_⟩;obtain⟨F,E⟩:=y _ (Z0z A);obtain⟨m,s,e,G,J,C,L⟩:=ZN9 F.w E.w;rw[Z0u,Z0y A,Z0H,Zhr,Zhr];refine⟨by rfl,by rfl, ?_⟩;rw[G,Z0H];dsimp only;rw[Zhr,Zhr];refine⟨by rfl,by rfl, ?_⟩;rw[J,Z0H];dsimp only;rw[ZKN m C,Z0H,Z0t,cond_false,L,Z0H,Z0t,cond_false,show (e != e)=false by simp];unfold Zpm;rw[cond_false,Zhr];refine⟨ZpN (by omega), ?_⟩;have f:∀c:List Int,c.length<=1000->∀h,Zth h->wp (Zpl (fun a t u d w=>j (a,t,u,d,w)) a m (b.length:Int) (k:Int) h b[k] c b) (fun x=>x= .brk ()):=by
   grind[Zpl,ZhS,Zjf,ZYx,ZrJ,Zhr,ZiH]
  grind[ZhS,Zjf,ZCE,Zhr,ZiH,Zs1]
 grind[ZqZ,ZpF,Zfa]
theorem ZYz (f:List Int) {a:Int} (t: -9223372036854775808<=a/\a<=9223372036854775807) (i:G_api_Table) (d:ZbZ) (id:Int) (j:Str) (b:G_api_Table) (e:List G_api_Column) (h:ZIF ⟨id,j,e⟩):
  wp (ZoZ big f a i d id j b e) (fun x=>∃k,x=(f,i,d,id,j,b,k)/\ZIF ⟨id,j,k⟩):=by
 refine ZxI ZBu (fun e=>(f,a,i,d,id,j,b,e)) (fun e=>ZIF ⟨id,j,e⟩) (fun e=>20 - e.length) e h (by omega) ?_;rintro p e h r;unfold Zvn Zq0 ZpT;dsimp only
 by_cases h0:(e.length:Int) > 0
 rotate_left
 ·grind[Zfa]
 rw[decide_eq_true h0,cond_true,Zhr,Zhr];have s: -9223372036854775808<=Int.tdiv a 6/\Int.tdiv a 6<=9223372036854775807:=by grind
 refine⟨by decide,ZiH s, ?_⟩;rw[ZhS];refine Zjf (ZO1 (Int.tdiv a 6) (m:=2) (by omega)) fun q u=> ?_
 rw[Zhr];refine⟨ZiH (by omega), ?_⟩
 by_cases n:(e.length:Int) < 8+q
 ·rw[decide_eq_true n,cond_true,Zhr];have o:0 < e.length:=by omega
  refine⟨Zs1 (by omega), ?_⟩;rw[show (0:Int).toNat=0 from rfl,Z0y o,Z0H,Zhr];refine⟨ZpN (by grind),r _ ?_ (by grind)⟩;have l:∀c∈e++[e[0]],c∈e:=fun c g=>by
   grind
  exact⟨⟨h.w.name,by grind,fun c g=>h.w.col c (l c g)⟩,fun c g=>h.few c (l c g)⟩
 grind[Zfa]
theorem ZU0 (c:List Int) (f:c.length<=12) {d:ZbZ} (k:Zth d) {a b e:G_api_Table} (i:ZIF a) (g:ZIF b) (j:ZIF e):
  Zpn c (([⟨a,b⟩,⟨b,a⟩,⟨e,b⟩]:List ZjT).length:Int) 0 d [⟨a,b⟩,⟨b,a⟩,⟨e,b⟩]=some true:=by
 refine Zo1 ?_;unfold Zpn;rw[ZhS];refine Zjf (ZYy c f k [⟨a,b⟩,⟨b,a⟩,⟨e,b⟩] (by simp) (fun p h=> ?_)) ?_
 all_goals grind[Zrp,ZPx,Zfa]
theorem ZU1 (c:List Int) (g:c.length<=12) {e:Int} (l: -9223372036854775808<=e/\e<=9223372036854775807) {f:G_api_Table} (h:ZIF f) {d:ZbZ} (i:Zth d) {a b:G_api_Table} (j:ZIF a) (k:ZIF b):
  Zpo c e f d a.ID a.Name b a.Columns=some true:=by
 refine Zo1 ?_;unfold Zpo;rw[ZhS];refine Zjf (ZO1 e (m:=6) (by omega)) fun q _=> ?_
 cases hq:q == 0 with
 |true=>
  rw[cond_true,ZhS];refine Zjf (ZYz c l f d a.ID a.Name b a.Columns j) ?_;grind[ZrK,ZQg,ZU0]
 |false=>
  rw[cond_false];exact ZQg (ZU0 c g i j k h) rfl
theorem unionsearchPairs_law (f:G_api_Table) (t c:List Int) (e:Int) (j:ZIc f) (p: -9223372036854775808<=e/\e<=9223372036854775807):Zs2 f t c e=some true:=by
 refine Zo1 ?_;have o:∀x,wp (ZoJ t c e true x) (· =true):=fun x=>by grind[ZoJ,ZPx,Zfa]
 unfold Zs2;rw[ZhS];refine Zjf (ZNL j) fun r v=> ?_
 cases r with
 |false=>simp_all
 |true=>
 have s:=v rfl;unfold ZBw;rw[Z0t,cond_false,Z0H]
 by_cases hlt:(t.length:Int)<=500
 rotate_left
 ·rw[decide_eq_false hlt,ZVx,cond_true];exact o f
 rw[decide_eq_true hlt,Z0t,cond_false]
 by_cases hal:(c.length:Int) > 12
 ·rw[decide_eq_true hal];exact o f
 rw[decide_eq_false hal];unfold ZoJ ZCj;rw[cond_false,Z0H,ZhS];refine Zjf (ZM9 (d:=⟨t,0⟩) ⟨by simp,by simp,by simp only;omega⟩ (id:=1) (by omega)) ?_;grind[ZhS,Zjf,ZM9,ZCE,ZN7,ZQg,ZU1,ZNa]
end Go.Proofs
namespace Eng
open Go Go.Lib
theorem globOk_one {Pg:Program} {w:World} {n:String} {g:Nat} {t e:TypeId} {k:IntKind} {z:Int} (hn:Pg.globalNamed n=some g) (L:(Pg.globals[g]?).map (·.type)=some t)
  (ht:Pg.underlying t=some (.slice e)) (he:Pg.underlying e=some (.int k)) (M:Pg.cellsOf e=1) (hz:k.min<=z/\z<=k.max)
  (h:VarReads Pg w n (.slice [.lit (.int k z)] [])):ZeC w (fun b _=>b < w.heap.size) g [P.sl 1 [.int k z]]:=by
 obtain⟨g',t',cs,W,p,hg,D,G,hd⟩:=h;obtain rfl:=Option.some.inj (hn.symm.trans hg);obtain rfl:=Option.some.inj (L.symm.trans D);rcases DataW.trod_slice ht hd with ⟨_,u⟩ |⟨a,V,S,A,Z,m,_,C,u,_,hl,Y,B,I,_,_⟩
 ·simp_all
 ·have e0:=congrArg Prod.fst u;simp only[DataW.slice.injEq]at e0;obtain⟨H,_⟩:=e0
  match A,H with
  | [(d,q)],H=>
   simp only[List.map_cons,List.map_nil,List.cons.injEq,and_true]at H;subst H;have y:V=1:=by simp_all
   subst y;obtain⟨ci,E,J⟩:=Option.bind_eq_some_iff.1 (I 0 (by decide));obtain⟨f,hc,N,_⟩:=DataW.trod_int he J;have O:f=z:=by grind
   subst O;subst hc;rw[M,Nat.zero_mul]at E;obtain⟨_,_,K⟩:=World.cells?_some E;have h0:=K 0 (by decide);have l:w.cell? a=some (.int k f):=by grind[Addr.add]
   have c:a.spot=none:=by
    unfold World.cell? at l;cases hs:a.spot with
    |none=>rfl
    |some s=>rw[hs]at l;split at l<;>simp at l
   have R:a=⟨a.block,a.off,none⟩:=by cases a;simp_all
   have U:a.block < w.heap.size:=ZhN (by rw[R]at l;omega);have F:cs.size=1:=by have:=congrArg List.length C;omega
   refine ZHE (t:=0) (fr:= #[]) (ZJy hn G) _ (by omega) fun j v p o X=> ?_
   have hj:j=0:=by grind
   subst hj;simp only[Z0x,Option.some.injEq]at X;subst X;rw[<-Array.getElem?_toList,C]at o;simp only[Z0x,Option.some.injEq]at o;subst o;refine⟨.sl (some a) 1 S _ _ (fun _=> .int k f) rfl (by decide) hl (fun i hi=>rfl) (fun i hi=> ?_) (fun i x u=> ?_),rfl⟩
   ·have r:i=0:=by omega
    subst r;refine⟨a.block,a.off,by grind,fun j v o=>⟨U, ?_⟩⟩;have hj:=(Array.getElem?_eq_some_iff.1 o).1;have Q:j=0:=by have:(Value.int k f).cells.size=1:=rfl;omega
    subst Q;have T:v= .int k f:=by have:(Value.int k f).cells[0]? =some (.int k f):=rfl;grind
    grind
   ·have r:i=0:=by grind
    subst r;simp only[Z0x,Option.some.injEq]at u;subst u;exact .int k f hz.1 hz.2
end Eng
namespace Eng
open Go
inductive ZOr (s:List UInt8):P->Prop
 |str:ZOr s (.str s)
 |agg {cs:List P} {c:P} (h:c∈cs) (h':ZOr s c):ZOr s (.agg cs)
 |sl {sz:Nat} {es:List P} {e:P} (h:e∈es) (h':ZOr s e):ZOr s (.sl sz es)
theorem RelP.strs {w:World} {S:Fz} {s:List UInt8} {x:P} (l:ZOr s x):∀{v:Value},RelP w S v x->s.length<=Zr:=by
 induction l with
 |str=>intro v h;cases h;omega
 |agg g _ d=>
  intro v h;cases h with
  |agg k z j r h=>
   obtain⟨i,b,f⟩:=Z0C.1 g;have e:i < k.size:=by omega
   exact d (h i k[i] _ (Array.getElem?_eq_getElem e) (by simp_all))
 |sl g _ d=>
  intro v h;cases h with
  |sl a p o u t m j q y n c h=>
   obtain⟨i,b,f⟩:=Z0C.1 g;exact d (h i _ (by grind))
inductive ZOs (k:IntKind) (n:Int):P->Prop
 |int:ZOs k n (.int k n)
 |agg {cs:List P} {c:P} (h:c∈cs) (h':ZOs k n c):ZOs k n (.agg cs)
 |sl {sz:Nat} {es:List P} {e:P} (h:e∈es) (h':ZOs k n e):ZOs k n (.sl sz es)
theorem RelP.ints {w:World} {S:Fz} {k:IntKind} {n:Int} {x:P} (m:ZOs k n x):∀{v:Value},RelP w S v x->k.min<=n/\n<=k.max:=by
 induction m with
 |int=>intro v h;cases h;omega
 |agg g _ d=>
  intro v h;cases h with
  |agg l A j t h=>
   obtain⟨i,b,f⟩:=Z0C.1 g;have e:i < l.size:=by omega
   exact d (h i l[i] _ (Array.getElem?_eq_getElem e) (by simp_all))
 |sl g _ d=>
  intro v h;cases h with
  |sl a r q y u o j s z p c h=>
   obtain⟨i,b,f⟩:=Z0C.1 g;exact d (h i _ (by grind))
end Eng
namespace Go.Proofs
open Go Eng
theorem ZVj {w:World} {S:Fz} {v:Value} {y:G_api_Table} (h:RelP w S v (U.encE (.st 2) y)):ZIc y:=by
 have a:Zr=9223372036854775807:=by decide
 have b:RelP w S v (ZHF y):=h;refine⟨?_,fun c d=>⟨?_,fun x e=> ?_⟩⟩
 ·rw[<-a];exact b.strs (.agg (by simp) .str)
 ·rw[<-a];exact b.strs (.agg (c:= .sl 2 (y.Columns.map Zus)) (by simp) (.sl (List.mem_map.2 ⟨c,d,rfl⟩) (.agg (by simp) .str)))
 ·rw[<-a];exact b.strs (.agg (c:= .sl 2 (y.Columns.map Zus)) (by simp) (.sl (List.mem_map.2 ⟨c,d,rfl⟩) (.agg (c:= .sl 2 (c.Cells.map ZzY)) (by simp) (.sl (List.mem_map.2 ⟨x,e,rfl⟩) (.agg (by simp) .str)))))
theorem ZVT {w:World} {S:Fz} {v:Value} {y:Int} (h:RelP w S v (U.encE (.int .i64) y)): -9223372036854775808<=y/\y<=9223372036854775807:=by have a:RelP w S v (P.int .i64 y):=h;have:=a.ints (k:= .i64) (n:=y) .int;rw[show IntKind.min .i64= -9223372036854775808 from by decide,show IntKind.max .i64=9223372036854775807 from by decide]at this;omega
end Go.Proofs
