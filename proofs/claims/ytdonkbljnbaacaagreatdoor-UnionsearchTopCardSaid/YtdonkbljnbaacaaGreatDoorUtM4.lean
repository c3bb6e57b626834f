/- Plain laws over the specs, part 4. -/
import Derived.Test.YtdonkbljnbaacaaGreatDoorUtM3
import Derived.Test.YtdonkbljnbaacaaGreatDoorUtM1
import Derived.Test.YtdonkbljnbaacaaGreatDoorUtM2
import Derived.Test.YtdonkbljnbaacaaGreatDoorQ
import Derived.Test.YtdonkbljnbaacaaGreatDoorE4
import Derived.Test.YtdonkbljnbaacaaGreatDoorUtU
set_option linter.all false
open Bool renaming not_true->ZW1
open Int renaming toNat_natCast->Z2i
open List renaming getElem_mem->Z2p, take_succ_eq_append_getElem->Z2w, getElem?_eq_getElem->Z2o, mem_map->Z2u, length_map->Z2s, length_cons->Z2r, drop_eq_getElem_cons->Z2j, mem_of_mem_take->Z2v, drop_eq_nil_of_le->Z2k, length_take->Z2t, length_append->Z2q, eq_nil_or_concat->Z2m, eq_nil_of_length_eq_zero->Z2l, getElem?_cons_zero->Z2n
open Option renaming bind_some->Z2x
namespace Go.Proofs
open Go Eng
theorem ZOs:∀u:Fin 256,∀k:Fin 8,(andK .i64 (shrK .i64 ((255 - u.val:Nat):Int) (IntKind.wrap .u64 (k.val:Int))) 1 == 0)=ZJ9 u.val k.val/\andNotK .i64 ((255 - u.val:Nat):Int) (shlK .i64 1 (IntKind.wrap .u64 (k.val:Int)))=((255 - ZGI u.val k.val:Nat):Int):=by decide+kernel
theorem ZOr {u k:Nat} (b:u < 256) (a:k < 8):(andK .i64 (shrK .i64 ((255 - u:Nat):Int) (IntKind.wrap .u64 (k:Int))) 1 == 0)=ZJ9 u k:=(ZOs ⟨u,b⟩ ⟨k,a⟩).1
theorem ZLT {u k:Nat} (b:u < 256) (a:k < 8):andNotK .i64 ((255 - u:Nat):Int) (shlK .i64 1 (IntKind.wrap .u64 (k:Int)))=((255 - ZGI u k:Nat):Int):=(ZOs ⟨u,b⟩ ⟨k,a⟩).2
theorem ZKg {k:Nat} (a:k < 8):decide (0<=IntKind.wrap .u64 (k:Int))=true:=by grind[wrap_u64]
theorem ZSQ:∀u:Fin 256,∀k j:Fin 8,ZJ9 (ZGI u.val k.val) j.val=(ZJ9 u.val j.val||decide (j.val=k.val)):=by decide+kernel
def ZRl (u v:Nat):Prop:=∀j,j < 8->ZJ9 u j=true->ZJ9 v j=true
theorem ZRl.set {u v k:Nat} (f:u < 256) (g:v < 256) (c:k < 8) (h:ZRl u v):ZRl (ZGI u k) (ZGI v k):=by intro j a d;have e:=ZSQ ⟨u,f⟩ ⟨k,c⟩ ⟨j,a⟩;have b:=ZSQ ⟨v,g⟩ ⟨k,c⟩ ⟨j,a⟩;dsimp only at e b;rw[e,Bool.or_eq_true]at d;rw[b,Bool.or_eq_true];exact d.imp (h j a) id
theorem ZRl.step {u k:Nat} (a:u < 256) (b:k < 8):ZRl u (ZGI u k):=fun _ c d=>ZSd a b c d
theorem ZOt {F:Nat->Rat} {u v:Nat} (hu:u < 256) (hv:v < 256) (hs:ZRl u v) (hF:∀u v,u < 256->v < 256->ZRl u v->F v<=F u):∀(r:List Rat) (k:Nat) (b c:Rat),k+r.length<=8->c<=b->goW F v k r c<=goW F u k r b
 | [],k,b,c,_,h=>h
 |x::r,k,b,c,hk,h=>by
  rw[Z2r]at hk;rw[goW,goW];refine ZOt hu hv hs hF r (k+1) _ _ (by omega) ?_;have hk8:k < 8:=by omega
  have h1:=hF (ZGI u k) (ZGI v k) (ZIa hu hk8) (ZIa hv hk8) (hs.set hu hv hk8);have hb':b<=(match ZEP F u k x with |some y=>if b < y then y else b |none=>b):=by grind
  cases hv2:ZEP F v k x with
  |none=>grind
  |some y=>
   obtain⟨a1,a2,rfl⟩:=ZMk hv2;have hbu:ZJ9 u k=false:=by
    cases hc:ZJ9 u k with
    |false=>rfl
    |true=>rw[hs k hk8 hc]at a1;omega
   grind[ZEP]
theorem ZLp:∀(w:List (List Rat)),(∀r∈w,r.length<=8)->∀u v,u < 256->v < 256->ZRl u v->Zpx w v<=Zpx w u
 | [],_,u,v,_,_,_=>Rat.le_refl
 |r::rest,h,u,v,hu,hv,hs=>by
  have a:=ZLp rest fun r b=>h r (by grind)
  exact ZOt hu hv hs a r 0 _ _ (by simp_all) (a u v hu hv hs)
def goR (F:Nat->Rat) (u:Nat):Nat->List Rat->Rat->Rat
 |_,[],b=>b
 |k,x::r,b=>goR F u (k+1) r (if ZJ9 u k then b else if b < x+F (ZGI u k)then x+F (ZGI u k)else b)
theorem ZSO {F:Nat->Rat} {u:Nat} (hu:u < 256) (hF:∀u v,u < 256->v < 256->ZRl u v->F v<=F u):∀(r:List Rat) (k:Nat) (b:Rat),k+r.length<=8->F u<=b->goR F u k r b=goW F u k r b
 | [],k,b,_,_=>rfl
 |x::r,k,b,hk,hb=>by
  rw[Z2r]at hk;have hk8:k < 8:=by omega
  have h1:=hF u (ZGI u k) hu (ZIa hu hk8) (ZRl.step hu hk8);rw[goR,goW];have e:(if ZJ9 u k then b else if b < x+F (ZGI u k)then x+F (ZGI u k)else b)=(match ZEP F u k x with |some y=>if b < y then y else b |none=>b):=by grind[ZEP]
  rw[e];refine ZSO hu hF r (k+1) _ (by omega) ?_;grind
def ZII (w:List (List Rat)) (m:ZK9):Prop:=∀(i u:Nat) v,u < 256->lkF m ⟨(i:Int),((255 - u:Nat):Int)⟩=some v->v=fOf (Zpx (w.drop i) u)
theorem ZQl (w:List (List Rat)):ZII w []:=fun i u v _ h=>by cases h
theorem ZII.set {w:List (List Rat)} {m:ZK9} (h:ZII w m) {i u:Nat} (e:u < 256):ZII w (stF m ⟨(i:Int),((255 - u:Nat):Int)⟩ (fOf (Zpx (w.drop i) u))):=by
 intro c d v a b;rw[ZQd]at b;split at b
 ·grind
 ·exact h c d v a b
def Z2h (w:List (List Rat)) (b:RF) (i:Nat):Prop:=∀(u:Nat) (m:ZK9),u < 256->ZII w m->∃a,b (Zo4 w) (i:Int) ((255 - u:Nat):Int) m=some (fOf (Zpx (w.drop i) u),a)/\ZII w a
theorem ZP0 {w:List (List Rat)} {s:Nat} (j:WOk s w) {q:RF} {i:Nat} (G:i < w.length) (F:Z2h w q (i+1)) {u:Nat} (E:u < 256) (v a:Bool) (c:Ziw) (x y:List Int):
  ∀(d k n:Nat) (m:ZK9) (b:Rat),k+d=w[i].length->d < n->ZII w m->Sz (s+((s+1)*(w.drop (i+1)).length+1)+1) b->
   ∃l,ZoN q n (Zo4 w) (i:Int) ((255 - u:Nat):Int) (w[i].map fOf) (w[i].length:Int) (k:Int) m v a c (fOf b) x y=
    some (l,v,a,c,fOf (goR (Zpx (w.drop (i+1))) u k (w[i].drop k) b),x,y)/\ZII w l:=by
 have Q:s+((s+1)*(w.drop (i+1)).length+1)+1<=7700:=by
  have B:(w.drop (i+1)).length<=8:=by rw[List.length_drop];have:=j.rows;omega
  have O:=j.lim;have:(s+1)*(w.drop (i+1)).length<=601*8:=Nat.mul_le_mul (by omega) B;omega
 have P:=j.cols _ (Z2p G);have K:=j.rows;intro d
 induction d with
 |zero=>
  intro k n m b M L A z;obtain⟨n,rfl⟩:∃C,n=C+1:=⟨n - 1,by omega⟩;refine⟨m, ?_,A⟩;rw[ZoN,Ztk,show decide ((k:Int) < (w[i].length:Int))=false from decide_eq_false (by omega),cond_false,show w[i].drop k=[]from Z2k (by omega)];rfl
 |succ d N=>
  intro k n m b M L A z;obtain⟨n,rfl⟩:∃C,n=C+1:=⟨n - 1,by omega⟩;have o:k < w[i].length:=by omega
  have f:k < 8:=by omega
  have H:=j.sz _ (Z2p G) _ (Z2p o);have p:w[i].drop k=w[i][k]::w[i].drop (k+1):=Z2j o;have e:∀(h:ZK9) (t:Rat),ZII w h->Sz (s+((s+1)*(w.drop (i+1)).length+1)+1) t->∃l,Zqo q (ZoN q n) (Zo4 w) (i:Int) ((255 - u:Nat):Int) (w[i].map fOf) (w[i].length:Int) (k:Int) h v a c (fOf t) x y=
    some (l,v,a,c,fOf (goR (Zpx (w.drop (i+1))) u (k+1) (w[i].drop (k+1)) t),x,y)/\ZII w l:=by
   intro h t g D;unfold Zqo;rw[ZiH (n:=(k:Int)+1) (by omega)];show ∃l,ZoN q n _ _ _ _ _ ((k:Int)+1) h v a c (fOf t) x y=_/\_;rw[show ((k:Int)+1)=((k+1:Nat):Int) by omega];exact N (k+1) n h t (by omega) (by omega) g D
  rw[p,goR];rw[ZoN,Ztk,show decide ((k:Int) < (w[i].length:Int))=true from decide_eq_true (by omega),cond_true,ZKy o,Z2x,ZKg f,ZOr E f];show ∃l,(bif ZJ9 u k then _ else _)=_/\_;cases hbit:ZJ9 u k with
  |true=>
   rw[cond_true,if_pos rfl];exact e m b A z
  |false=>
   rw[cond_false,if_neg (by simp),ZiH (n:=(i:Int)+1) (by omega),ZLT E f];show ∃l,((q (Zo4 w) ((i:Int)+1) ((255 - ZGI u k:Nat):Int) m).bind _)=_/\_;obtain⟨h,B,g⟩:=F (ZGI u k) m (ZIa E f) A;rw[show ((i:Int)+1)=((i+1:Nat):Int) by omega,B,Z2x];dsimp only;have I:Sz (s+((s+1)*(w.drop (i+1)).length+1)+1) (w[i][k]+Zpx (w.drop (i+1)) (ZGI u k)):=H.add (ZIF _ _ fun r J=>j.sz r (List.mem_of_mem_drop J));rw[ZJp H (ZE4 j (i+1) (ZGI u k)) (by have:=j.lim;omega),Z2x,ZIn (z.wq (by omega)) (I.wq (by omega)),Z2x]
   by_cases hlt:b < w[i][k]+Zpx (w.drop (i+1)) (ZGI u k)
   ·rw[decide_eq_true hlt,cond_true,if_pos hlt];exact e h _ g I
   ·rw[decide_eq_false hlt,cond_false,if_neg hlt];exact e h b g z
theorem ZOh {w:List (List Rat)} {s:Nat} (hw:WOk s w):∀(n i:Nat),i<=w.length->w.length - i < n->Z2h w (ZkT n) i:=by
 intro n
 induction n with
 |zero=>omega
 |succ n ih=>
  intro i hi hn u m hu hm;have h8:=hw.rows;have hlim:=hw.lim;rw[ZkT,ZzN];have hl:(Zo4 w).length=w.length:=by simp[Zo4]
  by_cases he:i=w.length
  ·rw[show ((i:Int) == ((Zo4 w).length:Int))=true by simp_all,cond_true,ZEa,Z2x,show w.drop i=[]from Z2k (by omega)];exact⟨m,rfl,hm⟩
  ·have hlt:i < w.length:=by omega
   rw[show ((i:Int) == ((Zo4 w).length:Int))=false by grind,cond_false]
   change ∃m',(bif (lkF m ⟨(i:Int),((255 - u:Nat):Int)⟩).isSome then some ((lkF m ⟨(i:Int),((255 - u:Nat):Int)⟩).getD _,m)else _)=_/\_
   cases hlk:lkF m ⟨(i:Int),((255 - u:Nat):Int)⟩with
   |some v=>
    rw[hm i u v hu hlk]
    simp_all
   |none=>
    have hrf:=ih (i+1) (by omega) (by omega);rw[show (none:Option ZbF).isSome=false from rfl,cond_false,ZiH (n:=(i:Int)+1) (by omega)];show ∃m',((ZkT n (Zo4 w) ((i:Int)+1) ((255 - u:Nat):Int) m).bind _)=_/\_;obtain⟨m1,h1,hm1⟩:=hrf u m hu hm;rw[show ((i:Int)+1)=((i+1:Nat):Int) by omega,h1,Z2x];dsimp only;rw[ZHn hlt,Z2x,Z2s];have hsz:=ZIF (s:=s) (w.drop (i+1)) u fun r hr=>hw.sz r (List.mem_of_mem_drop hr)
    obtain⟨m2,h2,hm2⟩:=ZP0 hw hlt hrf hu false false ⟨(i:Int),((255 - u:Nat):Int)⟩ [] [] w[i].length 0 big m1 (Zpx (w.drop (i+1)) u) (by omega) (by rw[big_eq];have:=hw.cols _ (Z2p hlt);omega) hm1 (hsz.mono (by omega));rw[show ((0:Int))=((0:Nat):Int)from rfl,h2,Z2x];dsimp only;unfold Zy4;have hd:Zpx (w.drop i) u=goR (Zpx (w.drop (i+1))) u 0 (w[i].drop 0) (Zpx (w.drop (i+1)) u):=by rw[List.drop_zero,ZSO hu (ZLp _ fun r hr=>hw.cols r (List.mem_of_mem_drop hr)) _ _ _ (by have:=hw.cols _ (Z2p hlt);omega) Rat.le_refl];grind[Z2j,Zpx]
    rw[<-hd];exact⟨_,rfl,hm2.set hu⟩
end Go.Proofs
namespace Go.Proofs
open Go Eng
theorem ZM7 {w:List (List Rat)} {s m:Nat} (b:ZQP s m w):Zwj (Zo4 w)=some 0:=by
 have o:=b.rows;have p:=ZIh w;have h:=b.lim;apply Zo1;unfold Zwj;rw[decide_eq_false (show ¬((Zo4 w).length:Int) > 8 by omega),cond_false,Zhr];refine Zjf (ZpP ZFe (Zo4 w) (by omega) (fun i (_:Unit)=>(Zo4 w,Zo4 w,((Zo4 w).length:Int),i)) (fun _ _=>True) (Q:=fun x=>x= .brk (Zo4 w)) () trivial ?_ ?_) ?_
 ·rintro c k _ a _ e;unfold ZwE ZsP;dsimp only;rw[decide_eq_true (show (k:Int) < ((Zo4 w).length:Int) by omega),cond_true,ZoT a,Z2x,ZFt a,Z2s];have:=b.cols _ (Z2p (by omega:k < w.length));rw[decide_eq_false (by omega),cond_false,ZhS];exact⟨ZiH (by omega),e () trivial⟩
 ·grind[ZwE,ZsP,Zfa]
 rintro _ rfl;dsimp only;unfold Zx4;rw[Zhr];refine Zjf (ZpP ZFd (Zo4 w) (by omega) (fun i (_:Unit)=>(Zo4 w,Zo4 w,((Zo4 w).length:Int),i)) (fun _ _=>True) (Q:=fun x=>x= .brk (Zo4 w)) () trivial ?_ ?_) ?_
 ·rintro c k _ a _ e;unfold ZwD ZsO;dsimp only;have g:0 < (Zo4 w).length:=by omega
  rw[decide_eq_true (show (k:Int) < ((Zo4 w).length:Int) by omega),cond_true,ZoT a,Z2x,show (0:Int)=((0:Nat):Int)from rfl,ZoT g,Z2x,ZFt a,ZFt g,Z2s,Z2s,
   b.len _ (Z2p _),b.len _ (Z2p _),show (((m:Nat):Int) != (m:Int))=false by simp,cond_false,ZhS]
  exact⟨ZiH (by omega),e () trivial⟩
 ·grind[ZwD,ZsO,Zfa]
 rintro _ rfl;dsimp only;unfold Zx3;rw[Zhr];refine Zjf (ZpP ZFc (Zo4 w) (by omega) (fun i (_:Unit)=>(Zo4 w,((Zo4 w).length:Int),i)) (fun _ _=>True) (Q:=fun x=>x= .brk ()) () trivial ?_ ?_) ?_
 ·rintro c k _ a _ e;unfold ZwC ZsN;dsimp only;have d:k < w.length:=by omega
  rw[decide_eq_true (show (k:Int) < ((Zo4 w).length:Int) by omega),cond_true,ZoT a,Z2x,ZFt a,Zhr];have n:=b.cols _ (Z2p d);refine Zjf (ZpP ZFb (w[k].map fOf) (by grind) (fun i (_:Unit)=>(Zo4 w,((Zo4 w).length:Int),(k:Int),w[k].map fOf,((w[k].map fOf).length:Int),i)) (fun _ _=>True)
   (Q:=fun x=>x= .brk (Zo4 w,((Zo4 w).length:Int),(k:Int))) () trivial ?_ ?_) ?_
  ·rintro c j _ l _ e;unfold ZwB ZsM;dsimp only;have f:j < w[k].length:=by simp_all
   rw[decide_eq_true (show (j:Int) < ((w[k].map fOf).length:Int) by omega),cond_true,ZoT l,Z2x,List.getElem_map,ZEa,Z2x,ZIn ((b.sz _ (Z2p d) _ (Z2p f)).wq (by omega)) (ZFx.wq (by decide)),Z2x,
    decide_eq_false (by have:=b.nn _ (Z2p d) _ (Z2p f);grind),cond_false,ZhS]
   exact⟨ZiH (by omega),e () trivial⟩
  ·grind[ZwB,ZsM,Zfa]
  rintro _ rfl;dsimp only;unfold Zx2;rw[ZhS];exact⟨ZiH (by omega),e () trivial⟩
 all_goals grind[ZwC,ZsN,Zfa,Zx1]
def ZTG (o:Option Rat) (b:Rat):Rat:=match o with
 |some y=>if b < y then y else b
 |none=>b
theorem ZRY (F:Nat->Rat) (u k:Nat) (x:Rat) (r:List Rat) (b:Rat):goW F u k (x::r) b=goW F u (k+1) r (ZTG (ZEP F u k x) b):=rfl
theorem ZSN {F:Nat->Rat} {u:Nat}:∀(r:List Rat) (k:Nat) (b:Rat),goW F u k r b=b\/ZGH F u (goW F u k r b) k r≠none
 | [],k,b=> .inl rfl
 |x::r,k,b=>by rw[ZRY,ZGH];have a:=ZSN (F:=F) (u:=u) r (k+1) (ZTG (ZEP F u k x) b);grind[ZEP,ZTG]
theorem ZTO (r:List Rat) (a:List (List Rat)) (u:Nat):
  Zpx a (ZJh (Zpx a) u (Zpx (r::a) u) r)=(match ZGH (Zpx a) u (Zpx (r::a) u) 0 r with |some k=>Zpx (r::a) u - (r[k]?).getD 0 |none=>Zpx (r::a) u):=by
 unfold ZJh;cases b:ZGH (Zpx a) u (Zpx (r::a) u) 0 r with
 |none=>
  grind[ZSN,Zpx]
 |some k=>
  obtain⟨_,_,x,d,c⟩:=ZKo _ _ _ b;have:=(ZMk c).2.2;grind
theorem ZOU {w:List (List Rat)} {s:Nat} (hw:WOk s w) {i:Nat} (hi:i < w.length) {u:Nat} (hu:u < 256) (t29:List (List ZbF)) (t30:Int) (t3 t3_1:Bool) (sum:ZbF) (out:List Int) (l1 l2:List Int) {b:Rat} (hb:Sz 7000 b):
  ∀(d k n:Nat) (m:ZK9),k+d=w[i].length->d < n->ZII w m->
   ∃m',ZoI n (Zo4 w) ((255 - u:Nat):Int) (i:Int) (w[i].map fOf) (-1) t29 t30 (i:Int) (w[i].map fOf) (w[i].length:Int) (k:Int) t3 t3_1 m sum (fOf b) out l1 l2=
    some (Zo4 w,((255 - u:Nat):Int),w[i].map fOf,(match ZGH (Zpx (w.drop (i+1))) u b k (w[i].drop k)with |some j=>(j:Int) |none=> -1),t29,t30,(i:Int),t3,t3_1,m',sum,fOf b,out,l1,l2)/\ZII w m':=by
 have h8:=hw.cols _ (Z2p hi);have hr8:=hw.rows;have hlim:=hw.lim;have hrf:Z2h w (ZkT big) (i+1):=ZOh hw big (i+1) (by omega) (by rw[big_eq];omega);intro d
 induction d with
 |zero=>
  intro k n m hk hn hm;obtain⟨n,rfl⟩:∃n',n=n'+1:=⟨n - 1,by omega⟩;refine⟨m, ?_,hm⟩;rw[ZoI,Zxg,show decide ((k:Int) < (w[i].length:Int))=false from decide_eq_false (by omega),cond_false,show w[i].drop k=[]from Z2k (by omega)];rfl
 |succ d ih=>
  intro k n m hk hn hm;obtain⟨n,rfl⟩:∃n',n=n'+1:=⟨n - 1,by omega⟩;have hkl:k < w[i].length:=by omega
  have hk8:k < 8:=by omega
  have hx:=hw.sz _ (Z2p hi) _ (Z2p hkl);have hdrop:w[i].drop k=w[i][k]::w[i].drop (k+1):=Z2j hkl;rw[ZoI,Zxg,show decide ((k:Int) < (w[i].length:Int))=true from decide_eq_true (by omega),cond_true,ZKy hkl,Z2x,ZKg hk8,ZOr hu hk8,hdrop,ZGH];have next:∀m1,ZII w m1->∃m',ZrU (ZoI n) (Zo4 w) ((255 - u:Nat):Int) (i:Int) (w[i].map fOf) (-1) t29 t30 (i:Int) (w[i].map fOf) (w[i].length:Int) (k:Int) t3 t3_1 m1 sum (fOf b) out l1 l2=
    some (Zo4 w,((255 - u:Nat):Int),w[i].map fOf,(match ZGH (Zpx (w.drop (i+1))) u b (k+1) (w[i].drop (k+1))with |some j=>(j:Int) |none=> -1),t29,t30,(i:Int),t3,t3_1,m',sum,fOf b,out,l1,l2)/\ZII w m':=by
   intro m1 hm1;unfold ZrU;rw[ZiH (n:=(k:Int)+1) (by omega)];show ∃m',ZoI n _ _ _ _ _ _ _ _ _ _ ((k:Int)+1) t3 t3_1 m1 sum (fOf b) out l1 l2=_/\_;rw[show ((k:Int)+1)=((k+1:Nat):Int) by omega];exact ih (k+1) n m1 (by omega) (by omega) hm1
  have none:ZEP (Zpx (w.drop (i+1))) u k w[i][k]=none->∃m',Zqp (ZoI n) (Zo4 w) ((255 - u:Nat):Int) (i:Int) (w[i].map fOf) (-1) (k:Int) t29 t30 (i:Int) (w[i].map fOf) (w[i].length:Int) (k:Int) true t3 t3_1 m sum (fOf b) out (fOf w[i][k]) l1 l2=
    some (Zo4 w,((255 - u:Nat):Int),w[i].map fOf,(match (if ZEP (Zpx (w.drop (i+1))) u k w[i][k]=some b then some k else ZGH (Zpx (w.drop (i+1))) u b (k+1) (w[i].drop (k+1)))with |some j=>(j:Int) |none=> -1),t29,t30,(i:Int),t3,t3_1,m',sum,fOf b,out,l1,l2)/\ZII w m':=by
   intro ht;unfold Zqp;rw[cond_true,ht,if_neg (by simp)];exact next m hm
  show ∃m',(bif ZJ9 u k then _ else _)=_/\_;cases hbit:ZJ9 u k with
  |true=>
   rw[cond_true];exact none (by unfold ZEP;rw[if_pos hbit])
  |false=>
   rw[cond_false,ZEa,Z2x,ZQy (hx.wq (by omega)) (ZFx.wq (by decide)),Z2x,ZLi]
   by_cases hz:w[i][k]=0
   ·rw[decide_eq_true hz];exact none (by unfold ZEP;rw[if_neg (by simp[hbit]),if_pos hz])
   ·have ht:ZEP (Zpx (w.drop (i+1))) u k w[i][k]=some (w[i][k]+Zpx (w.drop (i+1)) (ZGI u k)):=by unfold ZEP;rw[if_neg (by simp[hbit]),if_neg hz]
    rw[decide_eq_false hz];unfold Zqp;rw[cond_false,ZiH (n:=(i:Int)+1) (by omega),ZKg hk8,ZLT hu hk8];show ∃m',((ZkT big (Zo4 w) ((i:Int)+1) ((255 - ZGI u k:Nat):Int) m).bind _)=_/\_;obtain⟨m1,h1,hm1⟩:=hrf (ZGI u k) m (ZIa hu hk8) hm;rw[show ((i:Int)+1)=((i+1:Nat):Int) by omega,h1,Z2x];dsimp only;have hy:=(hx.add (ZE4 hw (i+1) (ZGI u k))).mono (show s+7000+1<=7700 by omega);rw[ZJp hx (ZE4 hw (i+1) (ZGI u k)) (by omega),Z2x,ZE7 _ _ (hy.wq (by omega)) (hb.wq (by omega)),Z2x,ht]
    by_cases he:w[i][k]+Zpx (w.drop (i+1)) (ZGI u k)=b
    ·rw[decide_eq_true he,cond_true,if_pos (by rw[he])];exact⟨m1,rfl,hm1⟩
    ·rw[decide_eq_false he,cond_false,if_neg (by simpa using he)];exact next m1 hm1
theorem ZOT {w:List (List Rat)} {s:Nat} (hw:WOk s w) (t3 t3_1:Bool) (sum:ZbF) (l1 l2:List Int):
  ∀(d i n u:Nat) (m:ZK9) (out:List Int),i+d=w.length->d < n->u < 256->ZII w m->out.length=i->
   ZoO n (Zo4 w) ((255 - u:Nat):Int) (Zo4 w) (w.length:Int) (i:Int) t3 t3_1 m sum (fOf (Zpx (w.drop i) u)) out l1 l2=some (t3,t3_1,sum,out++ZH3 (w.drop i) u,l1,l2):=by
 have hr8:=hw.rows;have hlim:=hw.lim;intro d
 induction d with
 |zero=>
  intro i n u m out hi hn hu hm ho;obtain⟨n,rfl⟩:∃n',n=n'+1:=⟨n - 1,by omega⟩;rw[ZoO,Zxh,show decide ((i:Int) < (w.length:Int))=false from decide_eq_false (by omega),cond_false,show w.drop i=[]from Z2k (by omega),ZH3,List.append_nil]
 |succ d ih=>
  intro i n u m out hi hn hu hm ho;obtain⟨n,rfl⟩:∃n',n=n'+1:=⟨n - 1,by omega⟩;have hil:i < w.length:=by omega
  have h8:=hw.cols _ (Z2p hil);obtain⟨m2,h2,hm2⟩:=ZOU hw hil hu (Zo4 w) (w.length:Int) t3 t3_1 sum out l1 l2 (ZE4 hw i u) w[i].length 0 big m (by omega) (by rw[big_eq];omega) hm;rw[ZoO,Zxh,show decide ((i:Int) < (w.length:Int))=true from decide_eq_true (by omega),cond_true,ZHn hil,Z2x,Z2s,show (0:Int)=((0:Nat):Int)from rfl,h2,Z2x,List.drop_zero];dsimp only;have hd:w.drop i=w[i]::w.drop (i+1):=Z2j hil;have hre:=ZTO w[i] (w.drop (i+1)) u;rw[hd,ZJO];rw[hd]at h2;unfold Zy5;have j4:∀(t:Int) (v:Nat),t=ZMl (Zpx (w.drop (i+1))) u (Zpx (w[i]::w.drop (i+1)) u) w[i]->v=ZJh (Zpx (w.drop (i+1))) u (Zpx (w[i]::w.drop (i+1)) u) w[i]->v < 256->
    ZrT (ZoO n) (Zo4 w) ((255 - v:Nat):Int) t (Zo4 w) (w.length:Int) (i:Int) t3 t3_1 m2 sum (fOf (Zpx (w.drop (i+1)) v)) out l1 l2=
     some (t3,t3_1,sum,out++(ZMl (Zpx (w.drop (i+1))) u (Zpx (w[i]::w.drop (i+1)) u) w[i]::ZH3 (w.drop (i+1)) (ZJh (Zpx (w.drop (i+1))) u (Zpx (w[i]::w.drop (i+1)) u) w[i])),l1,l2):=by
   intro t v ht hv hv2;unfold ZrT;rw[ZpO (by simp;omega),ZiH (n:=(i:Int)+1) (by omega)];show ZoO n (Zo4 w) _ (Zo4 w) (w.length:Int) ((i:Int)+1) t3 t3_1 m2 sum _ _ l1 l2=_;rw[show ((i:Int)+1)=((i+1:Nat):Int) by omega,ih (i+1) n v m2 (out++[t]) (by omega) (by omega) hv2 hm2 (by simp[ho]),List.append_assoc,ht,hv];rfl
  cases hf:ZGH (Zpx (w.drop (i+1))) u (Zpx (w[i]::w.drop (i+1)) u) 0 w[i]with
  |none=>
   rw[hf]at hre;dsimp only at hre|-
   have hnu:ZJh (Zpx (w.drop (i+1))) u (Zpx (w[i]::w.drop (i+1)) u) w[i]=u:=by unfold ZJh;rw[hf]
   rw[hnu]at hre;rw[decide_eq_false (show ¬(-1:Int)>=0 by decide),cond_false,show fOf (Zpx (w[i]::w.drop (i+1)) u)=fOf (Zpx (w.drop (i+1)) u)from congrArg fOf hre.symm];exact j4 (-1) u (by unfold ZMl;rw[hf]) hnu.symm hu
  |some k=>
   obtain⟨_,h3,x,h4,h5⟩:=ZKo _ _ _ hf;rw[hf]at hre;dsimp only at hre|-
   have hk8:k < 8:=by omega
   have hkl:k < w[i].length:=by omega
   have hnu:ZJh (Zpx (w.drop (i+1))) u (Zpx (w[i]::w.drop (i+1)) u) w[i]=ZGI u k:=by unfold ZJh;rw[hf]
   have hx:=hw.sz _ (Z2p hil) _ (Z2p hkl);rw[hnu,Z2o hkl,Option.getD_some]at hre;rw[decide_eq_true (show (k:Int)>=0 by omega),cond_true,ZKg hk8,ZKy hkl,ZLT hu hk8];have hs7:=ZE4 hw i u;rw[hd]at hs7;show ((ZpX (fOf (Zpx (w[i]::w.drop (i+1)) u)) (fOf w[i][k])).bind _)=_;rw[ZKj hs7 hx (by omega),Z2x,<-hre];exact j4 (k:Int) (ZGI u k) (by unfold ZMl;rw[hf]) hnu.symm (ZIa hu hk8)
theorem ZOR {w:List (List Rat)} {s m:Nat} (hw:ZQP s m w):Zxi (Zo4 w)=some (ZH3 w 0,fOf (Zpx w 0),0):=by have hr8:=hw.rows;unfold Zxi;rw[ZM7 hw,Z2x,show ((0:Int) != 0)=false from rfl,cond_false];obtain⟨m1,h1,hm1⟩:=ZOh hw.toWOk big 0 (by omega) (by grind[big_eq]) 0 [] (by omega) (ZQl w);rw[ZIh,show (255:Int)=((255 - 0:Nat):Int)from rfl,show (0:Int)=((0:Nat):Int)from rfl,h1,Z2x];dsimp only;rw[ZOT hw.toWOk false false _ [] [] w.length 0 big 0 m1 [] (by omega) (by grind[big_eq]) (by omega) hm1 rfl,Z2x];rfl
end Go.Proofs
namespace Go.Proofs
open Go Eng
structure ZKX (t:G_api_Table):Prop where
 name:t.Name.length<=9223372036854775807
 cols:t.Columns.length<=10
 col:∀c∈t.Columns,ZJu c
theorem ZKX.texts {t:G_api_Table} (h:ZKX t):ZIv t:=⟨h.name,fun c a=>⟨by have:=(h.col c a).name;omega,(h.col c a).cells⟩⟩
theorem ZKX.valid {t:G_api_Table} (h:ZKX t):ZrL t=some (ZB0 t):=ZKi t (by have:=h.cols;omega) (fun c a=>by have:=(h.col c a).rows;omega)
theorem ZKX.rvalid {t:G_api_Table} (h:ZKX t):ZlB t=some (ZB0 t):=ZMn t h.texts (by have:=h.cols;omega)
def upL (l:List G_api_Table) (n:Nat):Prop:=∀i (h:i < l.length),0 < i->i < n->l[i - 1].ID < l[i].ID
def ZXX (l:List G_api_Table):Prop:=upL l l.length/\∀t∈l,ZB0 t=true
structure ZJt (l:List G_api_Table):Prop where
 len:l.length<=10
 tab:∀t∈l,ZKX t
theorem ZR2 {l:List G_api_Table} (a:ZJt l):ZxA l=some (l.all ZB0):=by
 have g:=a.len;refine Zo1 ?_;unfold ZxA;rw[Zhr];refine Zjf (ZpP ZFI l (by omega) (fun i (_:Unit)=>(l,(l.length:Int),i)) (fun i _=>(l.take i).all ZB0=true) (Q:=fun x=>(x= .brk ()/\l.all ZB0=true)\/(x= .ret false/\l.all ZB0=false)) () (by simp) ?_ ?_) ?_
 ·rintro d k _ b h f;have e:l[k]∈l:=Z2p b;have c:=a.tab _ e;unfold Zxz Zty;dsimp only;rw[decide_eq_true (show (k:Int) < (l.length:Int) by omega),cond_true,ZoT b,Z2x,c.valid,Z2x];cases hv:ZB0 l[k]with
  |true=>
   rw[ZW1,cond_false,ZhS];exact⟨ZiH (by omega),f () (by grind[Z2w])⟩
  |false=>
   grind[Zfa]
 all_goals grind[Zxz,Zty,Zfa,Zzh]
theorem ZTW {l:List G_api_Table} (d:ZJt l):wp (ZAJ l) (fun r=>r=true<->ZXX l):=by
 have m:=d.len;unfold ZAJ;rw[Zhr]
 suffices hv:wp (ZDc l) (fun r=>r=true<->ZXX l)from Zjf hv fun r h=>by grind[Zfa]
 unfold ZDc;rw[Zhr];refine Zjf (ZuN ZHH (fun i:Nat=>(l,(i:Int))) (fun i=>1<=i/\upL l i) (fun i=>l.length+1 - i) (Q:=fun x=>(x= .brk l/\upL l l.length)\/(x= .ret false/\¬upL l l.length)) 1 ⟨Nat.le_refl _,fun i _ k a=>by omega⟩ (by omega) ?_) ?_
 ·rintro f i ⟨n,e⟩ g;unfold ZEN ZBS;dsimp only
  by_cases hc:i < l.length
  ·rw[decide_eq_true (show (i:Int) < (l.length:Int) by omega),cond_true,ZhS,show (i:Int) - 1=((i - 1:Nat):Int) by omega,ZoT (show i - 1 < l.length by omega),Z2x,ZoT hc,Z2x];refine⟨ZiH (by omega), ?_⟩
   by_cases hg:l[i - 1].ID>=l[i].ID
   ·rw[decide_eq_true hg,cond_true,Zfa];exact .inr ⟨rfl,fun h=>by have:=h i hc (by omega) hc;omega⟩
   ·rw[decide_eq_false hg,cond_false,ZhS];refine⟨ZiH (by omega),g (i+1) ⟨by omega,fun j b c k=> ?_⟩ (by omega)⟩
    by_cases hji:j=i
    ·simp_all
    ·exact e j b c (by omega)
  ·rw[decide_eq_false (show ¬(i:Int) < (l.length:Int) by omega),cond_false,Zfa];exact .inl ⟨rfl,fun j b c _=>e j b c (by omega)⟩
 ·rintro x (⟨rfl,h⟩ |⟨rfl,h⟩)
  ·dsimp only;unfold ZDv ZAl;rw[decide_eq_true (show (l.length:Int)<=1024 by omega),cond_true,ZR2 d,Z2x,Zfa];rw[List.all_eq_true];exact⟨fun a=>⟨h,a⟩,fun a=>a.2⟩
  ·dsimp only;rw[Zfa];exact⟨fun a=>by simp_all,fun a=>absurd a.1 h⟩
theorem ZRB {l:List G_api_Table} (f:ZJt l):wp (Zq0 l) (fun r=>r=true<->ZXX l):=by
 have s:=f.len;unfold Zq0;rw[Zhr];refine Zjf (ZpP ZD9 l (by omega) (fun i (_:Unit)=>(l,l,(l.length:Int),i)) (fun i _=>upL l i/\∀t∈l.take i,ZB0 t=true) (Q:=fun x=>(x= .brk l/\ZXX l)\/(x= .ret false/\¬ZXX l)) () ⟨fun i _ _ h=>by omega,fun t h=>by grind⟩ ?_ ?_) ?_
 ·rintro c k _ b ⟨d,e⟩ n;have g:l[k]∈l:=Z2p b;have p:=f.tab _ g;unfold ZtR ZqZ Zp8;dsimp only;rw[decide_eq_true (show (k:Int) < (l.length:Int) by omega),cond_true,ZoT b,Z2x,p.rvalid,Z2x];cases hv:ZB0 l[k]with
  |false=>
   rw[Bool.not_false,cond_true,cond_true,Zfa];exact .inr ⟨rfl,fun h=>by have:=h.2 _ g;simp_all⟩
  |true=>
   have a:∀t∈l.take (k+1),ZB0 t=true:=fun t u=>by grind[Z2w]
   rw[ZW1,cond_false]
   by_cases h0:0 < k
   ·rw[decide_eq_true (show (k:Int) > 0 by omega),cond_true,ZhS];refine⟨ZiH (by omega), ?_⟩;rw[show (k:Int) - 1=((k - 1:Nat):Int) by omega,ZoT (show k - 1 < l.length by omega),Z2x]
    by_cases hg:l[k - 1].ID>=l[k].ID
    ·rw[decide_eq_true hg,cond_true,Zfa];exact .inr ⟨rfl,fun h=>by have:=h.1 k b h0 b;omega⟩
    ·rw[decide_eq_false hg,cond_false,ZhS];refine⟨ZiH (by omega),n () ⟨fun j m o q=> ?_,a⟩⟩
     by_cases hji:j=k
     ·simp_all
     ·exact d j m o (by omega)
   ·rw[decide_eq_false (show ¬(k:Int) > 0 by omega),cond_false,cond_false,ZhS];exact⟨ZiH (by omega),n () ⟨fun j m o q=>by omega,a⟩⟩
 ·rintro c _ ⟨d,e⟩;unfold ZtR ZqZ;dsimp only;rw[decide_eq_false (show ¬(l.length:Int) < (l.length:Int) by omega),cond_false,Zfa];rw[List.take_length]at e;exact .inl ⟨rfl,d,e⟩
 grind[Zvf,Zfa]
end Go.Proofs
namespace Go.Proofs
open Go Eng
theorem ZKX.C {t:G_api_Table} (h:ZKX t) (b:ZB0 t=true) (a:t.Columns.length<=8):ZJs t:=⟨b,a,h.col⟩
noncomputable def ZKJ (q t:G_api_Table):ZkC:=⟨t.ID,ZH3 (ZM2 q t) 0,fOf (ZGl q t)⟩
noncomputable def ZHO (q:G_api_Table) (l:List G_api_Table):List ZkC:=(l.filter fun t=>decide (t.Columns.length<=8/\0 < ZGl q t)).map (ZKJ q)
theorem ZKO (q:G_api_Table) (l:List G_api_Table):(ZHO q l).length<=l.length:=by grind[ZHO]
theorem ZLo (q:G_api_Table) (l:List G_api_Table) (t:G_api_Table):ZHO q (l++[t])=ZHO q l++(if t.Columns.length<=8/\0 < ZGl q t then [ZKJ q t]else []):=by grind[ZHO]
theorem ZNB {q t:G_api_Table} (a:ZJs q) (b:ZKX t) (c:ZB0 t=true) (e:¬t.Columns.length<=8):∃s,Zqr q t=some ([],s,3):=by have d:=a.cols;refine⟨⟨⟨false,[]⟩,⟨false,[]⟩⟩, ?_⟩;unfold Zqr ZuU;rw[ZIC a,Z2x,ZW1,cond_false,b.valid,c,Z2x,ZW1,cond_false,decide_eq_false (by omega),cond_false,decide_eq_true (by omega)];rfl
theorem ZWF {l:List G_api_Table} {q:G_api_Table} {k:Int} (y:ZJt l) (F:ZAJ l=some true) (A:∀t∈l,ZB0 t=true) (g:ZJs q) (H:0<=k/\k<=1024):
  Zs6 l q k=Zw0 k (ZHO q l):=by
 have B:=g.cols;have D:=y.len;have p:Zr5 big k l (l.length:Int) 0 q []=some (k,ZHO q l):=by
  apply Zo1;refine ZpP ZHF l (by omega) (fun i (o:List ZkC)=>(k,l,(l.length:Int),i,q,o)) (fun j o=>o=ZHO q (l.take j)) [] rfl ?_ ?_
  ·rintro d j o m rfl E;unfold ZBI ZyC;dsimp only;have z:=Z2p m;have f:=A _ z;have C:=y.tab _ z;have b:=ZKO q (l.take j);rw[Z2t]at b;have c:=ZLo q (l.take j) l[j];rw[<-Z2w m]at c;have G:¬(l[j].Columns.length<=8/\0 < ZGl q l[j])->∀a s,wp (Zuo (fun k v e r q u=>d (k,v,e,r,q,u)) k l (l.length:Int) (j:Int) false q (ZHO q (l.take j)) l[j] a s) (fun x=>x=(k,ZHO q l)):=by grind[Zuo,Zw1,ZhS,ZiH]
   rw[decide_eq_true (show (j:Int) < (l.length:Int) by omega),cond_true,ZoT m,Z2x]
   by_cases h8:l[j].Columns.length<=8
   ·have w:=C.C f h8;have n:=ZLI g w;rw[ZOz g w,Z2x];dsimp only;rw[show ((0:Int) == 0)=true from rfl,cond_true];unfold ZFJ;rw[ZJA (n.wq (by omega)),Z2x,Z2x,ZLj]
    by_cases h:0 < ZGl q l[j]
    ·rw[decide_eq_true h];unfold Zuo Zw1;rw[cond_true,ZhS,ZhS];refine⟨ZpO (by grind),ZiH (by omega),E _ ?_⟩;rw[c,if_pos ⟨h8,h⟩];rfl
    simp_all
   grind[ZNB]
  grind[ZBI,ZyC,Zfa]
 grind[Zs6,Zr6,ZIC,Zw2]
end Go.Proofs
namespace Go.Proofs
open Go Eng
theorem ZR1 {a b:Rat} (d:Sz 7100 a) (c:Sz 7100 b) (h:fOf a=fOf b):a=b:=by have e:=ZE7 a b (d.wq (by omega)) (c.wq (by omega));have f:=ZE7 b b (c.wq (by omega)) (c.wq (by omega));simp_all
def ZMY (m:ZkC):Prop:=∃q:Rat,Sz 7100 q/\m.Score=fOf q
noncomputable def sq (m:ZkC):Rat:=open Classical in if h:ZMY m then h.choose else 0
theorem ZJz {m:ZkC} (h:ZMY m):Sz 7100 (sq m)/\m.Score=fOf (sq m):=by grind[sq]
theorem Z0g {m:ZkC} {q:Rat} (a:Sz 7100 q) (h:m.Score=fOf q):sq m=q:=by have:=ZJz ⟨q,a,h⟩;grind[ZR1]
def ZRU (x y:Int):Int:=if x < y then -1 else if x > y then 1 else 0
theorem ZPd (x y:Int):Zvn x y=some (ZRU x y):=by
 grind[ZC4,Zvn,ZRU]
theorem ZW5 (a b:Int):ZGL [a,b]=some (if a≠0 then a else b):=by
 unfold ZGL;obtain⟨n,e⟩:=ZLZ 3 (by omega);rw[e];have f:∀z:Int,z=1\/z=2->inK .i64 z=true:=fun z d=>by rcases d with rfl |rfl<;>rfl
 by_cases c:a≠0
 ·rw[if_pos c];show ((ZAO (ZC5 (n+2)) 0 [a,b] 2 0).bind _)=_;unfold ZAO;show (((bif (a != 0)then (some (Out.ret a):Option (Out Int Int))else _)).bind _)=_;grind
 ·have c:a=0:=by omega
  subst c;rw[if_neg (by simp)];show ((ZAO (ZC5 (n+1)) 0 [0,b] 2 1).bind _)=_;unfold ZAO;show (((bif (b != 0)then (some (Out.ret b):Option (Out Int Int))else _)).bind _)=_
  by_cases hb:b=0
  ·subst hb;rfl
  grind
noncomputable def cM (x y:ZkC):Int:=if ZK5 (sq y) (sq x)≠0 then ZK5 (sq y) (sq x)else ZRU x.Table y.Table
noncomputable def ltM (x y:ZkC):Bool:=decide (cM x y < 0)
theorem ZNy {x y:ZkC} (e:ZMY x) (f:ZMY y):Zzp x y=some (cM x y):=by obtain⟨d,b⟩:=ZJz e;obtain⟨c,a⟩:=ZJz f;unfold Zzp ZG4;rw[b,a,ZOw (c.wq (by omega)) (d.wq (by omega)),Z2x,Z2x,ZPd,Z2x,ZW5,Z2x];rfl
theorem ZO7 (b c:Int) {A0 C0:List ZkC} {x:ZkC} (a:(A0++x::C0).length<=1000) (r:∀e∈A0,ZMY e) (B:ZMY x):
  wp (ZoJ big 0 b c (A0.length:Int) (A0++x::C0)) (fun y=>y=(0,b,c,ZNp ltM x A0++C0)):=by
 refine ZuN ZAG (fun(s:List ZkC×List ZkC)=>((0:Int),b,c,(s.1.length:Int),s.1++x::s.2)) (fun s=>ZNp ltM x s.1++s.2=ZNp ltM x A0++C0/\(s.1++x::s.2).length<=1000/\∀e∈s.1,ZMY e) (fun s=>s.1.length)
  (Q:=fun y=>y=(0,b,c,ZNp ltM x A0++C0)) (A0,C0) ⟨rfl,a,r⟩ (by grind) ?_
 rintro m ⟨A,C⟩ ⟨i,k,d⟩ l;dsimp only at i k d l|-
 unfold ZtB Zqk Zpv;dsimp only;rcases List.eq_nil_or_concat A with rfl |⟨A,p,rfl⟩
 ·grind[Zfa,ZRV]
 ·rw[List.concat_eq_append]at*
  simp only[List.length_append,List.length_cons,List.length_nil]at k;have q:(A++[p])++x::C=A++p::x::C:=by simp
  have n:(((A++[p]).length:Nat):Int)=((A.length+1:Nat):Int):=by simp_all
  have t:(((A++[p]).length:Nat):Int) - 1=(A.length:Int):=by omega
  have u:(A++p::x::C)[A.length+1]? =some x:=by simp_all
  have D:(A++p::x::C)[A.length]? =some p:=by simp_all
  rw[ZoH];refine⟨fun _=> ?_,fun h=>by simp_all⟩;rw[t,n,q];simp only[Int.toNat_natCast,u,D,Option.bind_some];have E:(A++p::x::C).length=A.length+2+C.length:=by grind
  have z:inR ((A.length+1:Nat):Int) ((A++p::x::C).length:Int)=true:=Zr4 ⟨by omega,by omega⟩;have v:inR (A.length:Int) ((A++p::x::C).length:Int)=true:=Zr4 ⟨by omega,by omega⟩;have g:inR (A.length:Int) (((A++p::x::C).set (A.length+1) p).length:Int)=true:=by simp_all
  have o:inK .i64 (A.length:Int)=true:=ZiH (by omega);rw[z,v,g,o];simp only[chk_true];rw[ZNy B (d p (by simp)),Zhr,Zfa];rw[ZKL]at i;have f:ltM x p=decide (cM x p < 0):=rfl;rw[ZoH];refine⟨fun j=> ?_,fun j=> ?_⟩
  ·rw[f,if_pos j]at i;rw[ZPR];exact l (A,p::C) ⟨by simp_all,by simp only[List.length_append,List.length_cons];omega,fun e w=>d e (List.mem_append_left _ w)⟩ (by simp)
  grind[Zfa]
theorem ZUq (M:List ZkC) (g:M.length<=1000) (h:∀e∈M,ZMY e):Zpa M 0 (M.length:Int)=some (ZGD ltM M):=by
 have i:ZpG M 0 (M.length:Int)=some (ZGD ltM M):=by
  refine Zo1 ?_;unfold ZpG ZqE;rw[ZhS,Zhr];refine⟨rfl, ?_⟩;have c:∀(k f:Nat),k+1<=M.length->M.length - (k+1) < f->wp (Zo3 f 0 (M.length:Int) ((k+1:Nat):Int) (ZGD ltM (M.take (k+1))++M.drop (k+1))) (fun y=>y=ZGD ltM M):=by
   intro k f
   induction f generalizing k with
   |zero=>omega
   |succ f o=>
    intro m p;show wp (ZoW _ _ _ _ _) _;unfold ZoW ZqF;rw[ZoH];refine⟨fun d=> ?_,fun d=> ?_⟩
    ·simp only[decide_eq_true_eq]at d;have b:k+1 < M.length:=by omega
     have a:(ZGD ltM (M.take (k+1))).length=k+1:=by rw[ZEz,List.length_take];omega
     have e:M.drop (k+1)=M[k+1]::M.drop (k+2):=List.drop_eq_getElem_cons b;rw[e];have:=ZO7 (M.length:Int) ((k+1:Nat):Int) (A0:=ZGD ltM (M.take (k+1))) (C0:=M.drop (k+2)) (x:=M[k+1]) (by simp only[List.length_append,List.length_cons,a,List.length_drop];omega) (fun e j=>h e (List.mem_of_mem_take ((ZHq _).mem_iff.1 j))) (h _ (List.getElem_mem b));rw[a]at this;rw[Zhr];refine Zjf this ?_;rintro y rfl;dsimp only;grind[ZhS,ZiH,List.take_succ_eq_append_getElem,ZLn]
    grind[Zfa]
  by_cases h0:M.length=0
  ·have:M=[]:=List.eq_nil_of_length_eq_zero h0;subst this;obtain⟨n,l⟩:=ZLZ 1 (by omega);rw[l];show wp (ZoW _ _ _ _ _) _;unfold ZoW;rw[List.length_nil,decide_eq_false (by omega),cond_false,Zfa,Zfa];rfl
  ·have:=c 0 big (by omega) (by rw[big_eq];omega);have e:ZGD ltM (M.take (0+1))++M.drop (0+1)=M:=by
    cases M with
    |nil=>simp at h0
    |cons x M=>rfl
   rw[e]at this;refine Zjf this ?_;rintro y rfl;rw[Zfa]
 simp_all[Zpa,ZEz]
theorem ZO3:((List.range 13).all fun n:Nat=>(ZGr (IntKind.wrap .u64 (n:Int))).isSome)=true:=by kernel_rfl
theorem ZRx (M:List ZkC) (c:M.length<=12) (f:∀e∈M,ZMY e):ZpH M=some (ZGD ltM M):=by
 have b:=List.all_eq_true.1 ZO3 M.length (by grind);obtain⟨a,g⟩:=Option.isSome_iff_exists.1 b;have h:Zqt M 0 (M.length:Int) a=some (ZGD ltM M):=by unfold Zqt Zuc;obtain⟨n,d⟩:=ZLZ 1 (by omega);rw[d];show ((((ZrM _ 0 (M.length:Int) a true true M)).bind _).bind _)=_;unfold ZrM;rw[ZiH (n:=(M.length:Int) - 0) (by omega),decide_eq_true (show (M.length:Int) - 0<=12 by omega)];show (((((Zpa M 0 (M.length:Int)).bind _)).bind _).bind _)=_;rw[ZUq M (by omega) f];grind[chk,ZEz]
 grind[ZpH,Zr7,chk,ZEz]
theorem ZTz (M:List ZkC) (a:M.length<=12) (b:∀e∈M,ZMY e) {k:Int} (d:0<=k/\k<=1024):Zw0 k M=some ((ZGD ltM M).take k.toNat,0):=by
 have c:ZvU M k=some (0,((if (M.length:Int) < k then (M.length:Int)else k)).toNat,ZGD ltM M):=by unfold ZvU ZA6;rw[ZRx M a b,Z2x,ZEz,Zpc (by omega)];grind[chk,ZEz]
 grind[Zw0,List.take_of_length_le,ZEz]
end Go.Proofs
namespace Go.Proofs
open Go Eng
theorem ZIT {q t:G_api_Table} (a:ZJs q) (b:ZJs t):ZMY (ZKJ q t)/\sq (ZKJ q t)=ZGl q t:=by have h:Sz 7100 (ZGl q t):=(ZLI a b).mono (by omega);exact⟨⟨_,h,rfl⟩,Z0g h rfl⟩
theorem ZMF {q:G_api_Table} {l:List G_api_Table} {m:ZkC} (h:m∈ZHO q l):∃t∈l,t.Columns.length<=8/\m=ZKJ q t:=by obtain⟨t,a,rfl⟩:=Z2u.1 h;grind
theorem ZHD {a:G_api_Table} (c:ZJs a) (b:ZKX a):ZlB a=some true:=by rw[b.rvalid,c.ok]
theorem ZP1 {a b:G_api_Table} (d:ZJs a) (e:ZJs b) (o:ZKX a) (v:ZKX b):Zq6 a b=some (ZH3 (ZM2 a b) 0,fOf (ZGl a b),0):=by
 have s:=d.cols;have q:=e.cols;apply Zo1;unfold Zq6;rw[ZHD d o,Z2x,ZW1,cond_false,ZHD e v,Z2x,ZW1];unfold Zrh;rw[cond_false,decide_eq_false (by omega),cond_false,decide_eq_false (by omega)];unfold ZtI;rw[cond_false,Zhr];refine Zjf (ZpP ZFa a.Columns (by omega) (fun i (w:List (List ZbF))=>(a.Columns,(a.Columns.length:Int),i,a,b,false,false,w,([]:List Int),([]:List Int))) (fun k w=>w=Zo4 ((a.Columns.take k).map fun x=>ZPy b x))
  (Q:=fun x=>x=(a,b,false,false,Zo4 (ZM2 a b),([]:List Int),([]:List Int))) [] rfl ?_ ?_) ?_
 ·rintro c k w h rfl p;unfold ZwA ZsL;dsimp only;rw[decide_eq_true (show (k:Int) < (a.Columns.length:Int) by omega),cond_true,ZoT h,Z2x,Zhr];have t:=d.col _ (Z2p h);refine Zjf (ZpP ZE9 b.Columns (by omega) (fun j (r:List ZbF)=>(a.Columns,(a.Columns.length:Int),(k:Int),b.Columns,(b.Columns.length:Int),j,a,b,false,false,Zo4 ((a.Columns.take k).map fun x=>ZPy b x),a.Columns[k],r,([]:List Int),([]:List Int)))
   (fun j r=>r=((b.Columns.take j).map fun y=>ZJN a.Columns[k] y).map fOf)
   (Q:=fun x=>x=(a.Columns,(a.Columns.length:Int),(k:Int),a,b,false,false,Zo4 ((a.Columns.take k).map fun x=>ZPy b x),(ZPy b a.Columns[k]).map fOf,([]:List Int),([]:List Int))) [] rfl ?_ ?_) ?_
  ·rintro c j r g rfl p;unfold Zwz ZsK;dsimp only;rw[decide_eq_true (show (j:Int) < (b.Columns.length:Int) by omega),cond_true,ZoT g,Z2x,ZPZ t (e.col _ (Z2p g)),Z2x,ZhS,ZhS];grind[ZpO,ZiH,Z2w]
  ·rintro c r rfl;unfold Zwz ZsK;dsimp only;rw[decide_eq_false (show ¬(b.Columns.length:Int) < (b.Columns.length:Int) by omega),cond_false,Zfa,List.take_length];rfl
  grind[Zx0,ZhS,ZpO,Zo4,ZiH,Z2w]
 ·rintro c w rfl;unfold ZwA ZsL;dsimp only;rw[decide_eq_false (show ¬(a.Columns.length:Int) < (a.Columns.length:Int) by omega),cond_false,Zfa,List.take_length];rfl
 rintro _ rfl;dsimp only;unfold ZxZ;have l:=ZH9 d.cols e.cols;rw[ZOR (ZNn d e),Z2x];dsimp only
 by_cases h0:(if (b.Columns.length:Int) > (a.Columns.length:Int)then (b.Columns.length:Int)else (a.Columns.length:Int))=0
 ·have m:a.Columns=[]:=Z2l (by omega);rw[h0,beq_self_eq_true,cond_true,ZEa,Z2x,Zfa];have n:ZM2 a b=[]:=by grind[ZM2]
  unfold ZGl;rw[n];show _=([],fOf (0 / _),_);grind
 ·have u:ZJB a b=(if (b.Columns.length:Int) > (a.Columns.length:Int)then (b.Columns.length:Int)else (a.Columns.length:Int)):=by grind[ZJB]
  have f:((ZJB a b:Int):Rat)≠0:=by
   simp_all
  rw[beq_eq_false_iff_ne.2 h0,cond_false,<-u,ZJi _ (by omega) (by omega),Z2x,ZOu f (ZKr d e) (ZNc ⟨l.1,l.2.1⟩) (by omega),Z2x,Zfa];rfl
theorem ZMt {q t:G_api_Table} (a:ZJs q) (b:ZKX q) (c:ZKX t) (d:ZB0 t=true) (f:¬t.Columns.length<=8):∃s,Zq6 q t=some ([],s,3):=by have e:=a.cols;refine⟨⟨⟨false,[]⟩,⟨false,[]⟩⟩, ?_⟩;unfold Zq6 Zrh;rw[ZHD a b,Z2x,ZW1,cond_false,c.rvalid,d,Z2x,ZW1,cond_false,decide_eq_false (by omega),cond_false,decide_eq_true (by omega)];rfl
theorem ZUp {a:Type} {lt:a->a->Bool} (x:a) (A1:List a) (e:∀B p,A1=B++[p]->lt x p=false):∀(n:Nat) (A2:List a),A2.length=n->(∀y∈A2,lt x y=true)->ZNp lt x (A1++A2)=A1++x::A2:=by
 intro n
 induction n with
 |zero=>
  intro A2 b _;obtain rfl:=Z2l b;rw[List.append_nil];rcases Z2m A1 with rfl |⟨B,p,rfl⟩
  ·rfl
  grind[ZKL]
 |succ n d=>
  intro A2 b c;rcases Z2m A2 with rfl |⟨C,y,rfl⟩
  ·grind
  ·rw[List.concat_eq_append]at*
   grind[ZKL]
theorem ZTV {L:List ZkC} {h:ZkC} (r:∀m∈L,ZMY m) (o:ZMY h) (E:L.length<=1000):ZyJ L h=some (ZNp ltM h L):=by
 obtain⟨k,w⟩:=ZJz o;refine Zo1 ?_;unfold ZyJ;rw[Zhr];refine Zjf (ZuN ZF1 (fun i:Nat=>(L,(i:Int),h)) (fun i=>i<=L.length/\∀j (c:j < L.length),i<=j->ltM h L[j]=true) (fun i=>i)
  (Q:=fun x=>∃i:Nat,x=(L,(i:Int),h)/\i<=L.length/\(∀j (c:j < L.length),i<=j->ltM h L[j]=true)/\∀c:i - 1 < L.length,0 < i->ltM h L[i - 1]=false) L.length ⟨Nat.le_refl _,fun j h C=>by omega⟩ (by omega) ?_) ?_
 ·rintro d i ⟨s,q⟩ F;unfold ZCx ZxY;dsimp only
  by_cases hi:0 < i
  ·have g:i - 1 < L.length:=by omega
   obtain⟨a,n⟩:=ZJz (r _ (Z2p g));have f:idx L ((i:Int) - 1)=some L[i - 1]:=by grind[ZoT]
   have H:∀b,ltM h L[i - 1]=b->wp (Zpp (fun l i z=>d (l,i,z)) L (i:Int) b h) (fun x=>∃i:Nat,x=(L,(i:Int),h)/\i<=L.length/\(∀j (c:j < L.length),i<=j->ltM h L[j]=true)/\∀c:i - 1 < L.length,0 < i->ltM h L[i - 1]=false):=by grind[Zpp,ZhS,ZiH,Zfa]
   have u:ltM h L[i - 1]=if sq L[i - 1] < sq h then true else if sq L[i - 1]=sq h then decide (h.Table < L[i - 1].Table)else false:=by unfold ltM cM ZK5 ZRU;grind
   rw[decide_eq_true (show (i:Int) > 0 by omega),cond_true,ZhS];refine⟨ZiH (by omega), ?_⟩;rw[f,Z2x,n,w,ZIn (a.wq (by omega)) (k.wq (by omega)),Z2x]
   by_cases c1:sq L[i - 1] < sq h
   ·simp_all
   ·rw[decide_eq_false c1,cond_false,ZhS];refine⟨ZiH (by omega), ?_⟩;rw[Z2x,n,ZE7 _ _ (a.wq (by omega)) (k.wq (by omega)),Z2x];grind[ZhS,ZiH]
  grind[Zpp,Zfa]
 ·rintro _ ⟨i,rfl,s,q,D⟩;dsimp only;unfold ZzM;have A:(L.take (i:Int).toNat).length<=1000:=by grind
  have G:(L.drop (i:Int).toNat).length<=1000:=by grind
  rw[Zpc (by omega),chk_true,ZpO (by omega),chk_true,ZpO (by grind),chk_true,Zpc (by omega),chk_true,ZpO (by grind),chk_true,Zfa,Z2i];have e:=ZUp (lt:=ltM) h (L.take i) (fun B p v=> ?_) _ (L.drop i) rfl (fun y I=> ?_)
  ·simp_all
  ·have t:=congrArg List.length v;rw[Z2t,Z2q,List.length_singleton]at t;have a:(L.take i)[B.length]? =some p:=by grind
   rw[List.getElem?_take]at a;grind
  grind[List.getElem_of_mem]
theorem ZO8 {q:G_api_Table} (b:ZJs q) {l:List G_api_Table} (d:ZJt l) (f:∀t∈l,ZB0 t=true):∀m∈ZHO q l,ZMY m/\m.Align.length<=1000:=fun m e=>by obtain⟨t,a,c,rfl⟩:=ZMF e;refine⟨(ZIT b ((d.tab t a).C (f t a) c)).1, ?_⟩;show (ZH3 (ZM2 q t) 0).length<=1000;rw[ZMN,ZM2,Z2s];have:=b.cols;omega
theorem ZTL {l:List G_api_Table} {q:G_api_Table} {k:Int} (r:ZJt l) (J:Zq0 l=some true) (D:∀t∈l,ZB0 t=true) (d:ZJs q) (H:ZKX q) (M:0<=k/\k<=1024):
  ZpW l q k=some ((ZGD ltM (ZHO q l)).take k.toNat,0):=by
 have G:=d.cols;have I:=r.len;have y:ZpJ big k l (l.length:Int) 0 q []=some (k,ZGD ltM (ZHO q l)):=by
  apply Zo1;refine ZpP ZF0 l (by omega) (fun i (o:List ZkC)=>(k,l,(l.length:Int),i,q,o)) (fun j o=>o=ZGD ltM (ZHO q (l.take j))) [] rfl ?_ ?_
  ·rintro f j o u rfl N;unfold ZxX ZtG;dsimp only;have c:=Z2p u;have n:=D _ c;have E:=r.tab _ c;have e:=ZKO q (l.take j);rw[Z2t]at e;have v:=ZLo q (l.take j) l[j];rw[<-Z2w u]at v;have C:∀m∈ZHO q (l.take j),ZMY m:=fun m c=>by obtain⟨t,b,p,rfl⟩:=ZMF c;have b:=Z2v b;exact(ZIT d ((r.tab t b).C (D t b) p)).1
   have K:¬(l[j].Columns.length<=8/\0 < ZGl q l[j])->∀a s,wp (ZqJ (fun k B g z q A=>f (k,B,g,z,q,A)) k l (l.length:Int) (j:Int) false q (ZGD ltM (ZHO q (l.take j))) l[j] a s) (fun x=>x=(k,ZGD ltM (ZHO q l))):=by grind[ZqJ,Zsn,ZhS,ZiH]
   rw[decide_eq_true (show (j:Int) < (l.length:Int) by omega),cond_true,ZoT u,Z2x]
   by_cases p:l[j].Columns.length<=8
   ·have b:=E.C n p;have w:=ZLI d b;rw[ZP1 d b H E,Z2x];dsimp only;rw[show ((0:Int) == 0)=true from rfl,cond_true,ZEa,Z2x,ZIn (ZFx.wq (by decide)) (w.wq (by omega)),Z2x]
    by_cases h:0 < ZGl q l[j]
    ·rw[decide_eq_true h];unfold ZqJ Zsn;have F:=ZTV (L:=ZGD ltM (ZHO q (l.take j))) (h:=ZKJ q l[j]) (fun m c=>C m ((ZHq _).mem_iff.1 c)) (ZIT d b).1 (by rw[ZEz];omega);grind[ZKJ,ZhS,ZiH,ZLn]
    simp_all
   grind[ZMt]
  grind[ZxX,ZtG,Zfa]
 unfold ZpW;grind[ZpK,ZHD,Zso,ZzL,Zpc,chk_true,List.take_of_length_le]
end Go.Proofs
namespace Go.Proofs
open Go Eng
theorem ZLJ (l:List Int) (d:l.length<=1000):Zp2 l l=some true:=by
 apply Zo1;unfold Zp2;rw[show (((l.length:Nat):Int) != (l.length:Int))=false by simp,cond_false,Zhr];refine Zjf (ZpP ZEd l (by omega) (fun i (_:Unit)=>(l,l,(l.length:Int),i)) (fun _ _=>True) (Q:=fun x=>x= .brk ()) () trivial ?_ ?_) ?_
 ·rintro b k _ a _ c;unfold Zus Zrc;dsimp only;rw[decide_eq_true (show (k:Int) < (l.length:Int) by omega),cond_true,ZoT a,Z2x,Z2x,show (l[k] != l[k])=false by simp,cond_false,ZhS];exact⟨ZiH (by omega),c () trivial⟩
 all_goals grind[Zus,Zrc,Zfa,ZvY]
theorem ZK4 {m:ZkC} (h:ZMY m):Zpd m.Score m.Score=some true:=by obtain⟨a,b⟩:=ZJz h;rw[b,ZE7 _ _ (a.wq (by omega)) (a.wq (by omega)),decide_eq_true rfl]
theorem ZLg (l:List ZkC) (g:l.length<=1000) (c:∀m∈l,ZMY m) (e:∀m∈l,m.Align.length<=1000):Zrz l l=some true:=by
 apply Zo1;unfold Zrz;rw[show (((l.length:Nat):Int) != (l.length:Int))=false by simp,cond_false,Zhr];refine Zjf (ZpP ZFC l (by omega) (fun i (_:Unit)=>(l,l,(l.length:Int),i)) (fun _ _=>True) (Q:=fun x=>x= .brk ()) () trivial ?_ ?_) ?_
 ·rintro d k _ b _ f;unfold Zxf Ztj ZrS;dsimp only;have a:=List.getElem_mem b;rw[decide_eq_true (show (k:Int) < (l.length:Int) by omega),cond_true,ZoT b,Option.bind_some,Option.bind_some,show (l[k].Table != l[k].Table)=false by simp,cond_false,Option.bind_some,ZK4 (c _ a),Option.bind_some,Bool.not_true,cond_false,
   Option.bind_some,ZLJ _ (e _ a),Option.bind_some,Bool.not_true,cond_false,ZhS]
  exact⟨ZiH (by omega),f () trivial⟩
 all_goals grind[Zxf,Ztj,Zfa,Zy3]
theorem ZMm {t:G_api_Table} (h:ZJU t):ZKX t:=by obtain⟨n,i,b⟩:=h.rows;refine⟨by have:=(ZK7 h.name).2;omega,by have:=h.cols;omega,fun c a=> ?_⟩;obtain⟨d,g,f⟩:=b c a;refine⟨by have:=(ZK7 d).2;omega,by omega,fun x e=> ?_⟩;have:=(ZK7 (f x e).1).2;omega
theorem ZTD {t:G_api_Table} (h:ZJU t):ZJs t:=(ZMm h).C (ZPM h) (by have:=h.cols;omega)
theorem ZRs {l:List G_api_Table} (a:ZJt l) {q:G_api_Table} (k:ZJs q) (p:ZKX q) (n:Int):
  ∃(H:List ZkC) (e:Int),Zs6 l q n=some (H,e)/\ZpW l q n=some (H,e)/\Zrz H H=some true:=by
 have r:Zrz [] []=some true:=ZLg [] (by simp) (fun m h=>by grind) (fun m h=>by grind)
 by_cases h0:n < 0
 ·simp_all[Zs6,Zr6,ZpW,ZpK]
 by_cases h1:n > 1024
 ·simp_all[Zs6,Zr6,ZpW,ZpK]
 obtain⟨b,u,g⟩:=ZTW a;obtain⟨i,d,s⟩:=ZRB a;obtain rfl:i=b:=Bool.eq_iff_iff.2 (s.trans g.symm);cases i with
 |false=>
  simp_all[Zs6,Zr6,Zw2,decide_eq_false,ZpW,ZpK,Zso]
 |true=>
  have j:=(g.1 rfl).2;have t:=a.len;have f:=ZO8 k a j;have o:=ZKO q l;refine⟨_,_, ?_,ZTL a d j k p (by omega),ZLg _ (by grind[ZEz]) (fun m c=>(f m ((ZHq _).mem_iff.1 (Z2v c))).1) (fun m c=>(f m ((ZHq _).mem_iff.1 (Z2v c))).2)⟩;grind[ZWF,ZTz]
theorem Z0b {f:List G_api_Table} (j:ZJt f) {q:G_api_Table} (p:ZJs q) (h:ZKX q) (k b d:Int) (c:List (List G_api_Table)) (a:List Int) (s:a.length<=1000):
  wp (Zo7 big k f b d (a.length:Int) 0 q c a) (fun x=>x= .brk (k,b,d,q,c)):=by
 refine ZpP ZCK a (by omega) (fun i (_:Unit)=>(k,f,b,d,(a.length:Int),i,q,c,a)) (fun _ _=>True) () trivial ?_ ?_
 ·rintro g i _ m _ n;obtain⟨H,e,l,r,o⟩:=ZRs j p h a[i];unfold ZrI ZpR Zqg;dsimp only;rw[decide_eq_true (show (i:Int) < (a.length:Int) by omega),cond_true,ZhS,Z2i,Z2o m,Z2x,l,Z2x];refine⟨Zr4 (by omega), ?_⟩;dsimp only;rw[r,Z2x];dsimp only;rw[o,Z2x,ZW1,cond_false,bne_self_eq_false,cond_false,ZhS];exact⟨ZiH (by omega),n () trivial⟩
 grind[ZrI,ZpR,Zfa]
theorem Z0c {ls:List (List G_api_Table)} (b:ls.length<=1000) (e:∀l∈ls,ZJt l) {q:G_api_Table} (g:ZJs q) (d:ZKX q) (k:Int):
  wp (Zo8 big k (ls.length:Int) 0 q ls) (fun x=>x= .brk ()):=by
 refine ZpP ZCL ls (by omega) (fun i (_:Unit)=>(k,(ls.length:Int),i,q,ls)) (fun _ _=>True) () trivial ?_ ?_
 ·rintro c i _ a _ f;unfold ZrJ ZpS ZsB;dsimp only;rw[decide_eq_true (show (i:Int) < (ls.length:Int) by omega),cond_true,ZhS,Z2i,Z2o a,Z2x];refine⟨Zr4 (by omega), ?_⟩;rw[Zhr];refine Zjf (ZSI k (m:=5) (by omega)) fun r _=> ?_
  rw[Zhr];refine Zjf (Z0b (e _ (Z2p a)) g d k (ls.length:Int) (i:Int) ls [k,r] (by simp)) ?_;rintro _ rfl;dsimp only;rw[ZhS];exact⟨ZiH (by omega),f () trivial⟩
 grind[ZrJ,ZpS,Zfa]
theorem ZON {t:G_api_Table} (d:ZIv t):wp (Zwm t) (fun r=>r=true->ZKX t):=by
 unfold Zwm
 by_cases h:(t.Columns.length:Int) > 10
 ·grind[Zfa]
 rw[decide_eq_false h,cond_false,Zhr];refine Zjf (ZpP ZFl t.Columns (by omega) (fun i (_:Unit)=>(t.Columns,(t.Columns.length:Int),i)) (fun i _=>∀c∈t.Columns.take i,c.Cells.length<=10/\c.Name.length<=100)
  (Q:=fun x=>x= .ret false\/(x= .brk ()/\∀c∈t.Columns,c.Cells.length<=10/\c.Name.length<=100)) () (by simp) ?_ ?_) ?_
 ·rintro e i _ f h g;unfold ZwS Zs1 Zt5;dsimp only;rw[decide_eq_true (show (i:Int) < (t.Columns.length:Int) by omega),cond_true,ZoT f,Z2x]
  by_cases h1:(t.Columns[i].Cells.length:Int) > 10
  ·grind[Zfa]
  rw[decide_eq_false h1,cond_false]
  by_cases b:(t.Columns[i].Name.length:Int) > 100
  ·grind[Zfa]
  rw[decide_eq_false b,cond_false,ZhS];refine⟨ZiH (by omega),g () fun c a=> ?_⟩;grind[Z2w]
 ·grind[ZwS,Zs1,Zfa]
 ·rintro x (rfl |⟨rfl,b⟩)
  ·grind[Zfa]
  ·dsimp only;unfold Zym;rw[Zfa];exact fun _=>⟨d.1,by omega,fun c a=>⟨by grind,by grind,(d.2 c a).2⟩⟩
theorem Z0d (t:List Int) (k:Int) (a:List G_api_Table) (g:a.length<=3) (b:∀y∈a,ZIv y):
  wp (Zps big t a k a (a.length:Int) 0) (fun x=>x= .ret true\/(x= .brk (t,a,k)/\∀y∈a,ZKX y)):=by
 refine ZpP ZCM a (by omega) (fun i (_:Unit)=>(t,a,k,a,(a.length:Int),i)) (fun i _=>∀y∈a.take i,ZKX y) () (by simp) ?_ ?_
 ·rintro d i _ c h e;unfold ZrK ZpT;dsimp only;rw[decide_eq_true (show (i:Int) < (a.length:Int) by omega),cond_true,ZoT c,Z2x,Zhr];refine Zjf (ZON (b _ (Z2p c))) fun r f=> ?_
  cases r with
  |false=>grind[ZL0,Zfa]
  |true=>
   rw[ZW1,cond_false,ZhS];refine⟨ZiH (by omega),e () fun y j=> ?_⟩;grind[Z2w]
 grind[ZrK,ZpT,Zfa]
theorem unionsearchTop_law (t:List Int) (a:List G_api_Table) (k:Int) (e:∀y∈a,ZIv y):Zt6 t a k=some true:=by
 refine Zo1 ?_;unfold Zt6 ZBR Zqh;rw[Z2x]
 by_cases hlt:(t.length:Int)<=500
 ·rw[decide_eq_true hlt,ZW1,cond_false]
  by_cases hr:(a.length:Int) > 3
  ·grind[ZL0,Zfa]
  ·rw[decide_eq_false hr,cond_false,Zhr];refine Zjf (Z0d t k a (by omega) e) ?_;rintro x (rfl |⟨rfl,h⟩)
   ·grind[Zfa]
   dsimp only;unfold ZsC ZCP;rw[Zhr,Zfa,Zhr];refine Zjf (ZPK (d:=⟨t,0⟩) ⟨by simp,by simp,by grind⟩ (most:=3) (by omega) (by omega)) ?_;rintro⟨l,A⟩ ⟨⟨c,p⟩,o⟩;dsimp only at c p o|-
   have s:=c.len;rw[Zhr];refine Zjf (ZAf o (n:=(l.length:Int)) (by omega)) ?_;rintro⟨i,C⟩ ⟨w,f⟩;dsimp only at w f|-
   have g:i.toNat < l.length:=by omega
   rw[ZhS,Z2o g,Z2x];refine⟨Zr4 (by omega), ?_⟩;rw[Zhr];refine Zjf (ZAf f (n:=3) (by omega)) ?_;rintro⟨j,B⟩ ⟨v,m⟩;dsimp only at v m|-
   rw[Zhr];refine Zjf (ZLr m (c.ok _ (Z2p g)).1 (id:=j) (by omega)) ?_;rintro⟨q,D⟩ ⟨⟨r,_⟩,_⟩;dsimp only at r|-
   have z:l[(0:Int).toNat]? =some l[0]:=Z2o (by omega);rw[ZhS,ZhS,z,Z2x,ZhS,ZhS];refine⟨decide_eq_true (by omega),Zr4 (by omega),by rfl,ZpO (by grind), ?_⟩;rw[Zhr];refine Zjf (Z0c (ls:=[l,a,l.take (l.length:Int).toNat++[l[0]]]) (by simp) (fun x u=> ?_) (ZTD r) (ZMm r) k) ?_
   ·simp only[List.mem_cons,List.not_mem_nil,or_false]at u;rcases u with rfl |rfl |rfl
    ·exact⟨by omega,fun t b=>ZMm (c.ok t b).1⟩
    ·exact⟨by omega,h⟩
    ·refine⟨by grind,fun t b=> ?_⟩;rcases List.mem_append.1 b with b |b
     ·exact ZMm (c.ok t (Z2v b)).1
     ·rw[List.mem_singleton.1 b];exact ZMm (c.ok _ (Z2p _)).1
   grind[ZsA,ZL0,Zfa]
 grind[ZL0,Zfa]
end Go.Proofs
namespace Eng
open Go Go.Lib
theorem globOk_one {Pg:Program} {w:World} {n:String} {g:Nat} {t e:TypeId} {k:IntKind} {z:Int} (Y:Pg.globalNamed n=some g) (J:(Pg.globals[g]?).map (·.type)=some t)
  (ht:Pg.underlying t=some (.slice e)) (he:Pg.underlying e=some (.int k)) (G:Pg.cellsOf e=1) (T:k.min<=z/\z<=k.max)
  (h:VarReads Pg w n (.slice [.lit (.int k z)] [])):ZeC w (fun b=>b < w.heap.size) g [P.sl 1 [.int k z]]:=by
 obtain⟨g',t',cs,W,p,hg,C,D,hd⟩:=h;obtain rfl:=Option.some.inj (Y.symm.trans hg);obtain rfl:=Option.some.inj (J.symm.trans C);rcases DataW.trod_slice ht hd with ⟨_,r⟩ |⟨a,K,N,l,R,m,_,A,r,_,hl,Z,U,M,_,_⟩
 ·simp_all
 ·have X:=congrArg Prod.fst r;simp only[DataW.slice.injEq]at X;obtain⟨E,_⟩:=X
  match l,E with
  | [(d,q)],E=>
   simp only[List.map_cons,List.map_nil,List.cons.injEq,and_true]at E;subst E;have o:K=1:=by simp_all
   subst o;obtain⟨ci,B,I⟩:=Option.bind_eq_some_iff.1 (M 0 (by decide));obtain⟨c,hc,ac,_⟩:=DataW.trod_int he I;have L:c=z:=by grind
   subst L;subst hc;rw[G,Nat.zero_mul]at B;obtain⟨_,_,Q⟩:=World.cells?_some B;have h0:=Q 0 (by decide);have y:w.cell? a=some (.int k c):=by grind[Addr.add]
   have O:a.spot=none:=by
    unfold World.cell? at y;cases hs:a.spot with
    |none=>rfl
    |some s=>rw[hs]at y;split at y<;>simp at y
   have ha:a=⟨a.block,a.off,none⟩:=by cases a;simp_all
   have H:a.block < w.heap.size:=ZhN (by rw[ha]at y;omega);have aa:cs.size=1:=by have:=congrArg List.length A;omega
   refine ZIr (t:=0) (fr:= #[]) (ZKs Y D) _ (by omega) fun j v p u S=> ?_
   have V:j=0:=by grind
   subst V;simp only[List.getElem?_cons_zero,Option.some.injEq]at S;subst S;rw[<-Array.getElem?_toList,A]at u;simp only[List.getElem?_cons_zero,Option.some.injEq]at u;subst u;refine⟨.sl (some a) 1 N _ _ (fun _=> .int k c) rfl (by decide) hl (fun i hi=>rfl) (fun i hi=> ?_) (fun i x r=> ?_),rfl⟩
   ·have f:i=0:=by omega
    subst f;refine⟨a.block,a.off,by grind,H,fun j v u=> ?_⟩;have V:=(Array.getElem?_eq_some_iff.1 u).1;have F:j=0:=by have:(Value.int k c).cells.size=1:=rfl;omega
    subst F;have ab:v= .int k c:=by have:(Value.int k c).cells[0]? =some (.int k c):=rfl;grind
    grind
   ·have f:i=0:=by have:=(List.getElem?_eq_some_iff.1 r).1;simp at this;omega
    subst f;simp only[List.getElem?_cons_zero,Option.some.injEq]at r;subst r;exact .int k c T.1 T.2
end Eng
namespace Eng
open Go
inductive ZPw (s:List UInt8):P->Prop
 |str:ZPw s (.str s)
 |agg {cs:List P} {c:P} (h:c∈cs) (h':ZPw s c):ZPw s (.agg cs)
 |sl {sz:Nat} {es:List P} {e:P} (h:e∈es) (h':ZPw s e):ZPw s (.sl sz es)
theorem RelP.strs {w:World} {S:Nat->Prop} {s:List UInt8} {x:P} (q:ZPw s x):∀{v:Value},RelP w S v x->s.length<=Zr:=by
 induction q with
 |str=>intro v h;cases h;assumption
 |agg d _ f=>
  intro v h;cases h with
  |agg k z j t h=>
   obtain⟨i,b,e⟩:=List.mem_iff_getElem.1 d;have c:i < k.size:=by rw[j];exact b
   exact f (h i k[i] _ (Array.getElem?_eq_getElem c) (by rw[Z2o b,e]))
 |sl d _ f=>
  intro v h;cases h with
  |sl a l n u r p j o y m g h=>
   obtain⟨i,b,e⟩:=List.mem_iff_getElem.1 d;exact f (h i _ (by rw[Z2o b,e]))
inductive ZQQ (k:IntKind) (n:Int):P->Prop
 |int:ZQQ k n (.int k n)
 |agg {cs:List P} {c:P} (h:c∈cs) (h':ZQQ k n c):ZQQ k n (.agg cs)
 |sl {sz:Nat} {es:List P} {e:P} (h:e∈es) (h':ZQQ k n e):ZQQ k n (.sl sz es)
end Eng
namespace Go.Proofs
open Go Eng
theorem ZTP {w:World} {S:Nat->Prop} {v:Value} {y:List G_api_Table} (h:RelP w S v (U.encE (.sl (.st 2)) y)):∀t∈y,ZIv t:=by
 have a:Zr=9223372036854775807:=by decide
 have b:RelP w S v (.sl 3 (y.map ZIs)):=h;intro t d;refine⟨?_,fun c e=>⟨?_,fun x f=> ?_⟩⟩
 ·rw[<-a];exact b.strs (.sl (Z2u.2 ⟨t,d,rfl⟩) (.agg (by simp) .str))
 ·rw[<-a];exact b.strs (.sl (Z2u.2 ⟨t,d,rfl⟩) (.agg (c:= .sl 2 (t.Columns.map Zzo)) (by simp) (.sl (Z2u.2 ⟨c,e,rfl⟩) (.agg (by simp) .str))))
 ·rw[<-a];exact b.strs (.sl (Z2u.2 ⟨t,d,rfl⟩) (.agg (c:= .sl 2 (t.Columns.map Zzo)) (by simp) (.sl (Z2u.2 ⟨c,e,rfl⟩) (.agg (c:= .sl 2 (c.Cells.map ZAg)) (by simp) (.sl (Z2u.2 ⟨x,f,rfl⟩) (.agg (by simp) .str))))))
end Go.Proofs
