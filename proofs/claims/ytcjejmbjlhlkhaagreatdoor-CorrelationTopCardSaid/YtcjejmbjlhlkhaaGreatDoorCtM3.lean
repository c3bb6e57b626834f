/- Plain laws over the specs, part 3. -/
import Derived.Test.YtcjejmbjlhlkhaaGreatDoorCtM2
import Derived.Test.YtcjejmbjlhlkhaaGreatDoorCtM1
set_option linter.all false
open Bool renaming not_true->Z3Q, not_false->ZYu
open Int renaming toNat_natCast->Z3T, le_of_lt->Z3R, natAbs_natCast->Z3S
open List renaming getElem?_eq_getElem->Z3Z, length_append->Z33, getElem_mem->Z32, length_take->Z4c, take_succ_eq_append_getElem->Z4i, length_map->Z38, take_length->Z4g, length_singleton->Z4b, length_set->Z4a, length_cons->Z34, map_append->Z4e, getElem?_eq_some_iff->Z30, append_nil->Z3U, length_drop->Z35, mem_map->Z4f, length_filterMap_le->Z36, length_zip->Z4d, countP_le_length->Z3W, eq_nil_or_concat->Z3Y, concat_eq_append->Z3V, length_nil->Z39, eq_nil_of_length_eq_zero->Z3X, length_filter_le->Z37, getElem_map->Z31, take_of_length_le->Z4h
open Nat renaming le_trans->Z4k, le_refl->Z4j, mul_le_mul_right->Z4l
open Option renaming bind_some->Z4m, some.inj->Z4n
namespace Go.Proofs
open Go Eng
def Zmp (R:List (Str×Rat)):List ZnM:=(ZEV R).map (En R)
def Ztd (l:List G_api_Cell):Prop:=∀x∈l,x.Text.length<=9223372036854775807
theorem ZQU {K V:List G_api_Cell} (H:Ztd K) (I:Ztd V) (U:K.length<=40) (W:K.length=V.length) (m:Str):
  wp (Zwo big K (K.length:Int) 0 (G_api_Column.mk m V) [] []) (fun x=>x=Zmp (ZpJ K V)):=by
 refine Zr6 ZJT K (by omega) (fun i (t:List (Str×Int)×List ZnM)=>(K,(K.length:Int),i,G_api_Column.mk m V,t.1,t.2))
  (fun k t=>t.1=mpo 0 (ZEV (ZpJ (K.take k) (V.take k)))/\t.2=Zmp (ZpJ (K.take k) (V.take k))) (Q:=fun x=>x=Zmp (ZpJ K V)) ([],[]) ⟨rfl,rfl⟩ ?_ ?_
 ·rintro f k ⟨a,b⟩ z ⟨B,C⟩ y;dsimp only at B C y;subst B C;have l:k < V.length:=by omega
  have L:(ZpJ (K.take k) (V.take k)).length<=k:=by grind[ZpJ]
  have u:∀r∈ZpJ (K.take k) (V.take k),Sz 80 r.2:=ZM4;have w:ZpJ (K.take (k+1)) (V.take (k+1))=ZpJ (K.take k) (V.take k)++(ZJd (K[k],V[k])).toList:=by unfold ZpJ;rw[Z4i z,Z4i l,List.zip_append (by simp_all),List.filterMap_append];congr 1
  unfold ZFx ZDA;dsimp only;rw[decide_eq_true (show (k:Int) < (K.length:Int) by omega),cond_true,Zqc z,ZnN,ZnL,Zqc l,ZnN,ZnL,ZnN];generalize hR:ZpJ (K.take k) (V.take k)=R at*
  have skip:∀(v:ZnK),ZJd (K[k],V[k])=none->wp (Zyx (fun c d i value a b=>f (c,d,i,value,a,b)) K (K.length:Int) (k:Int) true (G_api_Column.mk m V) (mpo 0 (ZEV R)) (Zmp R) K[k] v) (fun x=>x=Zmp (ZpJ K V)):=by intro v M;unfold Zyx ZCU;rw[cond_true,ZnO];refine⟨ZnS (by omega),y (mpo 0 (ZEV R),Zmp R) ?_⟩;simp_all
  have s:∀(q:Rat),Sz 80 q->ZJd (K[k],V[k])=some (K[k].Text,q)->wp (Zyx (fun c d i value a b=>f (c,d,i,value,a,b)) K (K.length:Int) (k:Int) false (G_api_Column.mk m V) (mpo 0 (ZEV R)) (Zmp R) K[k] (fOf q)) (fun x=>x=Zmp (ZpJ K V)):=by
   intro q O M;have o:ZpJ (K.take (k+1)) (V.take (k+1))=R++[(K[k].Text,q)]:=by simp_all
   have J:=ZKm R;have n:=ZKm (R++[(K[k].Text,q)]);rw[Z33,Z4b]at n;have A:∀(j:Nat) (e:List Str),e=ZEV (R++[(K[k].Text,q)])->e[j]? =some K[k].Text->
     wp (ZCV (fun c d i value a b=>f (c,d,i,value,a,b)) (j:Int) K (K.length:Int) (k:Int) (G_api_Column.mk m V) (mpo 0 e) (e.map (En R)) (fOf q)) (fun x=>x=Zmp (ZpJ K V)):=by
    intro j e h D;have G:j < e.length:=(Z30.1 D).1;have g:j < (e.map (En R)).length:=by simp_all
    have F:e[j]=K[k].Text:=(Z30.1 D).2;have N:(e.map (En R))[j]? =some (En R K[k].Text):=by simp_all
    have X:cnt R K[k].Text<=R.length:=Z3W;have P:=ZTp u K[k].Text;unfold ZCV ZCU;rw[ZnO,Z3T,N,ZnN,ZnL,ZnO,ZnO,ZnN,ZnL,ZnO,List.getElem?_set_self g,ZnN,ZnL];dsimp only[En];rw[ZIx P O (by omega),ZnN,ZnL,ZnO,ZnN,ZnL,ZnO];dsimp only;refine⟨ZoP g,ZnS (by omega),ZoP g,ZoI ⟨by omega,by simp_all⟩,ZoI ⟨by omega,by simp_all⟩,ZnS (by omega), ?_⟩;rw[List.set_set];refine y (_,_) ⟨?_, ?_⟩
    ·simp_all
    ·dsimp only;rw[o];unfold Zmp;rw[<-h];have T:ZnM.mk K[k].Text (ZHZ K[k].Text) ((cnt R K[k].Text:Int)+1) (fOf (sm R K[k].Text+q))=En (R++[(K[k].Text,q)]) K[k].Text:=by grind[En,ZK8,ZMo,ZIW]
     grind[ZQu,En,ZJI,ZK8,ZMo,ZIW]
   unfold Zyx;rw[cond_false]
   by_cases p:K[k].Text∈ZEV R
   ·obtain⟨j,E,S⟩:=ZQR (ZEV R) 0 K[k].Text p;rw[Int.zero_add]at E;rw[E,show (some (j:Int)).isSome=true from rfl,Z3Q,cond_false,show ((some (j:Int)).getD (0:Int))=(j:Int)from rfl];have h:ZEV R=ZEV (R++[(K[k].Text,q)]):=by grind[ZKl,ZIb]
    exact A j _ h S
   ·rw[ZPd _ _ _ p,show (none:Option Int).isSome=false from rfl,ZYu,cond_true,ZVk (H _ (Z32 z)),ZnN,ZnL,ZLb,ZnN,ZnL,ZnO];refine⟨ZsS (by grind[Zmp]), ?_⟩;simp_all[ZKl,ZIb,Zmp,En,ZTL,ZUB]
  rw[ZN9 (I _ (Z32 l)),ZnL];grind[ZJd,ZMM]
 grind[ZFx,ZDA,ZnL]
theorem ZQZ (b i0:Int) {A0 C0:List ZnM} {x:ZnM} (a:(A0++x::C0).length<=1000):
  wp (Zog big 0 b i0 (A0.length:Int) (A0++x::C0)) (fun y=>y=(0,b,i0,ZJ6 ltE x A0++C0)):=by
 refine Zpm ZzT (fun(s:List ZnM×List ZnM)=>((0:Int),b,i0,(s.1.length:Int),s.1++x::s.2)) (fun s=>ZJ6 ltE x s.1++s.2=ZJ6 ltE x A0++C0/\(s.1++x::s.2).length<=1000) (fun s=>s.1.length)
  (Q:=fun y=>y=(0,b,i0,ZJ6 ltE x A0++C0)) (A0,C0) ⟨rfl,a⟩ (by grind) ?_
 rintro n ⟨A,C⟩ ⟨e,i⟩ g;dsimp only at e i g|-
 unfold Ztl Zqt Zpl;dsimp only;rcases Z3Y A with rfl |⟨A,p,rfl⟩
 ·grind[ZnL,ZMF]
 ·rw[Z3V]at*
  simp only[Z33,Z34,Z39]at i;have t:(A++[p])++x::C=A++p::x::C:=by simp
  have m:((A++[p]).length:Int)=((A.length+1:Nat):Int):=by simp
  have l:(((A++[p]).length:Int) - 1)=(A.length:Int):=by omega
  have r:(A++p::x::C)[A.length+1]? =some x:=by simp
  have o:(A++p::x::C)[A.length]? =some p:=by simp
  rw[Zn1];refine⟨fun _=> ?_,fun h=>by simp_all⟩;rw[l,m,t];simp only[Z3T,r,o,Z4m];have u:(A++p::x::C).length=A.length+2+C.length:=by grind
  have k:inR ((A.length+1:Nat):Int) ((A++p::x::C).length:Int)=true:=ZoI ⟨by omega,by omega⟩;have q:inR (A.length:Int) ((A++p::x::C).length:Int)=true:=ZoI ⟨by omega,by omega⟩;have d:inR (A.length:Int) (((A++p::x::C).set (A.length+1) p).length:Int)=true:=by simp_all
  have j:inK .i64 (A.length:Int)=true:=ZnS (by omega);rw[k,q,d,j];simp only[chk_true];rw[ZSs,ZnN,ZnL];rw[ZJm]at e;have c:ltE x p=decide (ZHT x p < 0):=rfl;rw[Zn1];refine⟨fun f=> ?_,fun f=> ?_⟩
  ·rw[c,if_pos f]at e;rw[ZLj];exact g (A,p::C) ⟨by simp_all,by grind⟩ (by simp)
  grind[ZnL]
theorem ZVh {D:List ZnM} (j:D.length<=1000):
  Zpp D 0 (D.length:Int)=some (ZtR ltE D):=by
 have key:ZpG D 0 (D.length:Int)=some (ZtR ltE D):=by
  refine Zps ?_;unfold ZpG ZqP;rw[ZnO,ZnN];refine⟨ZnS (by omega), ?_⟩;have b:∀(k f:Nat),k+1<=D.length->D.length - (k+1) < f->wp (Zox f 0 (D.length:Int) ((k+1:Nat):Int) (ZtR ltE (D.take (k+1))++D.drop (k+1))) (fun y=>y=ZtR ltE D):=by
   intro k f
   induction f generalizing k with
   |zero=>omega
   |succ f i=>
    intro h g;show wp (Zqu _ _ _ _ _) _;unfold Zqu ZqQ;rw[Zn1];refine⟨fun d=> ?_,fun d=> ?_⟩
    ·simp only[decide_eq_true_eq]at d;have c:k+1 < D.length:=by omega
     have a:(ZtR ltE (D.take (k+1))).length=k+1:=by grind[Zu9]
     have e:D.drop (k+1)=D[k+1]::D.drop (k+2):=List.drop_eq_getElem_cons c;rw[e];have:=ZQZ (D.length:Int) ((k+1:Nat):Int) (A0:=ZtR ltE (D.take (k+1))) (C0:=D.drop (k+2)) (x:=D[k+1]) (by simp_all);rw[a]at this;rw[ZnN];refine ZnU this ?_;rintro y rfl;grind[ZnO,ZnS,Z4i,ZIz]
    grind[ZnL]
  by_cases h0:D.length=0
  ·have:D=[]:=Z3X h0;subst this;exact⟨[],rfl,ZnL.2 rfl⟩
  ·have:=b 0 big (by omega) (by grind[big_eq]);have e:ZtR ltE (D.take (0+1))++D.drop (0+1)=D:=by
    cases D with
    |nil=>simp_all
    |cons x D=>rfl
   grind[ZnU,ZnL]
 simp_all[Zpp,Zu9]
theorem ZNk:((List.range 13).all fun n:Nat=>(ZzU (IntKind.wrap .u64 (n:Int))).isSome)=true:=by kernel_rfl
theorem ZSa {D:List ZnM} (f:D.length<=12):ZoZ D=some (ZtR ltE D):=by
 have d:Zqn D 0 (D.length:Int)=fun _=>some (ZtR ltE D):=by funext b;obtain⟨k,a⟩:=ZKF 1 (by omega);unfold Zqn Zta;rw[a];show ((ZrK _ _ _ _ _ _ _).bind _).bind _=_;unfold ZrK;rw[ZnS (by omega),chk_true,decide_eq_true (show (D.length:Int) - 0<=12 by omega),cond_true,ZVh (by omega),Z4m,Z4m];simp_all[Zu9]
 have c:=List.all_eq_true.1 ZNk D.length (List.mem_range.2 (by omega));obtain⟨n,e⟩:=Option.isSome_iff_exists.1 c;simp_all[ZoZ,ZqG,Zu9]
def ZME (K V:List G_api_Cell):List ZnM:=ZtR ltE (Zmp (ZpJ K V))
theorem ZO7 {K V:List G_api_Cell}:(Zmp (ZpJ K V)).length<=K.length:=by unfold Zmp;rw[Z38];refine Z4k (ZKm _) (Z4k (Z36 _ _) ?_);grind
theorem ZVc {key value:G_api_Column} (c:Ztd key.Cells) (b:Ztd value.Cells) (d:key.Cells.length<=12) (a:key.Cells.length=value.Cells.length):
  ZHu key value=some (ZME key.Cells value.Cells):=by
 refine Zps ?_;unfold ZHu;rw[ZnN];refine ZnU (ZQU c b (by omega) a value.Name) ?_;rintro _ rfl;unfold ZG0;rw[ZSa (Z4k ZO7 d),ZnN,ZnL,ZnL];rfl
theorem ZQW {K V:List G_api_Cell}:(ZME K V).length<=K.length:=by grind[ZME,Zu9,ZO7]
end Go.Proofs
namespace Go.Proofs
open Go Eng
abbrev ZJ4:Nat:=1000000000
abbrev B24:Nat:=1000000000000000000000000
theorem ZVx {x:Bool×Str×Str} (h:ZKK x.2.1 x.2.2):Dz ZJ4 B24 (ZSP x):=by
 have i:=h.d2;have g:=h.p;have c:ZIS (x.2.1++x.2.2) < 10 ^ (x.2.1++x.2.2).length:=ZQL (by rw[List.all_append,h.dd,h.pp];rfl);rw[Z33]at c;obtain⟨k,f⟩:∃k,k+x.2.2.length=9:=⟨9 - x.2.2.length,by omega⟩;have b:(10 ^ k)*(10 ^ x.2.2.length)=ZJ4:=by rw[<-Nat.pow_add,f]
 have m:ZIS (x.2.1++x.2.2)*10 ^ k<=B24:=by refine Z4k (Z4l _ (Nat.le_of_lt c)) ?_;rw[<-Nat.pow_add];exact Z4k (Nat.pow_le_pow_right (by decide) (show x.2.1.length+x.2.2.length+k<=24 by omega)) (by decide)
 have d:((10 ^ x.2.2.length:Nat):Int)≠0:=by grind
 have key:∀a:Int,a.natAbs=ZIS (x.2.1++x.2.2)->Dz ZJ4 B24 (Rat.divInt a ((10 ^ x.2.2.length:Nat):Int)):=by
  intro a l;refine⟨a*((10 ^ k:Nat):Int), ?_,by grind[Int.natAbs_mul]⟩;have j:(((10 ^ x.2.2.length:Nat):Int):Rat)≠0:=fun e=>d (Rat.intCast_inj.1 e)
  rw[Rat.divInt_eq_div,<-b,Int.natCast_mul,Rat.intCast_mul,Rat.intCast_mul];grind
 grind[ZSP]
theorem ZSR {c:G_api_Cell} {q:Rat} (h:ZKV c=some q):Dz ZJ4 B24 q:=by
 unfold ZKV at h;cases hn:c.Null with
 |true=>simp_all
 |false=>
  rw[hn,cond_false]at h;unfold ZRX at h;cases hc:ZJv c.Text with
  |none=>simp_all
  |some t=>
   rw[hc]at h;dsimp only at h;cases a:ZIm t with
   |none=>simp_all
   |some x=>
    rw[a]at h;simp only[Option.map_some,Option.some.injEq]at h;subst h;obtain⟨_,b⟩:=ZF9 a;grind[ZVx,ZFJ]
theorem ZQy {K V:List G_api_Cell}:∀r∈ZpJ K V,Dz ZJ4 B24 r.2:=by
 intro r a;obtain⟨p,_,h⟩:=List.mem_filterMap.1 a;grind[ZJd,Option.map_eq_some_iff,ZSR]
theorem ZYb {R:List (Str×Rat)} (h:∀r∈R,Dz ZJ4 B24 r.2) (k:Str):∀(s:Rat) (n:Nat),Dz ZJ4 (n*B24) s->Dz ZJ4 ((n+R.length)*B24) (R.foldl (ZIW k) s):=by
 induction R with
 |nil=>simp_all
 |cons r R b=>
  intro s n a;rw[List.foldl_cons,Z34,show n+(R.length+1)=(n+1)+R.length by omega];refine b (fun r c=>h r (by grind)) _ (n+1) ?_;unfold ZIW;split
  ·rw[Nat.add_mul,Nat.one_mul];exact a.add (h r (by simp))
  ·exact a.mono (Z4l _ (by omega))
def ZIy (R:List (Str×Rat)) (k:Str):Rat:=sm R k / Rat.divInt (cnt R k:Int) 1
theorem ZU7 {R:List (Str×Rat)} (h:∀r∈R,Dz ZJ4 B24 r.2) (hl:R.length<=8) {k:Str} (hk:k∈ZEV R):Dz M0 B0 (ZIy R k):=by
 have h1:=(ZYb h k 0 0 ((ZOf ZJ4).mono (Nat.zero_le _))).mono (show (0+R.length)*B24<=8*B24 from Z4l _ (by omega));obtain⟨a,h2,h3⟩:=h1;have hc:cnt R k<=R.length:=Z3W;have hp:0 < cnt R k:=by obtain⟨r,hr,e⟩:=ZMC.1 hk;exact List.countP_pos_iff.2 ⟨r,hr,by grind⟩
 obtain⟨m,hm,hm2⟩:∃m,cnt R k*m=840/\m<=840:=by
  have:cnt R k=1\/cnt R k=2\/cnt R k=3\/cnt R k=4\/cnt R k=5\/cnt R k=6\/cnt R k=7\/cnt R k=8:=by omega
  rcases this with h |h |h |h |h |h |h |h<;>rw[h]
  ·simp_all
  ·exact⟨420,by decide⟩
  ·exact⟨280,by decide⟩
  ·exact⟨210,by decide⟩
  ·exact⟨168,by decide⟩
  ·exact⟨140,by decide⟩
  ·exact⟨120,by decide⟩
  ·exact⟨105,by decide⟩
 have h0:((cnt R k:Int):Rat)≠0:=fun e=>by simp_all
 refine⟨a*(m:Int), ?_, ?_⟩
 ·unfold ZIy;have e:((M0:Int):Rat)=((cnt R k:Int):Rat)*((m:Int):Rat)*((ZJ4:Int):Rat):=by rw[<-Rat.intCast_mul,<-Rat.intCast_mul];congr 1;grind
  have h2':sm R k*((ZJ4:Int):Rat)=(a:Rat):=h2;rw[e,Rat.intCast_mul,ZHD,<-h2'];grind
 ·rw[Int.natAbs_mul,Z3S];exact Z4k (Nat.mul_le_mul h3 hm2) (by decide)
end Go.Proofs
namespace Go.Proofs
open Go Eng
theorem ZKy {a b c:ZnM} (h:a.Key=b.Key) (f:ZJz a) (d:ZJz b):ZHT a c=ZHT b c:=by
 have e:a.Hash=b.Hash:=by rw[f,d,h]
 grind[ZHT]
theorem ZNl {a b c:ZnM} (g:ZJz a) (i:ZJz b) (f:ZHT a b<=0) (h:ZHT b c<=0):ZHT a c<=0:=by
 by_cases e:ZHT a b=0
 ·grind[ZKy,ZKh]
 ·have d:ZHT a b < 0:=by omega
  by_cases e2:ZHT b c=0
  ·grind[ZHT,ZJw]
  ·have:=ZL3 d (show ZHT b c < 0 by omega);omega
def Lt (a b:ZnM):Prop:=ZHT a b < 0
theorem ZL6 {l:List ZnM} (h:∀e∈l,ZJz e):(ZtR ltE l).Pairwise fun a b=>ZHT a b<=0:=by
 refine ZGK ZJz (fun a b=>ZHT a b<=0) (fun x p _ _ h=> ?_) (fun x p _ _ h=> ?_) (fun a b c g d _ f i=>ZNl g d f i) l h
 ·have:=of_decide_eq_true h;omega
 ·have:=of_decide_eq_false h;grind[ZJF]
theorem ZM9 {R:List (Str×Rat)}:∀e∈Zmp R,ZJz e:=by intro e a;obtain⟨k,_,rfl⟩:=Z4f.1 a;rfl
theorem ZU9 {l:List ZnM} (h:l.Pairwise Lt) {i j:Nat} (a:i < j) (b:j < l.length):ZHT l[i] l[j] < 0:=List.pairwise_iff_getElem.1 h i j (by omega) b a
end Go.Proofs
namespace Go.Proofs
open Go Eng
def ltK (a b:ZnM):Bool:=decide (Lib.compareBytes a.Key b.Key < 0)
theorem ZQX (a b:ZnM):ZBU a b=some (Lib.compareBytes a.Key b.Key):=by grind[ZBU,ZB3,Zrc]
theorem ZPN (b i0:Int) {A0 C0:List ZnM} {x:ZnM} (a:(A0++x::C0).length<=1000):
  wp (Zoa big 0 b i0 (A0.length:Int) (A0++x::C0)) (fun y=>y=(0,b,i0,ZJ6 ltK x A0++C0)):=by
 refine Zpm Zze (fun(s:List ZnM×List ZnM)=>((0:Int),b,i0,(s.1.length:Int),s.1++x::s.2)) (fun s=>ZJ6 ltK x s.1++s.2=ZJ6 ltK x A0++C0/\(s.1++x::s.2).length<=1000) (fun s=>s.1.length)
  (Q:=fun y=>y=(0,b,i0,ZJ6 ltK x A0++C0)) (A0,C0) ⟨rfl,a⟩ (by grind) ?_
 rintro n ⟨A,C⟩ ⟨e,i⟩ g;dsimp only at e i g|-
 unfold ZsU Zp9 Zo1;dsimp only;rcases Z3Y A with rfl |⟨A,p,rfl⟩
 ·grind[ZnL,ZMF]
 ·rw[Z3V]at*
  simp only[Z33,Z34,Z39]at i;have t:(A++[p])++x::C=A++p::x::C:=by simp
  have m:((A++[p]).length:Int)=((A.length+1:Nat):Int):=by simp
  have l:(((A++[p]).length:Int) - 1)=(A.length:Int):=by omega
  have r:(A++p::x::C)[A.length+1]? =some x:=by simp
  have o:(A++p::x::C)[A.length]? =some p:=by simp
  rw[Zn1];refine⟨fun _=> ?_,fun h=>by simp_all⟩;rw[l,m,t];simp only[Z3T,r,o,Z4m];have u:(A++p::x::C).length=A.length+2+C.length:=by grind
  have k:inR ((A.length+1:Nat):Int) ((A++p::x::C).length:Int)=true:=ZoI ⟨by omega,by omega⟩;have q:inR (A.length:Int) ((A++p::x::C).length:Int)=true:=ZoI ⟨by omega,by omega⟩;have d:inR (A.length:Int) (((A++p::x::C).set (A.length+1) p).length:Int)=true:=by simp_all
  have j:inK .i64 (A.length:Int)=true:=ZnS (by omega);rw[k,q,d,j];simp only[chk_true];rw[ZQX,ZnN,ZnL];rw[ZJm]at e;have c:ltK x p=decide (Lib.compareBytes x.Key p.Key < 0):=rfl;rw[Zn1];refine⟨fun f=> ?_,fun f=> ?_⟩
  ·rw[c,if_pos f]at e;rw[ZLj];exact g (A,p::C) ⟨by simp_all,by grind⟩ (by simp)
  grind[ZnL]
theorem ZVg {D:List ZnM} (j:D.length<=1000):
  Zpa D 0 (D.length:Int)=some (ZtR ltK D):=by
 have key:Zpq D 0 (D.length:Int)=some (ZtR ltK D):=by
  refine Zps ?_;unfold Zpq Zqv;rw[ZnO,ZnN];refine⟨ZnS (by omega), ?_⟩;have b:∀(k f:Nat),k+1<=D.length->D.length - (k+1) < f->wp (Zop f 0 (D.length:Int) ((k+1:Nat):Int) (ZtR ltK (D.take (k+1))++D.drop (k+1))) (fun y=>y=ZtR ltK D):=by
   intro k f
   induction f generalizing k with
   |zero=>omega
   |succ f i=>
    intro h g;show wp (Zqa _ _ _ _ _) _;unfold Zqa Zqw;rw[Zn1];refine⟨fun d=> ?_,fun d=> ?_⟩
    ·simp only[decide_eq_true_eq]at d;have c:k+1 < D.length:=by omega
     have a:(ZtR ltK (D.take (k+1))).length=k+1:=by grind[Zu9]
     have e:D.drop (k+1)=D[k+1]::D.drop (k+2):=List.drop_eq_getElem_cons c;rw[e];have:=ZPN (D.length:Int) ((k+1:Nat):Int) (A0:=ZtR ltK (D.take (k+1))) (C0:=D.drop (k+2)) (x:=D[k+1]) (by simp_all);rw[a]at this;rw[ZnN];refine ZnU this ?_;rintro y rfl;grind[ZnO,ZnS,Z4i,ZIz]
    grind[ZnL]
  by_cases h0:D.length=0
  ·have:D=[]:=Z3X h0;subst this;exact⟨[],rfl,ZnL.2 rfl⟩
  ·have:=b 0 big (by omega) (by grind[big_eq]);have e:ZtR ltK (D.take (0+1))++D.drop (0+1)=D:=by
    cases D with
    |nil=>simp_all
    |cons x D=>rfl
   grind[ZnU,ZnL]
 simp_all[Zpa,Zu9]
theorem ZR9 {D:List ZnM} (f:D.length<=12):ZoR D=some (ZtR ltK D):=by
 have d:ZpV D 0 (D.length:Int)=fun _=>some (ZtR ltK D):=by funext b;obtain⟨k,a⟩:=ZKF 1 (by omega);unfold ZpV ZsF;rw[a];show ((Zre _ _ _ _ _ _ _).bind _).bind _=_;unfold Zre;rw[ZnS (by omega),chk_true,decide_eq_true (show (D.length:Int) - 0<=12 by omega),cond_true,ZVg (by omega),Z4m,Z4m];simp_all[Zu9]
 have c:=List.all_eq_true.1 ZNk D.length (List.mem_range.2 (by omega));obtain⟨n,e⟩:=Option.isSome_iff_exists.1 c;simp_all[ZoR,Zqk,Zu9]
end Go.Proofs
namespace Go.Proofs
open Go Eng
theorem ZSW:∀x y:Str,Op.bytesLess x y=decide (Lib.compareBytes x y < 0)
 | [],[]=>rfl
 |_::_,[]=>rfl
 | [],_::_=>rfl
 |a::x,b::y=>by
  rw[Op.bytesLess,ZSW x y,show Lib.compareBytes (a::x) (b::y)=if a < b then -1 else if b < a then 1 else Lib.compareBytes x y by rw[Lib.compareBytes]]
  grind
theorem ZLI (a b:ZnM):Zxm a b=some (decide (ZHT a b < 0)):=by
 unfold Zxm ZsH ZHT
 grind[decide_eq_false,ZSW]
def upd (k:Str) (q:Rat) (R:List (Str×Rat)) (x:ZnM):ZnM:=if x.Key=k then ⟨x.Key,x.Hash,x.Count+1,fOf (sm R k+q)⟩else x
theorem ZMi (k:Str) (q:Rat) (R:List (Str×Rat)) (x:ZnM):(upd k q R x).Key=x.Key/\(upd k q R x).Hash=x.Hash:=by grind[upd]
theorem ZTj {k:Str} {q:Rat} {R:List (Str×Rat)} {j:Str}:upd k q R (En R j)=En (R++[(k,q)]) j:=by
 grind[upd,En,ZK8,ZMo,ZIW]
def ZCg (R:List (Str×Rat)):List ZnM:=ZtR ltE (Zmp R)
theorem ZK3 {R:List (Str×Rat)} {e:ZnM}:e∈ZCg R<->∃k∈ZEV R,En R k=e:=by grind[ZCg,Zt8,Zmp]
theorem ZMn (R:List (Str×Rat)):(ZCg R).Pairwise Lt:=by
 have b:=ZL6 (l:=Zmp R) ZM9;have a:((ZCg R).map (·.Key)).Nodup:=by grind[ZCg,Zmp,Zt8,En,ZJI]
 rw[List.Nodup,List.pairwise_map]at a;refine(b.and a).imp ?_;grind[Lt,ZKh]
theorem ZQq {R:List (Str×Rat)} {S:List ZnM} (d:S.Perm (Zmp R)) (g:S.Pairwise fun a b=>ZHT a b<=0):S=ZCg R:=by
 have f:∀e∈Zmp R,e=En R e.Key:=by intro e c;obtain⟨k,_,rfl⟩:=Z4f.1 c;rfl
 refine ZI9 (fun e=>e=En R e.Key) (fun a b=>ZHT a b<=0) (fun a b i l h j=> ?_) (fun e c=>f e (d.mem_iff.1 c)) (d.trans (Zt8 _).symm) g (ZL6 ZM9);grind[ZJF,ZKh]
theorem ZSt {k:Str} {q:Rat} {R:List (Str×Rat)} (x y:ZnM):ZHT (upd k q R x) (upd k q R y)=ZHT x y:=by grind[ZHT,ZMi]
theorem ZR5 {k:Str} {q:Rat} {R:List (Str×Rat)} (h:k∈ZEV R):(ZCg R).map (upd k q R)=ZCg (R++[(k,q)]):=by
 refine ZQq ?_ ?_
 ·have c:ZEV (R++[(k,q)])=ZEV R:=by grind[ZKl,ZIb]
  have e:Zmp (R++[(k,q)])=(Zmp R).map (upd k q R):=by grind[Zmp,List.map_congr_left,ZTj]
  rw[e];exact(Zt8 _).map _
 ·rw[List.pairwise_map];exact(ZMn R).imp fun {a b} h=>by rw[ZSt];exact Z3R h
theorem ZR6 {k:Str} {q:Rat} {R:List (Str×Rat)} (h:k∉ZEV R) {S1 S2:List ZnM} (f:ZCg R=S1++S2) {e:ZnM} (t:e=⟨k,ZHZ k,1,fOf q⟩) (v:∀x∈S1,¬ZHT e x < 0) (r:∀x∈S2,ZHT e x < 0):
  S1++e::S2=ZCg (R++[(k,q)]):=by
 have w:ZEV (R++[(k,q)])=ZEV R++[k]:=by grind[ZKl,ZIb]
 have m:=ZTL h;have s:En (R++[(k,q)]) k=e:=by grind[En,ZK8,ZMo,ZIW]
 have n:(ZEV R).map (En (R++[(k,q)]))=Zmp R:=by
  unfold Zmp;refine List.map_congr_left fun j l=> ?_
  rw[<-ZTj];unfold upd;rw[if_neg];rintro rfl;exact h l
 refine ZQq ?_ ?_
 ·have i:Zmp (R++[(k,q)])=Zmp R++[e]:=by show (ZEV (R++[(k,q)])).map (En (R++[(k,q)]))=_;simp_all
  rw[i];have u:(S1++S2).Perm (Zmp R):=f▸Zt8 _;grind
 ·have c:=ZMn R;rw[f,List.pairwise_append]at c;rw[List.pairwise_append,List.pairwise_cons];have o:∀x∈S1,ZHT x e<=0:=fun x g=>by grind[ZJF]
  refine⟨c.1.imp fun h=>Z3R h,⟨fun x g=>Z3R (r x g),c.2.1.imp fun h=>Z3R h⟩,fun a p b d=> ?_⟩;rcases List.mem_cons.1 d with rfl |d
  ·simp_all
  ·exact Z3R (c.2.2 a p b d)
end Go.Proofs
namespace Go.Proofs
open Go Eng
def ltS (a b:Str):Bool:=decide (Lib.compareBytes a b < 0)
def LtS (a b:Str):Prop:=Lib.compareBytes a b < 0
def kys (R:List (Str×Rat)):List Str:=ZtR ltS (ZEV R)
theorem LtS.trans {a b c:Str} (d:LtS a b) (e:LtS b c):LtS a c:=ZLa d e
theorem LtS.irr {a:Str} (h:LtS a a):False:=by grind[LtS,ZMN]
theorem LtS.asymm {a b:Str} (h:LtS a b) (c:LtS b a):False:=(h.trans c).irr
theorem ZLH {a b c:Str} (d:Lib.compareBytes a b<=0) (e:Lib.compareBytes b c<=0):Lib.compareBytes a c<=0:=by
 by_cases e1:Lib.compareBytes a b=0
 ·grind[ZJw]
 ·by_cases e2:Lib.compareBytes b c=0
  ·grind[ZJw]
  ·have:=ZLa (show Lib.compareBytes a b < 0 by omega) (show Lib.compareBytes b c < 0 by omega);omega
theorem ZTC {l:List Str} (h:l.Nodup):(ZtR ltS l).Pairwise LtS:=by
 have e:(ZtR ltS l).Pairwise fun a b=>Lib.compareBytes a b<=0:=by
  refine ZGK (fun _=>True) (fun a b=>Lib.compareBytes a b<=0) (fun x p _ _ h=> ?_) (fun x p _ _ h=> ?_) (fun a b c _ _ _ e d=>ZLH e d) _ fun _ _=>trivial
  ·have:=of_decide_eq_true h;omega
  ·have:=of_decide_eq_false h;grind[ZMc]
 have d:(ZtR ltS l).Nodup:=(Zt8 _).nodup_iff.2 h;rw[List.Nodup]at d;refine(e.and d).imp ?_;grind[LtS,ZJw]
theorem ZPr {A B:List Str} (a:A.Perm B) (c:A.Pairwise LtS) (e:B.Pairwise LtS):A=B:=
 ZI9 (fun _=>True) LtS (fun _ _ _ _ b d=>(b.asymm d).elim) (fun _ _=>trivial) a c e
theorem ZQT (R:List (Str×Rat)):(kys R).Pairwise LtS:=ZTC (ZJI R)
theorem ZLu {R:List (Str×Rat)} {k:Str}:k∈kys R<->k∈ZEV R:=(Zt8 _).mem_iff
theorem ZLv (R:List (Str×Rat)):(kys R).length<=R.length:=by grind[kys,Zu9,ZKm]
theorem ZTA {R:List (Str×Rat)} {i j:Nat} (a:i < j) (b:j < (kys R).length):LtS ((kys R)[i]'(by omega)) (kys R)[j]:=List.pairwise_iff_getElem.1 (ZQT R) i j (by omega) b a
def ens (R:List (Str×Rat)):List ZnM:=(kys R).map (En R)
theorem ZOe (R:List (Str×Rat)):(ens R).length=(kys R).length:=Z38 ..
theorem ZPv (K V:List G_api_Cell):(ZpJ K V).length<=K.length:=by grind[ZpJ]
theorem ZK9 {key value:G_api_Column} (l:Ztd key.Cells) (m:Ztd value.Cells) (n:key.Cells.length<=12) (q:key.Cells.length=value.Cells.length):
  Zwj key value=some (ens (ZpJ key.Cells value.Cells)):=by
 have e:ZtR ltK (ZME key.Cells value.Cells)=ens (ZpJ key.Cells value.Cells):=by
  generalize hR:ZpJ key.Cells value.Cells=R;have f:(ZtR ltK (ZME key.Cells value.Cells)).Perm (Zmp R):=by grind[Zt8,ZME]
  have j:∀e∈Zmp R,e=En R e.Key:=by intro e d;obtain⟨k,_,rfl⟩:=Z4f.1 d;rfl
  refine ZI9 (fun e=>e=En R e.Key) (fun a b:ZnM=>Lib.compareBytes a.Key b.Key<=0) (fun a b o r g i=> ?_) (fun e d=>j e (f.mem_iff.1 d)) (f.trans ((Zt8 (ZEV R)).map (En R)).symm) ?_ ?_
  ·grind[ZMc,ZJw]
  ·refine ZGK (fun _=>True) (fun a b:ZnM=>Lib.compareBytes a.Key b.Key<=0) (fun x p _ _ h=> ?_) (fun x p _ _ h=> ?_) (fun a b c _ _ _ g i=>ZLH (b:=b.Key) g i) _ fun _ _=>trivial
   ·have:Lib.compareBytes x.Key p.Key < 0:=of_decide_eq_true h;omega
   ·have:¬Lib.compareBytes x.Key p.Key < 0:=of_decide_eq_false h;grind[ZMc]
  ·unfold ens;rw[List.pairwise_map];exact(ZQT R).imp fun h=>Z3R h
 grind[Zwj,ZVc,ZR9,ZQW]
structure ZHB (R:List (Str×Rat)):Prop where
 dz:∀r∈R,Dz ZJ4 B24 r.2
 len:R.length<=8
theorem ZKQ {K V:List G_api_Cell} (h:K.length<=8):ZHB (ZpJ K V):=⟨ZQy,Z4k (ZPv K V) h⟩
theorem ZHB.sm {R:List (Str×Rat)} (h:ZHB R) (k:Str):Sz 100 (sm R k):=by have a:=h.len;have b:=(ZYb h.dz k 0 0 ((ZOf ZJ4).mono (Nat.zero_le _))).mono (show (0+R.length)*B24<=8*B24 from Z4l _ (by omega));grind[Dz.sz,Go.Proofs.sm]
theorem ZHB.mean {R:List (Str×Rat)} (h:ZHB R) {k:Str} (a:k∈ZEV R):Dz M0 B0 (ZIy R k):=ZU7 h.dz h.len a
theorem ZHB.cnt {R:List (Str×Rat)} (h:ZHB R) {k:Str} (a:k∈ZEV R):1<=cnt R k/\cnt R k<=8:=by have c:Go.Proofs.cnt R k<=R.length:=Z3W;obtain⟨r,b,e⟩:=ZMC.1 a;have d:0 < Go.Proofs.cnt R k:=List.countP_pos_iff.2 ⟨r,b,by grind⟩;have:=h.len;omega
theorem ZTG {n:Nat} (h:1<=n):Rat.divInt (n:Int) 1≠0:=by rw[ZHD];intro a;simp_all
theorem ZQP {R:List (Str×Rat)} (h:ZHB R) {k:Str} (hk:k∈ZEV R):∃c,ZIM (En R k).Count 1=some c/\ZHM (En R k).Sum c=some (fOf (ZIy R k)):=by obtain⟨h1,h2⟩:=h.cnt hk;refine⟨_,ZPa (cnt R k:Int) 1 (by decide) (by omega) (by omega) (by decide) (by decide), ?_⟩;exact ZNe (ZTG h1) (h.sm k) (ZGm (k:=5) (by decide) (by omega) (by decide)) (by decide)
def prs (A B:List (Str×Rat)):List (Rat×Rat):=((kys A).filter fun k=>decide (k∈ZEV B)).map fun k=>(ZIy A k,ZIy B k)
theorem ZMy {A B:List (Str×Rat)}:(prs A B).length<=A.length:=by grind[prs,ZLv]
theorem ZO4 {A B:List (Str×Rat)} (b:ZHB A) (c:ZHB B):DzL (prs A B):=by intro p a;obtain⟨k,e,rfl⟩:=Z4f.1 a;obtain⟨d,f⟩:=List.mem_filter.1 e;exact⟨b.mean (ZLu.1 d),c.mean (of_decide_eq_true f)⟩
def prK (A B:List (Str×Rat)) (i:Nat):List (Rat×Rat):=(((kys A).take i).filter fun k=>decide (k∈ZEV B)).map fun k=>(ZIy A k,ZIy B k)
theorem ZSn {A B:List (Str×Rat)} {i:Nat} (hi:i < (kys A).length):prK A B (i+1)=prK A B i++if (kys A)[i]∈ZEV B then [(ZIy A (kys A)[i],ZIy B (kys A)[i])]else []:=by
 grind[prK,Z4i]
theorem ZUP (A B:List (Str×Rat)) (i:Nat):(prK A B i).length<=i:=by grind[prK]
theorem ZUC {B:List (Str×Rat)} (q:B.length<=8) {e:ZnM} {b:Nat} (c:b<=(kys B).length) (d:∀j (h:j < (kys B).length),j < b->LtS (kys B)[j] e.Key) (L:List ZnM) (n i:Int) (o:List ZnV):
  wp (Zt7 big (ens B) (b:Int) L n i o e) (fun x=>∃k:Nat,x=(ens B,(k:Int),L,n,i,o,e)/\k<=(kys B).length/\(∀j (h:j < (kys B).length),j < k->LtS (kys B)[j] e.Key)/\∀h:k < (kys B).length,¬LtS (kys B)[k] e.Key):=by
 have t:=ZLv B;have s:=ZOe B;refine Zpm ZIk (fun k:Nat=>(ens B,(k:Int),L,n,i,o,e)) (fun k=>k<=(kys B).length/\∀j (h:j < (kys B).length),j < k->LtS (kys B)[j] e.Key) (fun k=>(kys B).length - k) b ⟨c,d⟩ (by omega) ?_;rintro g k ⟨p,r⟩ m;unfold ZFn ZCc ZAn;dsimp only
 by_cases hlt:k < (kys B).length
 ·have a:k < (ens B).length:=by omega
  have f:(ens B)[k]=En B (kys B)[k]:=Z31 ..;rw[decide_eq_true (show (k:Int) < ((ens B).length:Int) by omega),cond_true,Zqc a,Z4m,f,ZSW]
  by_cases hc:LtS (kys B)[k] e.Key
  ·rw[show decide (Lib.compareBytes (En B (kys B)[k]).Key e.Key < 0)=true from decide_eq_true hc,cond_true,ZnO];refine⟨ZnS (by omega),m (k+1) ⟨by omega,fun j h l=> ?_⟩ (by omega)⟩
   grind
  ·rw[show decide (Lib.compareBytes (En B (kys B)[k]).Key e.Key < 0)=false from decide_eq_false hc,cond_false,ZnL];grind
 grind[ZnL]
theorem ZNt {A B:List (Str×Rat)} (D:ZHB A) (E:ZHB B):Zz4 (ens A) (ens B)=some ((prs A B).map fP):=by
 have K:=D.len;have s:=E.len;have L:=ZLv A;have H:=ZLv B;have W:=ZOe A;have U:=ZOe B;refine Zps ?_;unfold Zz4 ZC7;rw[ZnN];refine ZnU (Zr6 ZIl (ens A) (by omega) (fun i (t:Nat×List ZnV)=>(ens B,(t.1:Int),ens A,((ens A).length:Int),i,t.2))
  (fun i t=>t.1<=(kys B).length/\t.2=(prK A B i).map fP/\∀j (h:j < (kys B).length),j < t.1->∀a (b:a < (kys A).length),i<=a->LtS (kys B)[j] (kys A)[a]) (Q:=fun x=>x=(prs A B).map fP) (0,[]) ⟨Nat.zero_le _,by simp[prK],fun j h b=>by omega⟩ ?_ ?_) fun x T=>by grind[ZnL]
 ·rintro n i ⟨X,o⟩ r ⟨d,y,C⟩ m;dsimp only at d y C m;have hi:i < (kys A).length:=by omega
  have J:(ens A)[i]=En A (kys A)[i]:=Z31 ..;have q:(kys A)[i]∈ZEV A:=ZLu.1 (Z32 hi);have N:=ZUP A B i;rw[ZSn hi]at m;unfold ZCd Zyb;dsimp only;rw[decide_eq_true (show (i:Int) < ((ens A).length:Int) by omega),cond_true,Zqc r,Z4m,ZnN,J];refine ZnU (ZUC s (e:=En A (kys A)[i]) d (fun j h b=>C j h b i hi (Z4j _)) (ens A) ((ens A).length:Int) (i:Int) o) ?_;rintro _ ⟨k,rfl,F,z,p⟩;have l:∀j (h:j < (kys B).length),j < k->∀a (b:a < (kys A).length),i+1<=a->LtS (kys B)[j] (kys A)[a]:=fun j h b a P V=>(z j h b).trans (ZTA (by omega) P)
  unfold ZC8 ZAm ZAl;dsimp only;have skip:(kys A)[i]∉ZEV B->wp (chk (inK .i64 ((i:Int)+1)) (n (ens B,(k:Int),ens A,((ens A).length:Int),(i:Int)+1,o))) (fun x=>x=(prs A B).map fP):=by intro w;rw[ZnO];exact⟨ZnS (by omega),m (k,o) ⟨F,by simp_all,l⟩⟩
  have u:(∀h:k < (kys B).length,(kys B)[k]≠(kys A)[i])->(kys A)[i]∉ZEV B:=by
   intro R w;obtain⟨j,c,e⟩:=List.getElem_of_mem (ZLu.2 w);rcases Nat.lt_trichotomy j k with h |h |h
   ·exact(e▸z j c h:LtS (kys A)[i] (kys A)[i]).irr
   ·simp_all
   ·exact p (by omega) (by have:=ZTA h c;rw[e]at this;exact this)
  by_cases hlt:k < (kys B).length
  ·have f:k < (ens B).length:=by omega
   have v:(ens B)[k]=En B (kys B)[k]:=Z31 ..;rw[decide_eq_true (show (k:Int) < ((ens B).length:Int) by omega),cond_true,Zqc f,Z4m,v]
   by_cases hc:(kys B)[k]=(kys A)[i]
   ·have g:(kys A)[i]∈ZEV B:=hc▸ZLu.1 (Z32 hlt);obtain⟨S,M,O⟩:=ZQP D q;obtain⟨Y,I,G⟩:=ZQP E g;rw[hc,show ((En B (kys A)[i]).Key == (En A (kys A)[i]).Key)=true from beq_self_eq_true (kys A)[i],cond_true,M,Z4m,O,Z4m,Z4m,Z4m,I,Z4m,G,Z4m,ZnO,ZnO];refine⟨ZsS (by grind),ZnS (by omega),m (k,_) ⟨F, ?_,l⟩⟩;dsimp only;rw[if_pos g,y,Z4e];rfl
   grind[En]
  grind
 grind[ZCd,Zyb,ZnL,prK,prs]
end Go.Proofs
namespace Go.Proofs
open Go Eng
theorem ZOQ (e:ZnM):∀{l:List ZnM},l.Pairwise Lt->∃S1 S2,l=S1++S2/\(∀x∈S1,¬ZHT e x < 0)/\∀x∈S2,ZHT e x < 0
 | [],_=>⟨[],[],rfl,by simp,by simp⟩
 |x::l,h=>by
  rw[List.pairwise_cons]at h
  by_cases hc:ZHT e x < 0
  ·refine⟨[],x::l,rfl,by simp,fun y a=> ?_⟩;rcases List.mem_cons.1 a with rfl |a
   ·omega
   ·exact ZL3 hc (h.1 y a)
  ·obtain⟨S1,S2,c,d,b⟩:=ZOQ e h.2;grind
theorem ZJB (R:List (Str×Rat)):(ZCg R).length<=R.length:=by grind[ZCg,Zu9,Zmp,ZKm]
theorem ZUM {k:Str} {q:Rat} {R:List (Str×Rat)} (K:∀r∈R,Sz 80 r.2) (L:Sz 80 q) (J:R.length<=60) (h:k∈ZEV R):Zsz (ZCg R) ⟨k,ZHZ k,1,fOf q⟩=some (ZCg (R++[(k,q)])):=by
 have A:=ZJB R;have a:∀x∈ZCg R,x=En R x.Key:=fun x m=>by obtain⟨j,_,rfl⟩:=ZK3.1 m;rfl
 obtain⟨p,f,w⟩:∃p,∃f:p < (ZCg R).length,(ZCg R)[p].Key=k:=by obtain⟨p,f,e⟩:=List.getElem_of_mem (ZK3.2 ⟨k,h,rfl⟩);exact⟨p,f,by rw[e];rfl⟩
 have g:=ZMn R;rw[<-ZR5 h];generalize hl:ZCg R=l at*
 refine Zps ?_;unfold Zsz;rw[ZnN];have I:l.length<=60:=by omega
 refine ZnU (Zr6 ZDl l (by omega) (fun i (t:Bool×List ZnM)=>(t.1,l,(l.length:Int),i,ZnM.mk k (ZHZ k) 1 (fOf q),t.2))
  (fun i t=>t.2=(l.take i).map (upd k q R)/\t.1=decide (p < i)) (Q:=fun x=>x=(true,ZnM.mk k (ZHZ k) 1 (fOf q),l.map (upd k q R))) (false,[]) ⟨rfl,rfl⟩ ?_ ?_) ?_
 ·rintro s i ⟨c,b⟩ hi ⟨D,C⟩ z;dsimp only at D C z;have F:l.take (i+1)=l.take i++[l[i]]:=Z4i hi;have G:b.length=i:=by grind
  unfold Zs0 Zrm Zuj;dsimp only;have E:∀(d:Bool) (x:ZnM),x=upd k q R l[i]->d=decide (p < i+1)->wp (Zp3 (fun c H u v e b=>s (c,H,u,v,e,b)) d l (l.length:Int) (i:Int) (ZnM.mk k (ZHZ k) 1 (fOf q)) b x) (fun x=>x=(true,ZnM.mk k (ZHZ k) 1 (fOf q),l.map (upd k q R))):=by intro d x m y;unfold Zp3;rw[ZnO,ZnO];refine⟨ZsS (by grind),ZnS (by omega),z (d,b++[x]) ⟨?_,y⟩⟩;grind
  rw[decide_eq_true (show (i:Int) < (l.length:Int) by omega),cond_true,Zqc hi,Z4m];have m:=a _ (Z32 hi)
  by_cases hk:l[i].Key=k
  ·have n:i=p:=by
    rcases Nat.lt_trichotomy i p with o |o |o
    ·have:=ZU9 g o f;rw[ZNa (by grind) (by rw[m];rfl) (by rw[a _ (Z32 f)];rfl)]at this;omega
    ·omega
    ·have:=ZU9 g o hi;rw[ZNa (by grind) (by rw[a _ (Z32 f)];rfl) (by rw[m];rfl)]at this;omega
   grind[cnt,ZTp,En,ZnO,ZJL,ZnS,upd]
  ·have B:l[i]=upd k q R l[i]:=by grind[upd]
   rw[show (l[i].Key == k)=false by grind,cond_false]
   by_cases hpi:p < i
   ·grind
   ·have n:i < p:=by
     grind
    have o:=ZU9 g n f;have M:ZHT (ZnM.mk k (ZHZ k) 1 (fOf q)) l[i]=ZHT l[p] l[i]:=ZKy w.symm rfl (by rw[a _ (Z32 f)];rfl);grind[ZJF,ZLI]
 all_goals grind[Zs0,Zrm,ZnL,Zxl,Zui]
theorem ZUN {k:Str} {q:Rat} {R:List (Str×Rat)} (hn:R.length<=60) (h:k∉ZEV R):Zsz (ZCg R) ⟨k,ZHZ k,1,fOf q⟩=some (ZCg (R++[(k,q)])):=by
 have hlen:=ZJB R;have hmem:∀x∈ZCg R,x.Key≠k:=fun x hx e=>by obtain⟨j,hj,rfl⟩:=ZK3.1 hx;exact h (e▸hj)
 obtain⟨e,he⟩:∃e:ZnM,e=⟨k,ZHZ k,1,fOf q⟩:=⟨_,rfl⟩;obtain⟨S1,S2,hS,h1,h2⟩:=ZOQ e (ZMn R);rw[<-ZR6 h hS he h1 h2,<-he];have hek:e.Key=k:=by rw[he]
 rw[hS]at hmem hlen|-
 refine Zps ?_;unfold Zsz;rw[ZnN];obtain⟨l,hl⟩:∃l,l=S1++S2:=⟨_,rfl⟩;rw[<-hl]at hmem hlen|-
 have hll:l.length=S1.length+S2.length:=by simp_all
 refine ZnU (Zr6 ZDl l (by omega) (fun i (t:Bool×List ZnM)=>(t.1,l,(l.length:Int),i,e,t.2))
  (fun i t=>t=if i<=S1.length then (false,l.take i)else (true,S1++e::S2.take (i - S1.length))) (Q:=fun x=>x=if S2=[]then (false,e,S1)else (true,e,S1++e::S2)) (false,[]) (by simp_all) ?_ ?_) ?_
 ·rintro rec i t hi ht ih;unfold Zs0 Zrm Zuj;dsimp only;have nxt:∀(d:Bool) (out:List ZnM),out.length<=100->(d,out++[l[i]])=(if i+1<=S1.length then (false,l.take (i+1))else (true,S1++e::S2.take (i+1 - S1.length)))->wp (Zp3 (fun done t9 t10 t11 e out=>rec (done,t9,t10,t11,e,out)) d l (l.length:Int) (i:Int) e out l[i]) (fun x=>x=if S2=[]then (false,e,S1)else (true,e,S1++e::S2)):=by grind[Zp3,ZnO,ZsS,ZnS]
  have hk:=hmem _ (Z32 hi);rw[decide_eq_true (show (i:Int) < (l.length:Int) by omega),cond_true,Zqc hi,Z4m,show (l[i].Key == e.Key)=false by simp_all,cond_false]
  by_cases hc:i < S1.length
  ·grind[ZLI,Z4i]
  ·have hi2:i - S1.length < S2.length:=by omega
   have hg:l[i]=S2[i - S1.length]:=by simp_all
   have htk:S2.take (i+1 - S1.length)=S2.take (i - S1.length)++[l[i]]:=by rw[show i+1 - S1.length=(i - S1.length)+1 by omega,Z4i hi2,hg]
   by_cases hc2:i=S1.length
   ·rw[if_pos (by omega)]at ht;grind[ZLI,ZnO,ZsS]
   grind
 ·rintro rec t ht;unfold Zs0 Zrm;dsimp only;rw[decide_eq_false (show ¬(l.length:Int) < (l.length:Int) by omega),cond_false,ZnL,ht]
  by_cases h0:S2=[]
  ·simp_all
  grind[Z4h]
 ·rintro _ rfl;unfold Zxl Zui
  grind[ZnO,ZnL,ZsS]
theorem ZYt {k:Str} {q:Rat} {R:List (Str×Rat)} (hR:∀r∈R,Sz 80 r.2) (hq:Sz 80 q) (hn:R.length<=60):Zsz (ZCg R) ⟨k,ZHZ k,1,fOf q⟩=some (ZCg (R++[(k,q)])):=by
 grind[ZUM,ZUN]
theorem ZPe {key value:G_api_Column} (g:Ztd key.Cells) (h:Ztd value.Cells) (o:key.Cells.length<=40) (l:key.Cells.length=value.Cells.length):
  ZvM key value=some (ZME key.Cells value.Cells):=by
 refine Zps ?_;unfold ZvM;rw[ZnN];refine ZnU (Zr6 ZGS key.Cells (by omega) (fun i (a:List ZnM)=>(key.Cells,(key.Cells.length:Int),i,value,a)) (fun k a=>a=ZCg (ZpJ (key.Cells.take k) (value.Cells.take k))) (Q:=fun x=>x=ZME key.Cells value.Cells) [] rfl ?_ ?_) ?_
 ·rintro d k a f rfl m;have c:k < value.Cells.length:=by omega
  have j:(ZpJ (key.Cells.take k) (value.Cells.take k)).length<=k:=by grind[ZpJ]
  have e:∀r∈ZpJ (key.Cells.take k) (value.Cells.take k),Sz 80 r.2:=ZM4;have b:ZpJ (key.Cells.take (k+1)) (value.Cells.take (k+1))=ZpJ (key.Cells.take k) (value.Cells.take k)++(ZJd (key.Cells[k],value.Cells[k])).toList:=by unfold ZpJ;rw[Z4i f,Z4i c,List.zip_append (by simp_all),List.filterMap_append];congr 1
  rw[b]at m;unfold ZyS Zvf Zww Zwv;dsimp only;rw[decide_eq_true (show (k:Int) < (key.Cells.length:Int) by omega),cond_true,Zqc f,Z4m,Zqc c,Z4m,ZM6 (h _ (Z32 c)),Z4m];have skip:ZJd (key.Cells[k],value.Cells[k])=none->wp (chk (inK .i64 ((k:Int)+1)) <| d (key.Cells,(key.Cells.length:Int),(k:Int)+1,value,ZCg (ZpJ (key.Cells.take k) (value.Cells.take k)))) (fun x=>x=ZME key.Cells value.Cells):=by grind[ZnO,ZnS]
  cases hnull:key.Cells[k].Null with
  |true=>
   grind[ZJd]
  |false=>
   cases hv:ZKV value.Cells[k]with
   |none=>
    grind[ZJd]
   |some q=>
    have n:ZJd (key.Cells[k],value.Cells[k])=some (key.Cells[k].Text,q):=by grind[ZJd]
    dsimp only;rw[cond_false,Z3Q,cond_false,ZPy (g _ (Z32 f)),Z4m,ZYt e (ZMM hv) (by omega),Z4m,ZnO];grind[ZnS]
 ·rintro d a rfl;unfold ZyS Zvf;dsimp only;rw[decide_eq_false (show ¬(key.Cells.length:Int) < (key.Cells.length:Int) by omega),cond_false,ZnL,Z4g,l,Z4g];rfl
 grind[ZAB,ZnL]
end Go.Proofs
namespace Go.Proofs
open Go Eng
theorem ZQ0 {a:Type} {lt:a->a->Bool} (x:a) (A1:List a) (c:∀B p,A1=B++[p]->lt x p=false):∀(n:Nat) (A2:List a),A2.length=n->(∀y∈A2,lt x y=true)->ZJ6 lt x (A1++A2)=A1++x::A2:=by
 intro n
 induction n with
 |zero=>
  intro A2 b _;obtain rfl:=Z3X b;rw[Z3U];rcases Z3Y A1 with rfl |⟨B,p,rfl⟩
  ·rfl
  grind[ZJm]
 |succ n d=>
  intro A2 b e;rcases Z3Y A2 with rfl |⟨C,y,rfl⟩
  ·grind
  ·rw[Z3V]at*
   grind[ZJm]
def hks (R:List (Str×Rat)):List Str:=(ZCg R).map (·.Key)
theorem ZR7 (R:List (Str×Rat)):ZCg R=(hks R).map (En R):=by
 unfold hks;rw[List.map_map]
 conv=>lhs;rw[<-List.map_id (ZCg R)]
 refine List.map_congr_left fun e a=> ?_
 obtain⟨k,_,rfl⟩:=ZK3.1 a;rfl
theorem ZMG (R:List (Str×Rat)):(hks R).Perm (ZEV R):=by have a:((ZCg R).map (·.Key)).Perm ((Zmp R).map (·.Key)):=(Zt8 _).map _;unfold Zmp at a;rw[List.map_map]at a;have:((fun e:ZnM=>e.Key)∘En R)=id:=rfl;rw[this,List.map_id]at a;exact a
theorem ZNo (R:List (Str×Rat)):(hks R).Nodup:=(ZMG R).nodup_iff.2 (ZJI R)
theorem ZLB {R:List (Str×Rat)} {k:Str}:k∈hks R<->k∈ZEV R:=(ZMG R).mem_iff
theorem ZIo {R:List (Str×Rat)}:(hks R).length=(ZCg R).length:=Z38 ..
theorem ZPf {R:List (Str×Rat)} {i:Nat} (h:i < (ZCg R).length):(ZCg R)[i]=En R ((hks R)[i]'(by grind[ZIo])):=by
 grind[ZR7]
theorem ZSE {l:List Str} (h:l.Nodup) {i:Nat} (hi:i < l.length):l[i]∉l.take i:=by intro a;have b:(l.take (i+1)).Nodup:=List.Nodup.sublist (List.take_sublist _ _) h;grind[Z4i]
theorem ZNg {R:List (Str×Rat)} (h:ZHB R) {k:Str} (hk:k∈ZEV R):ZvN (En R k)=some (fOf (ZIy R k)):=by
 obtain⟨h1,h2⟩:=h.cnt hk;have hn:=ZTG h1;have hz:Sz 5 (Rat.divInt (cnt R k:Int) 1):=ZGm (k:=5) (by decide) (by omega) (by decide);unfold ZvN ZIy;rw[ZHD]at hn hz|-
 show ((Zod (cnt R k:Int)).bind fun q=>(ZsA (fOf (sm R k)) q).bind fun q_1=>some q_1)=_;rw[ZHA _ (by omega) (by omega),Z4m,ZMK hn (h.sm k) hz (by decide),Z4m]
theorem Z1U (k x:Str):(!(Op.bytesLess k x||k == x))=ltS x k:=by
 grind[ltS,ZSW,ZMc,ZJw]
theorem Z1t {K:List Str} (o:K.length<=100) (g f c d:Int) (a b:List ZnM) (e:ZnM):
  wp (Zrk big (K.length:Int) g f c d a b K e) (fun x=>∃i:Nat,x=((i:Int),g,f,c,d,a,b,K,e)/\i<=K.length/\(∀j (l:j < K.length),i<=j->ltS e.Key K[j]=true)/\∀l:i - 1 < K.length,0 < i->ltS e.Key K[i - 1]=false):=by
 refine Zpm ZGr (fun i:Nat=>((i:Int),g,f,c,d,a,b,K,e)) (fun i=>i<=K.length/\∀j (l:j < K.length),i<=j->ltS e.Key K[j]=true) (fun i=>i) K.length ⟨Z4j _,fun j h r=>by omega⟩ (by omega) ?_;rintro m i ⟨n,q⟩ p;unfold ZCL Zyj ZvL;dsimp only
 by_cases hi:0 < i
 ·have k:i - 1 < K.length:=by omega
  rw[decide_eq_true (show (i:Int) > 0 by omega),cond_true,ZnO,ZnO,show (i:Int) - 1=((i - 1:Nat):Int) by omega,Z3T,Z3Z k,Z4m,Z1U];grind[ZnS,ZoI,ZnO,ZnL]
 grind[ZnL]
theorem Z1u {B:List (Str×Rat)} (w:B.length<=8) {K0:List Str} (r:K0.length<=50) (b c:Int) (a:List ZnM) (e:ZnM):
  wp (Zqj big b c ((ZCg B).length:Int) 0 a (ZCg B) K0 e) (fun x=>x=(b,c,a,ZCg B,if e.Key∈ZEV B then ZJ6 ltS e.Key K0 else K0)):=by
 have t:=ZJB B;refine Zr6 ZGs (ZCg B) (by omega) (fun i (K:List Str)=>(b,c,((ZCg B).length:Int),i,a,ZCg B,K,e)) (fun i K=>K=if e.Key∈(hks B).take i then ZJ6 ltS e.Key K0 else K0) K0 (by simp) ?_ ?_
 ·rintro k i K hi g j;have f:i < (hks B).length:=by grind[ZIo]
  rw[Z4i f]at j;unfold Zyk ZuD;dsimp only;rw[decide_eq_true (show (i:Int) < ((ZCg B).length:Int) by omega),cond_true,ZnO,Z3T,Z3Z hi,Z4m,ZPf hi];refine⟨ZoI (by omega), ?_⟩
  by_cases hk:(hks B)[i]=e.Key
  ·have d:e.Key∉(hks B).take i:=hk▸ZSE (ZNo B) f;rw[if_neg d]at g;subst g;rw[show ((En B (hks B)[i]).Key == e.Key)=true from beq_iff_eq.2 hk,Z3Q,cond_false,ZnN];refine ZnU (Z1t (by omega) b c ((ZCg B).length:Int) (i:Int) a (ZCg B) e) ?_;rintro _ ⟨m,rfl,z,A,u⟩;dsimp only;unfold ZzA ZsZ;have o:(K.take (m:Int).toNat).length<=1000:=by grind
   have s:(K.drop (m:Int).toNat).length<=1000:=by grind
   rw[Zpc (by omega),chk_true,List.drop_zero,Nat.sub_zero,ZsS (by omega),chk_true,ZsS (by grind),chk_true,Zpc (by omega),chk_true,show (K.drop (m:Int).toNat).take ((K.length:Int).toNat - (m:Int).toNat)=K.drop (m:Int).toNat from Z4h (by simp_all),ZsS (by grind),chk_true,ZnO];refine⟨ZnS (by omega),j _ ?_⟩;rw[if_pos (by grind),Z3T];have q:=ZQ0 (lt:=ltS) e.Key (K.take m) (fun C p l=> ?_) _ (K.drop m) rfl (fun y v=> ?_)
   ·simp_all
   ·have h:=congrArg List.length l;rw[Z4c,Z33,Z4b]at h;have n:(K.take m)[C.length]? =some p:=by grind
    rw[List.getElem?_take,if_pos (by omega),Z3Z (by omega)]at n;grind
   grind[List.getElem_of_mem]
  ·rw[show ((En B (hks B)[i]).Key == e.Key)=false from beq_eq_false_iff_ne.2 hk,ZYu,cond_true];grind[ZsZ,ZnO,ZnS]
 grind[Zyk,ZuD,ZnL,ZIo,ZLB]
theorem Z1r {A:List (Str×Rat)} (f:ZHB A) (k:Str) (c a:Int) (b:List ZnM) (o:List ZnV) (q:ZnK) (d:List Str):
  wp (Zrj big k c a ((ZCg A).length:Int) 0 (ZCg A) b o ⟨zf,q⟩ d) (fun x=>x=(k,c,a,ZCg A,b,o,⟨if k∈ZEV A then fOf (ZIy A k)else zf,q⟩,d)):=by
 have n:=ZJB A;have g:=f.len;refine Zr6 ZGp (ZCg A) (by omega) (fun i (p:ZnV)=>(k,c,a,((ZCg A).length:Int),i,ZCg A,b,o,p,d)) (fun i p=>p=⟨if k∈(hks A).take i then fOf (ZIy A k)else zf,q⟩) ⟨zf,q⟩ (by simp) ?_ ?_
 ·rintro j i p hi m h;have e:i < (hks A).length:=by grind[ZIo]
  rw[Z4i e]at h;unfold Zyh ZuB ZvK;dsimp only;rw[decide_eq_true (show (i:Int) < ((ZCg A).length:Int) by omega),cond_true,ZnO,Z3T,Z3Z hi,Z4m,ZPf hi];refine⟨ZoI (by omega), ?_⟩
  by_cases hk:(hks A)[i]=k
  ·have l:(hks A)[i]∈ZEV A:=ZLB.1 (Z32 e);rw[show ((En A (hks A)[i]).Key == k)=true from beq_iff_eq.2 hk,cond_true,ZNg f l,Z4m,ZnO,ZnO];refine⟨by decide,ZnS (by omega),h _ ?_⟩;simp_all
  grind[En,ZnO,ZnS]
 grind[Zyh,ZuB,ZnL,ZIo,ZLB]
theorem Z1q {B:List (Str×Rat)} (f:ZHB B) (k:Str) (c b:Int) (a:List ZnM) (o:List ZnV) (q:ZnK) (d:List Str):
  wp (Zri big k c b ((ZCg B).length:Int) 0 a (ZCg B) o ⟨q,zf⟩ d) (fun x=>x=(c,b,a,ZCg B,o,⟨q,if k∈ZEV B then fOf (ZIy B k)else zf⟩,d)):=by
 have n:=ZJB B;have g:=f.len;refine Zr6 ZGo (ZCg B) (by omega) (fun i (p:ZnV)=>(k,c,b,((ZCg B).length:Int),i,a,ZCg B,o,p,d)) (fun i p=>p=⟨q,if k∈(hks B).take i then fOf (ZIy B k)else zf⟩) ⟨q,zf⟩ (by simp) ?_ ?_
 ·rintro j i p hi m h;have e:i < (hks B).length:=by grind[ZIo]
  rw[Z4i e]at h;unfold Zyg ZuA ZvJ;dsimp only;rw[decide_eq_true (show (i:Int) < ((ZCg B).length:Int) by omega),cond_true,ZnO,Z3T,Z3Z hi,Z4m,ZPf hi];refine⟨ZoI (by omega), ?_⟩
  by_cases hk:(hks B)[i]=k
  ·have l:(hks B)[i]∈ZEV B:=ZLB.1 (Z32 e);rw[show ((En B (hks B)[i]).Key == k)=true from beq_iff_eq.2 hk,cond_true,ZNg f l,Z4m,ZnO,ZnO];refine⟨by decide,ZnS (by omega),h _ ?_⟩;simp_all
  grind[En,ZnO,ZnS]
 grind[Zyg,ZuA,ZnL,ZIo,ZLB]
theorem Z1s {A B:List (Str×Rat)} (e:ZHB A) (g:ZHB B) {K:List Str} (l:K.length<=50) (j:∀k∈K,k∈ZEV A/\k∈ZEV B):
  wp (Zqi big (K.length:Int) 0 (ZCg A) (ZCg B) [] K) (fun x=>x=(K.map fun k=>(ZIy A k,ZIy B k)).map fP):=by
 refine Zr6 ZGq K (by omega) (fun i (o:List ZnV)=>((K.length:Int),i,ZCg A,ZCg B,o,K)) (fun i o=>o=((K.take i).map fun k=>(ZIy A k,ZIy B k)).map fP) [] rfl ?_ ?_
 ·rintro d i o hi c a;obtain⟨b,f⟩:=j _ (Z32 hi);rw[Z4i hi,Z4e,Z4e,<-c]at a;have h:o.length<=50:=by grind
  unfold Zyi ZuC;dsimp only;rw[decide_eq_true (show (i:Int) < (K.length:Int) by omega),cond_true,ZnO,Z3T,Z3Z hi,Z4m,ZnN];refine⟨ZoI (by omega),ZnU (Z1r e K[i] (K.length:Int) (i:Int) (ZCg B) o zf K) ?_⟩;rintro _ rfl;dsimp only;unfold Zzx;rw[ZnN];refine ZnU (Z1q g K[i] (K.length:Int) (i:Int) (ZCg A) o _ K) ?_;rintro _ rfl;dsimp only;unfold Zzw;rw[ZnO,ZnO,if_pos b,if_pos f];exact⟨ZsS (by grind),ZnS (by omega),a _ rfl⟩
 grind[Zyi,ZuC,ZnL]
theorem ZQV (A B:List (Str×Rat)):ZtR ltS ((hks A).filter fun k=>decide (k∈ZEV B))=(kys A).filter fun k=>decide (k∈ZEV B):=by refine ZPr ?_ (ZTC ((ZNo A).sublist List.filter_sublist)) ((ZQT A).sublist List.filter_sublist);refine(Zt8 _).trans ?_;exact((ZMG A).trans (Zt8 (lt:=ltS) (ZEV A)).symm).filter _
theorem ZM3 {b a c d:G_api_Column} (w:Ztd b.Cells) (y:Ztd a.Cells) (q:Ztd c.Cells) (t:Ztd d.Cells) (v:b.Cells.length<=8) (r:c.Cells.length<=8) (o:b.Cells.length=a.Cells.length) (p:c.Cells.length=d.Cells.length):
  ZuQ b a c d=some ((prs (ZpJ b.Cells a.Cells) (ZpJ c.Cells d.Cells)).map fP):=by
 refine Zps ?_;unfold ZuQ;rw[ZPe w y (by omega) o,Z4m,ZPe q t (by omega) p,Z4m];show wp ((Zrl big ((ZCg (ZpJ b.Cells a.Cells)).length:Int) 0 (ZCg (ZpJ b.Cells a.Cells)) (ZCg (ZpJ c.Cells d.Cells)) []).bind _) _;have g:=ZKQ (V:=a.Cells) v;have h:=ZKQ (V:=d.Cells) r;generalize ZpJ b.Cells a.Cells=A at g;generalize ZpJ c.Cells d.Cells=B at h;have u:=ZJB A;have s:=g.len;rw[ZnN];refine ZnU (Zr6 ZGt (ZCg A) (by omega) (fun i (K:List Str)=>(((ZCg A).length:Int),i,ZCg A,ZCg B,K)) (fun i K=>K=ZtR ltS (((hks A).take i).filter fun k=>decide (k∈ZEV B))) (Q:=fun x=>x=(ZCg A,ZCg B,(kys A).filter fun k=>decide (k∈ZEV B))) [] rfl ?_ ?_) ?_
 ·rintro e i K hi j l;have f:i < (hks A).length:=by grind[ZIo]
  have n:K.length<=i:=by grind[Zu9]
  rw[Z4i f,List.filter_append]at l;unfold Zyl ZuE;dsimp only;rw[decide_eq_true (show (i:Int) < ((ZCg A).length:Int) by omega),cond_true,ZnO,Z3T,Z3Z hi,Z4m,ZnN,ZPf hi];refine⟨ZoI (by omega),ZnU (Z1u h.len (by omega) ((ZCg A).length:Int) (i:Int) (ZCg A) (En A (hks A)[i])) ?_⟩;rintro _ rfl;dsimp only;unfold Zzz;rw[ZnO];refine⟨ZnS (by omega),l _ ?_⟩;grind[En,ZIz]
 ·rintro e K j;unfold Zyl ZuE;dsimp only;rw[decide_eq_false (show ¬((ZCg A).length:Int) < ((ZCg A).length:Int) by omega),cond_false,ZnL,j,<-ZIo,Z4g,ZQV]
 ·rintro _ rfl;dsimp only;unfold Zzy ZyR;have m:=ZLv A;rw[ZnN];refine ZnU (Z1s g h (K:=(kys A).filter fun k=>decide (k∈ZEV B)) (Z4k (Z37 _ _) (by omega)) (fun k z=> ?_)) ?_
  ·grind[ZLu]
  ·rintro _ rfl;rw[ZnL];rfl
end Go.Proofs
namespace Go.Proofs
open Go Eng
theorem ZUI {l:List (Rat×Rat)} {p:Rat×Rat} (e:l.length<=12) (h:DzL l) (d:DzP p):Zz9 (mR l) (fP p).e0 (fP p).e1=some (mR (l++[p])):=by have c:=ZLh e h;obtain⟨a,b⟩:=szP d;unfold Zz9 mR fP;dsimp only;rw[ZnS (by omega),chk_true,ZJL (dz1 c.x) a (by decide),Z4m,ZJL (dz1 c.y) b (by decide),Z4m,ZGj a a (by decide),Z4m,ZJL (dz2 c.xx) (a.mul a) (by decide),Z4m,ZGj b b (by decide),Z4m,ZJL (dz2 c.yy) (b.mul b) (by decide),Z4m,ZGj a b (by decide),Z4m,ZJL (dz2 c.xy) (a.mul b) (by decide),Z4m];grind[ZN1]
theorem ZYf {l:List (Rat×Rat)} (D:l.length<=12) (h:DzL l):ZAX (l.map fP)=some (mR l):=by
 refine Zps ?_;unfold ZAX;rw[ZJ7,ZnN,ZnL,ZnN,Z38];refine ZnU (Zva ZHI l.length (by omega) (fun i (m:Zn0)=>(l.map fP,(l.length:Int),i,0,false,false,false,false,false,false,false,false,false,false,m,[],[],[],[],[],[],[],[],[],[])) (fun i m=>m=mR (l.take i)) (Q:=fun y=>∃a0 j o d e t k s f c a w z g u x q n v r b,y=(a0,j,o,d,e,t,k,s,f,c,a,mR l,w,z,g,u,x,q,n,v,r,b)) (mR []) rfl ?_ ?_) ?_
 ·rintro A i m hi rfl C;unfold ZAA Zwu;dsimp only;rw[Zn1];refine⟨fun _=> ?_,fun h=>by grind⟩;rw[Zqc (by grind),ZnN,ZnL,ZnO,ZnO,Z31,ZUI (by grind) (fun p B=>h p (List.mem_of_mem_take B)) (h _ (Z32 hi)),ZnN,ZnL,ZnO];refine⟨by decide,by decide,ZnS (by omega),C _ ?_⟩;rw[Z4i hi]
 ·grind[ZAA,Zwu,ZnL]
 ·rintro y ⟨a0,j,o,d,e,t,k,s,f,c,a,w,z,g,u,x,q,n,v,r,b,rfl⟩;exact ZnL.2 rfl
theorem ZSN {c u v:Rat} (b:u≠0) (a:v≠0):c / u*(c / v)=c*c / (u*v):=by grind
theorem ZPu {l:List (Rat×Rat)} (t:l.length<=12) (h:DzL l):Zxi (mR l)=some (sqR l):=by
 have i:=ZLh t h;obtain⟨j,m,o⟩:=ZRc t h;have g:=ZTn (n:=l.length) (by omega);have k:cR l=Rat.divInt (l.length:Int) 1*sR (fun p=>p.1*p.2) l - sR (fun p=>p.1) l*sR (fun p=>p.2) l:=rfl;have q:uR l=Rat.divInt (l.length:Int) 1*sR (fun p=>p.1*p.1) l - sR (fun p=>p.1) l*sR (fun p=>p.1) l:=rfl;have r:vR l=Rat.divInt (l.length:Int) 1*sR (fun p=>p.2*p.2) l - sR (fun p=>p.2) l*sR (fun p=>p.2) l:=rfl;rw[ZHD]at g k q r;have b:=dz1 i.x;have e:=dz1 i.y;have f:=dz2 i.xx;have a:=dz2 i.yy;have d:=dz2 i.xy;have s:∀c u v,ZpS true false false c u v (fOf 0) [] []=some (fOf 0,0,false):=fun c u v=>by grind[ZpS,ZJ7]
 unfold Zxi mR sqR sqN scR;dsimp only;rw[ZHA _ (by omega) (by omega),Z4m,ZGj g d (by decide),Z4m,ZGj b e (by decide),Z4m,ZMm (g.mul d) (b.mul e) (by decide),Z4m,ZGj g f (by decide),Z4m,ZGj b b (by decide),Z4m,ZMm (g.mul f) (b.mul b) (by decide),Z4m,ZGj g a (by decide),Z4m,ZGj e e (by decide),Z4m,ZMm (g.mul a) (e.mul e) (by decide),Z4m,ZJ7,Z4m,<-k,<-q,<-r];clear k q r b e f a d i;generalize cR l=c at*
 generalize uR l=u at*
 generalize vR l=v at*
 by_cases h0:l.length < 3
 ·grind
 ·rw[decide_eq_false (by omega),cond_false,ZHG _ _ (m.wq (by decide)) (ZKw.wq (by decide)),Z4m]
  by_cases hu:u=0
  ·simp_all
  ·rw[decide_eq_false hu,cond_false,ZHG _ _ (o.wq (by decide)) (ZKw.wq (by decide)),Z4m]
   by_cases hv:v=0
   ·simp_all
   ·rw[decide_eq_false hv,if_neg (by simp_all)];unfold ZpS;rw[cond_false,ZMK hu j m (by decide),Z4m,ZMK hv j o (by decide),Z4m,ZGj (Sz.div hu j m) (Sz.div hv j o) (by decide),Z4m,ZRg (j.wq (by decide)) (ZKw.wq (by decide)),Z4m,ZSN hu hv]
def ln:List (Rat×Rat):=[(1,2),(2,4),(3,6)]
theorem ZPO {n:Nat} (h:n<=10):Dz M0 B0 ((n:Int):Rat):=⟨(n:Int)*M0,by simp_all,by grind⟩
theorem ZVa:Zy8=some (ln.map fP):=by unfold Zy8;rw[ZHA 1 (by decide) (by decide),Z4m,ZHA 2 (by decide) (by decide),Z4m,Z4m,ZHA 4 (by decide) (by decide),Z4m,ZHA 3 (by decide) (by decide),Z4m,ZHA 6 (by decide) (by decide),Z4m];rfl
theorem ZLJ:Zrx=some true:=by
 have a:DzL ln:=fun p c=>by
  simp only[ln,List.mem_cons,List.not_mem_nil,or_false]at c;rcases c with rfl |rfl |rfl
  ·exact⟨ZPO (n:=1) (by decide),ZPO (n:=2) (by decide)⟩
  ·exact⟨ZPO (n:=2) (by decide),ZPO (n:=4) (by decide)⟩
  ·exact⟨ZPO (n:=3) (by decide),ZPO (n:=6) (by decide)⟩
 have d:sqR ln=(fOf 1,1,true):=by unfold sqR;rw[if_neg (by decide+kernel),show scR ln=1 by decide+kernel,show ZKe (cR ln) 0=1 by decide+kernel]
 have b:Sz 1 1:=by simp_all[Sz]
 unfold Zrx Zs8;rw[ZVa,Z4m,ZPh (by decide) a,Z4m,ZM1 (by decide) a,d,Z4m];dsimp only;rw[cond_true,show ((1:Int) == 1)=true from rfl,cond_true,ZHA 1 (by decide) (by decide),Z4m];show ((ZoW (fOf 1) (fOf 1)).bind _)=_;rw[ZHG _ _ (b.wq (by decide)) (b.wq (by decide)),Z4m];rfl
end Go.Proofs
namespace Go.Proofs
open Go Eng
theorem ZVi {a b:List Nat} (h:iL a=iL b):a=b:=by grind[iL,List.map_inj_right]
theorem ZTI {x y:Int} (h:bg x=bg y):x=y:=by
 grind[ZFP,Zra,ZVi,Zwn]
theorem ZSG {p q:Rat} (h:fOf p=fOf q):p=q:=by
 grind[fOf,ZTI,Rat.ext]
def ZXV (x y:Int):Int:=if x < y then -1 else if x > y then 1 else 0
theorem ZKr (x y:Int):Zu8 x y=some (ZXV x y):=by
 grind[Zu8,ZEm,ZXV]
theorem ZYy (a b c:Int):ZCp [a,b,c]=some (if a≠0 then a else if b≠0 then b else c):=by
 have key:wp (Zz5 big (0:Int) [a,b,c] ((([a,b,c]:List Int).length:Nat):Int) 0) (fun x=>(x= .ret (if a≠0 then a else if b≠0 then b else c))\/(x= .brk 0/\(if a≠0 then a else if b≠0 then b else c)=0)):=by
  refine Zr6 ZKd ([a,b,c]:List Int) (by simp) (fun i (_:Unit)=>((0:Int),([a,b,c]:List Int),((([a,b,c]:List Int).length:Nat):Int),i)) (fun k _=>(1<=k->a=0)/\(2<=k->b=0)/\(3<=k->c=0)) () ⟨fun h=>by omega,fun h=>by omega,fun h=>by omega⟩ ?_ ?_
  ·rintro d k _ e ⟨q,s,o⟩ l;unfold ZF8 Zsw;dsimp only;rw[decide_eq_true (show (k:Int) < ((([a,b,c]:List Int).length:Nat):Int) by omega),cond_true,Zqc e,Z4m];simp only[Z34,Z39]at e;have f:k=0\/k=1\/k=2:=by omega
   have j:∀z:Int,([a,b,c]:List Int)[k]=z->(z≠0->(if a≠0 then a else if b≠0 then b else c)=z)->(z=0->(1<=k+1->a=0)/\(2<=k+1->b=0)/\(3<=k+1->c=0))->wp (bif ([a,b,c]:List Int)[k] != 0 then some (Out.ret ([a,b,c]:List Int)[k])else chk (inK .i64 ((k:Int)+1)) (d ((0:Int),([a,b,c]:List Int),((([a,b,c]:List Int).length:Nat):Int),(k:Int)+1))) (fun x=>(x= .ret (if a≠0 then a else if b≠0 then b else c))\/(x= .brk 0/\(if a≠0 then a else if b≠0 then b else c)=0)):=by
    intro z n r g;rw[n]
    by_cases h0:z=0
    ·rw[show (z != 0)=false by grind,cond_false,ZnO];exact⟨ZnS (by omega),l () (g h0)⟩
    grind[ZnL]
   grind
  grind[ZF8,Zsw,ZnL]
 unfold ZCp;obtain⟨x,p,m⟩:=key;grind[ZFI]
noncomputable def qOf (f:ZnK):Rat:= @dite _ (∃q,f=fOf q) (Classical.propDecidable _) (fun h=>h.choose) (fun _=>0)
theorem ZMx (q:Rat):qOf (fOf q)=q:=by have h:∃p,fOf q=fOf p:=⟨q,rfl⟩;grind[qOf,ZSG]
def ZJD (a b:Zph):Int:=if a.Table < b.Table then -1 else if b.Table < a.Table then 1 else if a.Column < b.Column then -1 else if b.Column < a.Column then 1 else 0
theorem ZQS (a b:Zph):ZGA a b=some (decide (ZJD a b < 0)):=by
 grind[ZGA,ZKr,ZO8,ZXV,ZJD]
theorem ZMu (a b:Zph):ZJD b a= - ZJD a b:=by
 grind[ZJD]
theorem ZQz (a b:Zph):ZGB a b=some (ZJD a b):=by
 grind[ZJD,ZGB,ZQS]
theorem ZOY {a b:Zph} (h:ZJD a b=0):a=b:=by
 obtain⟨t,c⟩:=a;obtain⟨e,d⟩:=b;grind[ZJD]
theorem ZLZ {a b c:Zph} (d:ZJD a b < 0) (e:ZJD b c < 0):ZJD a c < 0:=by
 unfold ZJD at*
 repeat' split at d
 all_goals first |omega |skip
 all_goals (repeat' split at e)
 all_goals first |omega |skip
 all_goals (repeat' split)
 all_goals omega
abbrev En1:=ZnX
noncomputable def ZFK (a b:En1):Int:=if ZKe (qOf b.Score) (qOf a.Score)≠0 then ZKe (qOf b.Score) (qOf a.Score)else if ZJD a.Key b.Key≠0 then ZJD a.Key b.Key else ZJD a.Value b.Value
noncomputable def ltJ (a b:En1):Bool:=decide (ZFK a b < 0)
class Gdm (x:En1):Prop where
 ok:∃q,x.Score=fOf q/\Sz 800 q
class Gds (d:List En1):Prop where
 all:∀e∈d,Gdm e
instance {d:List En1} [Gds d] {i:Nat} {h:i < d.length}:Gdm (d[i]'h):=Gds.all _ (Z32 h)
theorem Gds.at {d:List En1} [Gds d] {i:Nat} {p:En1} (h:d[i]? =some p):Gdm p:=Gds.all _ (List.mem_of_getElem? h)
theorem Gds.perm {D d:List En1} [Gds D] (h:d.Perm D):Gds d:=⟨fun e a=>Gds.all _ (h.mem_iff.1 a)⟩
theorem ZA8 (a b:En1) [ha:Gdm a] [hb:Gdm b]:Zob a b=some (ZFK a b):=by obtain⟨p,d,e⟩:=ha.ok;obtain⟨q,c,f⟩:=hb.ok;unfold ZFK Zob ZIj;rw[d,c,ZTH (f.wq (by decide)) (e.wq (by decide)),Z4m,Z4m,ZQz,Z4m,ZQz,Z4m,ZYy,Z4m,ZMx,ZMx]
theorem ZO0 (a b:Rat):ZKe b a= - ZKe a b:=by grind[ZKe]
theorem ZIa (a b:En1):ZFK b a= - ZFK a b:=by
 grind[ZO0,ZMu,ZFK]
theorem ZMv (a b:Rat):ZKe a b < 0<->a < b:=by
 grind[ZKe]
theorem ZOZ {a b:Rat} (h:ZKe a b=0):a=b:=by
 grind[ZKe]
def ZTq (a b:En1):Int:=if ZJD a.Key b.Key≠0 then ZJD a.Key b.Key else ZJD a.Value b.Value
theorem ZPz {a b c:En1} (d:ZTq a b < 0) (e:ZTq b c < 0):ZTq a c < 0:=by
 unfold ZTq at*
 grind[ZJD,ZOY]
theorem ZYe {a b:En1} (h:ZTq a b=0):a.Key=b.Key/\a.Value=b.Value:=by
 grind[ZTq,ZOY]
theorem ZQG (a b:En1):ZFK a b=if ZKe (qOf b.Score) (qOf a.Score)≠0 then ZKe (qOf b.Score) (qOf a.Score)else ZTq a b:=rfl
theorem ZPG {a b c:En1} (e:ZFK a b < 0) (f:ZFK b c < 0):ZFK a c < 0:=by
 rw[ZQG]at*
 by_cases e1:ZKe (qOf b.Score) (qOf a.Score)=0
 ·rw[if_neg (by omega)]at e;have d:=ZOZ e1
  by_cases e2:ZKe (qOf c.Score) (qOf b.Score)=0
  ·rw[if_neg (by omega)]at f;rw[<-d,if_neg (by omega)];exact ZPz e f
  simp_all
 grind[ZKe]
theorem ZTt {a b:En1} (h:ZFK a b=0):qOf b.Score=qOf a.Score/\a.Key=b.Key/\a.Value=b.Value:=by
 grind[ZQG,ZOZ,ZYe]
theorem ZTu {a b c:En1} (h:ZFK a b=0):ZFK a c=ZFK b c:=by grind[ZTt,ZFK]
end Go.Proofs
namespace Go.Proofs
open Go Eng
def sw (d:List En1) (i j:Nat) (hi:i < d.length) (a:j < d.length):List En1:=(d.set i d[j]).set j d[i]
theorem ZQp {d:List En1} {i j:Nat} (hi:i < d.length) (a:j < d.length):(sw d i j hi a).Perm d:=List.set_set_perm hi a
theorem ZKb {d:List En1} {i j:Nat} (hi:i < d.length) (a:j < d.length):(sw d i j hi a).length=d.length:=by grind[sw]
theorem ZFV {d:List En1} {i j:Nat} (hi:i < d.length) (a:j < d.length) (k:Nat) (b:k < d.length):(sw d i j hi a)[k]? =if k=j then some d[i]else if k=i then some d[j]else d[k]? :=by
 grind[sw]
def Rg (a b:Nat) (D d:List En1):Prop:=d.Perm D/\∀k,k < a\/b<=k->d[k]? =D[k]?
theorem Rg.refl (a b:Nat) (D:List En1):Rg a b D D:=⟨.refl _,fun _ _=>rfl⟩
theorem Rg.trans {a b:Nat} {D d e:List En1} (c:Rg a b D d) (g:Rg a b d e):Rg a b D e:=⟨g.1.trans c.1,fun k f=>(g.2 k f).trans (c.2 k f)⟩
theorem Rg.mono {a b c e:Nat} {D d:List En1} (h:Rg a b D d) (g:c<=a) (i:b<=e):Rg c e D d:=⟨h.1,fun k f=>h.2 k (by omega)⟩
theorem Rg.len {a b:Nat} {D d:List En1} (h:Rg a b D d):d.length=D.length:=h.1.length_eq
theorem ZKa {d:List En1} {i j a b:Nat} (hi:i < d.length) (c:j < d.length) (e:a<=i) (l:i < b) (g:a<=j) (f:j < b):Rg a b d (sw d i j hi c):=by
 refine⟨ZQp hi c,fun k h=> ?_⟩
 grind[ZFV,ZKb]
instance {d:List En1} [Gds d] {i j:Nat} {hi:i < d.length} {hj:j < d.length}:Gds (sw d i j hi hj):=Gds.perm (ZQp hi hj)
theorem Rg.gds {a b:Nat} {D d:List En1} [Gds D] (h:Rg a b D d):Gds d:=Gds.perm h.1
theorem ZPw {D:List En1} [Gds D] {a b:Nat} (hn:D.length<=1000000) (hab:a<=b) (hb:b<=D.length):
  wp (ZpE D (a:Int) (b:Int)) (fun d=>Rg a b D d):=by
 have Zd:wp (ZpU D (a:Int) (b:Int)) (fun d=>Rg a b D d):=by
  unfold ZpU;rw[ZnO,ZnN];refine⟨ZnS (by omega),ZnU (Zpm ZAP (fun s:Nat×Int×List En1=>((s.1:Int),s.2.1,s.2.2)) (fun s=>a<=s.1/\s.2.1 < (b:Int)/\ -1<=s.2.1/\Rg a b D s.2.2) (fun s=>(s.2.1+1 - s.1).toNat)
   (Q:=fun d=>Rg a b D d) (a,(b:Int) - 1,D) ⟨Z4j _,by grind,by grind,.refl _ _ _⟩ (by grind) ?_) ?_⟩
  ·rintro rec ⟨i,j,d⟩ ⟨h1,h2,h3,h4⟩ ih;dsimp only at h1 h2 h3 h4 ih;have hl:=h4.len;haveI:=h4.gds;unfold Zt3 ZqL;dsimp only
   by_cases hc:(i:Int) < j
   ·obtain⟨j,rfl⟩:=Int.eq_ofNat_of_zero_le (show 0<=j by omega);have hi:i < d.length:=by omega
    have hj:j < d.length:=by omega
    rw[decide_eq_true hc,cond_true,ZnO,Z3T,Z3T,Z3Z hj,ZnN,ZnL,ZnO,Z3Z hi,ZnN,ZnL,ZnO,ZnO,ZnO,ZnO];refine⟨ZoP hj,ZoP hi,ZoP hi,ZoI ⟨by omega,by grind⟩,ZnS (by omega),ZnS (by omega), ?_⟩;have:=ih (i+1,(j:Int) - 1,sw d i j hi hj) ⟨by omega,by grind,by grind,h4.trans (ZKa hi hj (by omega) (by omega) (by omega) (by omega))⟩ (by grind);exact this
   grind[ZnL]
  grind[Zrd,ZnL]
 unfold ZpE;rw[ZnN];refine ZnU Zd fun d hd=> ?_
 rw[ZnO,ZnL];exact⟨by rw[hd.len];simp,hd⟩
end Go.Proofs
namespace Go.Proofs
open Go Eng
def Lo (a:Nat) (d:List En1) (p:En1) (i:Nat):Prop:=∀k x,a+1<=k->k < i->d[k]? =some x->ZFK x p < 0
def Hi (b:Nat) (d:List En1) (p:En1) (j:Nat):Prop:=∀k x,j < k->k < b->d[k]? =some x->¬ZFK x p < 0
theorem ZX6 {d:List En1} [Gds d] {p:En1} {a b:Nat} (h0:d[a]? =some p) (hn:d.length<=1000) {i j:Nat} (hi:a+1<=i) (hij:i<=j+1) (hjb:j < b) (hj:b<=d.length) (hA:Lo a d p i):
  wp (Zot big (a:Int) (i:Int) (j:Int) d) (fun x=>∃i':Nat,x=((a:Int),(i':Int),(j:Int),d)/\i<=i'/\i'<=j+1/\Lo a d p i'/\∀h:i'<=j,¬ZFK (d[i']'(by omega)) p < 0):=by
 haveI:Gdm p:=Gds.at h0;have hp:d[a]'(by omega)=p:=(Z30.1 h0).2;refine Zpm ZBL (fun i:Nat=>((a:Int),(i:Int),(j:Int),d)) (fun i'=>i<=i'/\i'<=j+1/\Lo a d p i') (fun i'=>j+1 - i')
  (Q:=fun x=>∃i':Nat,x=((a:Int),(i':Int),(j:Int),d)/\i<=i'/\i'<=j+1/\Lo a d p i'/\∀h:i'<=j,¬ZFK (d[i']'(by omega)) p < 0) i ⟨Z4j _,hij,hA⟩ (by omega) ?_
 rintro rec i' ⟨h1,h2,h3⟩ ih;unfold Zu4 ZrC ZpZ;dsimp only
 by_cases hc:i'<=j
 ·have hi':i' < d.length:=by omega
  rw[decide_eq_true (show (i':Int)<=(j:Int) by omega),cond_true,ZnO,Z3T,Z3Z hi',ZnN,ZnL,ZnO,Z3T,h0,ZnN,ZnL,ZA8,ZnN,ZnL];refine⟨ZoP hi',ZoI ⟨by omega,by omega⟩, ?_⟩
  by_cases ho:ZFK d[i'] p < 0
  ·rw[decide_eq_true ho,cond_true,ZnO];refine⟨ZnS (by omega),ih (i'+1) ⟨by omega,by omega,fun k x hk1 hk2 hx=> ?_⟩ (by omega)⟩
   by_cases e:k=i'
   ·simp_all
   ·exact h3 k x hk1 (by omega) hx
  grind[ZnL]
 grind[ZnL]
theorem ZX5 {d:List En1} [Gds d] {p:En1} {a b:Nat} (h0:d[a]? =some p) (hn:d.length<=1000) {i j:Nat} (hi:a+1<=i) (hij:i<=j+1) (hjb:j < b) (hj:b<=d.length) (hA:Lo a d p i):
  wp (Zor big (a:Int) (i:Int) (j:Int) d) (fun x=>∃i':Nat,x=((a:Int),(i':Int),(j:Int),d)/\i<=i'/\i'<=j+1/\Lo a d p i'/\∀h:i'<=j,¬ZFK (d[i']'(by omega)) p < 0):=by
 haveI:Gdm p:=Gds.at h0;have hp:d[a]'(by omega)=p:=(Z30.1 h0).2;refine Zpm ZBI (fun i:Nat=>((a:Int),(i:Int),(j:Int),d)) (fun i'=>i<=i'/\i'<=j+1/\Lo a d p i') (fun i'=>j+1 - i')
  (Q:=fun x=>∃i':Nat,x=((a:Int),(i':Int),(j:Int),d)/\i<=i'/\i'<=j+1/\Lo a d p i'/\∀h:i'<=j,¬ZFK (d[i']'(by omega)) p < 0) i ⟨Z4j _,hij,hA⟩ (by omega) ?_
 rintro rec i' ⟨h1,h2,h3⟩ ih;unfold ZuY Zrz ZpX;dsimp only
 by_cases hc:i'<=j
 ·have hi':i' < d.length:=by omega
  rw[decide_eq_true (show (i':Int)<=(j:Int) by omega),cond_true,ZnO,Z3T,Z3Z hi',ZnN,ZnL,ZnO,Z3T,h0,ZnN,ZnL,ZA8,ZnN,ZnL];refine⟨ZoP hi',ZoI ⟨by omega,by omega⟩, ?_⟩
  by_cases ho:ZFK d[i'] p < 0
  ·rw[decide_eq_true ho,cond_true,ZnO];refine⟨ZnS (by omega),ih (i'+1) ⟨by omega,by omega,fun k x hk1 hk2 hx=> ?_⟩ (by omega)⟩
   by_cases e:k=i'
   ·simp_all
   ·exact h3 k x hk1 (by omega) hx
  grind[ZnL]
 grind[ZnL]
theorem ZSM {d:List En1} [Gds d] {p:En1} {a b:Nat} (h0:d[a]? =some p) (hn:d.length<=1000) {i j:Nat} (hi:a+1<=i) (hij:i<=j+1) (hjb:j < b) (hj:b<=d.length) (hB:Hi b d p j):
  wp (Zos big (a:Int) (i:Int) (j:Int) d) (fun x=>∃j':Nat,x=((a:Int),(i:Int),(j':Int),d)/\j'<=j/\i<=j'+1/\Hi b d p j'/\∀h:i<=j',∀hl:j' < d.length,ZFK d[j'] p < 0):=by
 haveI:Gdm p:=Gds.at h0;refine Zpm ZBK (fun j:Nat=>((a:Int),(i:Int),(j:Int),d)) (fun j'=>j'<=j/\i<=j'+1/\Hi b d p j') (fun j'=>j')
  (Q:=fun x=>∃j':Nat,x=((a:Int),(i:Int),(j':Int),d)/\j'<=j/\i<=j'+1/\Hi b d p j'/\∀h:i<=j',∀hl:j' < d.length,ZFK d[j'] p < 0) j ⟨Z4j _,hij,hB⟩ (by omega) ?_
 rintro rec j' ⟨h1,h2,h3⟩ ih;unfold Zu2 ZrB ZpY;dsimp only
 by_cases hc:i<=j'
 ·have hj':j' < d.length:=by omega
  rw[decide_eq_true (show (i:Int)<=(j':Int) by omega),cond_true,ZnO,Z3T,Z3Z hj',ZnN,ZnL,ZnO,Z3T,h0,ZnN,ZnL,ZA8,ZnN,ZnL];refine⟨ZoP hj',ZoI ⟨by omega,by omega⟩, ?_⟩
  by_cases ho:ZFK d[j'] p < 0
  ·grind[ZnL]
  ·rw[decide_eq_false ho,ZYu,cond_true,ZnO,show (j':Int) - 1=((j' - 1:Nat):Int) by omega];refine⟨ZnS (by omega),ih (j' - 1) ⟨by omega,by omega,fun k x hk hkb hx=> ?_⟩ (by omega)⟩
   by_cases e:k=j'
   ·simp_all
   ·exact h3 k x (by omega) hkb hx
 grind[ZnL]
theorem ZSL {d:List En1} [Gds d] {p:En1} {a b:Nat} (h0:d[a]? =some p) (hn:d.length<=1000) {i j:Nat} (hi:a+1<=i) (hij:i<=j+1) (hjb:j < b) (hj:b<=d.length) (hB:Hi b d p j):
  wp (Zoq big (a:Int) (i:Int) (j:Int) d) (fun x=>∃j':Nat,x=((a:Int),(i:Int),(j':Int),d)/\j'<=j/\i<=j'+1/\Hi b d p j'/\∀h:i<=j',∀hl:j' < d.length,ZFK d[j'] p < 0):=by
 haveI:Gdm p:=Gds.at h0;refine Zpm ZBH (fun j:Nat=>((a:Int),(i:Int),(j:Int),d)) (fun j'=>j'<=j/\i<=j'+1/\Hi b d p j') (fun j'=>j')
  (Q:=fun x=>∃j':Nat,x=((a:Int),(i:Int),(j':Int),d)/\j'<=j/\i<=j'+1/\Hi b d p j'/\∀h:i<=j',∀hl:j' < d.length,ZFK d[j'] p < 0) j ⟨Z4j _,hij,hB⟩ (by omega) ?_
 rintro rec j' ⟨h1,h2,h3⟩ ih;unfold ZuW Zry ZpW;dsimp only
 by_cases hc:i<=j'
 ·have hj':j' < d.length:=by omega
  rw[decide_eq_true (show (i:Int)<=(j':Int) by omega),cond_true,ZnO,Z3T,Z3Z hj',ZnN,ZnL,ZnO,Z3T,h0,ZnN,ZnL,ZA8,ZnN,ZnL];refine⟨ZoP hj',ZoI ⟨by omega,by omega⟩, ?_⟩
  by_cases ho:ZFK d[j'] p < 0
  ·grind[ZnL]
  ·rw[decide_eq_false ho,ZYu,cond_true,ZnO,show (j':Int) - 1=((j' - 1:Nat):Int) by omega];refine⟨ZnS (by omega),ih (j' - 1) ⟨by omega,by omega,fun k x hk hkb hx=> ?_⟩ (by omega)⟩
   by_cases e:k=j'
   ·simp_all
   ·exact h3 k x (by omega) hkb hx
 grind[ZnL]
theorem ZOP {d:List En1} {p:En1} {a b i j:Nat} (s:d[a]? =some p) (hi:a+1<=i) (o:i < j) (f:j < d.length) (n:Lo a d p i) (q:Hi b d p j) (t:¬ZFK (d[i]'(by omega)) p < 0) (v:ZFK d[j] p < 0):
  (sw d i j (by omega) f)[a]? =some p/\Lo a (sw d i j (by omega) f) p (i+1)/\Hi b (sw d i j (by omega) f) p (j - 1):=by
 have g:i < d.length:=by omega
 refine⟨?_,fun k x m r c=> ?_,fun k x u h c=> ?_⟩
 ·grind[ZFV]
 ·rw[ZFV g f k (by omega),if_neg (by omega)]at c
  by_cases e:k=i
  ·simp_all
  ·rw[if_neg e]at c;exact n k x m (by omega) c
 ·have l:k < d.length:=by
   grind[ZKb]
  rw[ZFV g f k l]at c
  by_cases e:k=j
  ·simp_all
  ·rw[if_neg e,if_neg (by omega)]at c;exact q k x (by omega) h c
end Go.Proofs
namespace Go.Proofs
open Go Eng
def Pt2 (a b:Nat) (D:List En1) (x:Int×Bool×List En1):Prop:=∃m:Nat,x.1=(m:Int)/\a<=m/\m < b/\Rg a b D x.2.2/\∃p,x.2.2[m]? =some p/\(∀k y,a<=k->k < m->x.2.2[k]? =some y->ZFK y p < 0)/\(∀k y,m < k->k < b->x.2.2[k]? =some y->¬ZFK y p < 0)
theorem ZTs {D d:List En1} {p:En1} {a b j:Nat} (q:d[a]? =some p) (g:a<=j) (h:j < b) (u:b<=d.length) (m:Lo a d p (j+1)) (t:Hi b d p j) (r:Rg a b D d) (f:Bool):Pt2 a b D ((j:Int),f,sw d j a (by omega) (by omega)):=by
 have i:j < d.length:=by omega
 have l:a < d.length:=by omega
 have s:d[a]=p:=(Z30.1 q).2;refine⟨j,rfl,g,h,r.trans (ZKa i l g h (Z4j _) (by omega)),p, ?_,fun k y n o c=> ?_,fun k y n o c=> ?_⟩
 ·grind[ZFV]
 ·dsimp only at c;rw[ZFV i l k (by omega)]at c
  by_cases e:k=a
  ·rw[if_pos e]at c;exact m j y (by omega) (by omega) (by simp_all)
  ·rw[if_neg e,if_neg (by omega)]at c;exact m k y (by omega) (by omega) c
 ·dsimp only at c;rw[ZFV i l k (by omega),if_neg (by omega),if_neg (by omega)]at c;exact t k y n o c
theorem ZQE {D:List En1} [Gds D] (hn:D.length<=1000) {a b:Nat} {d0:List En1} [Gds d0] {p:En1} {i0 j0:Nat} (h0:d0[a]? =some p) (hi:a+1<=i0) (hij:i0<=j0+1) (hj:j0 < b) (hb:b<=D.length) (hA:Lo a d0 p i0) (hB:Hi b d0 p j0) (hp:Rg a b D d0):
  wp (Zoc big (a:Int) (i0:Int) (j0:Int) d0) (fun x=>∃(j:Nat) (d:List En1),x=((a:Int),(j:Int),d)/\d[a]? =some p/\a<=j/\j < b/\Lo a d p (j+1)/\Hi b d p j/\Rg a b D d):=by
 refine Zpm ZBJ (fun s:Nat×Nat×List En1=>((a:Int),(s.1:Int),(s.2.1:Int),s.2.2)) (fun s=>s.2.2[a]? =some p/\a+1<=s.1/\s.1<=s.2.1+1/\s.2.1 < b/\Lo a s.2.2 p s.1/\Hi b s.2.2 p s.2.1/\Rg a b D s.2.2) (fun s=>s.2.1)
  (Q:=fun x=>∃(j:Nat) (d:List En1),x=((a:Int),(j:Int),d)/\d[a]? =some p/\a<=j/\j < b/\Lo a d p (j+1)/\Hi b d p j/\Rg a b D d) (i0,j0,d0) ⟨h0,hi,hij,hj,hA,hB,hp⟩ (by grind) ?_
 rintro rec ⟨i,j,d⟩ ⟨h0,hi,hij,hj,hA,hB,hp⟩ ih;dsimp only at h0 hi hij hj hA hB hp ih;have hl:=hp.len;haveI:=hp.gds;have hdn:d.length<=1000:=by omega
 have hbd:b<=d.length:=by omega
 unfold Zu0 ZrA Zr0 ZrZ;dsimp only;rw[ZnN];refine ZnU (ZX5 h0 hdn hi hij hj hbd hA) ?_;rintro _ ⟨i',rfl,h1,h2,h3,h4⟩;dsimp only;rw[ZnN];refine ZnU (ZSL h0 hdn (by omega) h2 hj hbd hB) ?_;rintro _ ⟨j',rfl,h5,h6,h7,h8⟩;dsimp only
 by_cases hc:i'<=j'
 ·have hi':i' < d.length:=by omega
  have hj':j' < d.length:=by omega
  have g1:=h4 (by omega);have g2:=h8 hc hj';have hlt:i' < j':=by
   grind
  obtain⟨s0,sA,sB⟩:=ZOP h0 (by omega) hlt hj' h3 h7 g1 g2;rw[decide_eq_false (show ¬(i':Int) > (j':Int) by omega),cond_false,ZnO,Z3T,Z3T,Z3Z hj',ZnN,ZnL,ZnO,Z3Z hi',ZnN,ZnL,ZnO,ZnO,ZnO,ZnO];refine⟨ZoP hj',ZoP hi',ZoP hi',ZoI ⟨by omega,by grind⟩,ZnS (by omega),ZnS (by omega), ?_⟩;have:=ih (i'+1,j' - 1,sw d i' j' hi' hj') ⟨s0,by omega,by grind,by grind,sA,sB,hp.trans (ZKa hi' hj' (by omega) (by omega) (by omega) (by omega))⟩ (by grind);rw[show (((i'+1:Nat)):Int)=(i':Int)+1 by omega,show ((j' - 1:Nat):Int)=(j':Int) - 1 by omega]at this;exact this
 grind[ZnL]
theorem ZM8 {D:List En1} [Gds D] (hn:D.length<=1000) {a b pv:Nat} (hb:b<=D.length) (h1:a<=pv) (h2:pv < b):
  wp (Zqe D (a:Int) (b:Int) (pv:Int)) (Pt2 a b D):=by
 have hpv:pv < D.length:=by omega
 have h00:a < D.length:=by omega
 have Zd:wp (Zqz D (a:Int) (b:Int) (pv:Int)) (Pt2 a b D):=by
  unfold Zqz;simp only[ZnO,Z3T];rw[Z3Z hpv,Z3Z h00];simp only[ZnN,ZnL,ZnO];have hd0:(D.set a D[pv]).set pv D[a]=sw D a pv h00 hpv:=rfl;rw[hd0];have hlen:=ZKb (d:=D) h00 hpv;have hg0:∃p,(sw D a pv h00 hpv)[a]? =some p:=⟨_,Z3Z (by omega)⟩;obtain⟨p,hg0⟩:=hg0;have hperm:=ZKa (d:=D) h00 hpv (Z4j a) (show a < b by omega) h1 h2;generalize sw D a pv h00 hpv=d at hlen hg0 hperm;haveI:Gds d:=hperm.gds;refine⟨ZoI ⟨by omega,by omega⟩,ZoI ⟨by omega,by omega⟩,ZoI ⟨by omega,by omega⟩,ZoI ⟨by omega,by simp_all⟩,ZnS (by omega),ZnS (by omega), ?_⟩;have hdn:d.length<=1000:=by omega
  have hbd:b<=d.length:=by omega
  have hA:Lo a d p (a+1):=fun k x h1 h2=>by omega
  have hB:Hi b d p (b - 1):=fun k x hk hkb hx=>by omega
  have:=ZX6 hg0 hdn (i:=a+1) (j:=b - 1) (by omega) (by omega) (by omega) hbd hA;rw[show ((b - 1:Nat):Int)=(b:Int) - 1 by omega,show ((a+1:Nat):Int)=(a:Int)+1 by omega]at this;refine ZnU this ?_;rintro _ ⟨i',rfl,q1,q2,q3,q4⟩;dsimp only;unfold Zr2;rw[ZnN];have:=ZSM hg0 hdn (i:=i') (j:=b - 1) (by omega) (by omega) (by omega) hbd hB;rw[show ((b - 1:Nat):Int)=(b:Int) - 1 by omega]at this;refine ZnU this ?_;rintro _ ⟨j',rfl,q5,q6,q7,q8⟩;dsimp only;unfold Zr1
  by_cases hc:i'<=j'
  ·have hi':i' < d.length:=by omega
   have hj':j' < d.length:=by omega
   have g1:=q4 (by omega);have g2:=q8 hc hj';have hlt:i' < j':=by
    grind
   obtain⟨s0,sA,sB⟩:=ZOP hg0 (by omega) hlt hj' q3 q7 g1 g2;rw[decide_eq_false (show ¬(i':Int) > (j':Int) by omega),cond_false,ZnO,Z3T,Z3T,Z3Z hj',ZnN,ZnL,ZnO,Z3Z hi',ZnN,ZnL,ZnO,ZnO,ZnO,ZnO,ZnN];refine⟨ZoP hj',ZoP hi',ZoP hi',ZoI ⟨by omega,by grind⟩,ZnS (by omega),ZnS (by omega), ?_⟩;have:=ZQE (D:=D) hn (d0:=sw d i' j' hi' hj') (i0:=i'+1) (j0:=j' - 1) s0 (by omega) (by omega) (by omega) hb sA sB (hperm.trans (ZKa hi' hj' (by omega) (by omega) (by omega) (by omega)));rw[show (((i'+1:Nat)):Int)=(i':Int)+1 by omega,show ((j' - 1:Nat):Int)=(j':Int) - 1 by omega]at this;refine ZnU this ?_;rintro _ ⟨j,d2,rfl,r0,r1,r2,r3,r4,r5⟩;unfold ZrY;dsimp only;have hl2:=r5.len;haveI:=r5.gds;have r00:a < d2.length:=by omega
   have rj:j < d2.length:=by omega
   rw[ZnO,Z3T,Z3Z r00,ZnN,ZnL,ZnO,Z3T,Z3Z rj,ZnN,ZnL,ZnO,ZnO,ZnL];exact⟨ZoP r00,ZoP rj,ZoP rj,ZoI ⟨by omega,by simp_all⟩,ZTs r0 r1 r2 (by omega) r3 r4 r5 false⟩
  ·have hj':j' < d.length:=by omega
   have h0d:a < d.length:=by omega
   rw[decide_eq_true (show (i':Int) > (j':Int) by omega),cond_true,ZnO,Z3T,Z3Z h0d,ZnN,ZnL,ZnO,Z3T,Z3Z hj',ZnN,ZnL,ZnO,ZnO,ZnL];exact⟨ZoP h0d,ZoP hj',ZoP hj',ZoI ⟨by omega,by simp_all⟩,ZTs hg0 (by omega) (by omega) hbd (by grind) q7 hperm true⟩
 unfold Zqe;rw[ZnN];refine ZnU Zd fun x hx=> ?_
 obtain⟨m,e,h3,h4,h5,h6⟩:=hx;rw[ZnO,ZnL];exact⟨by rw[h5.len];simp,m,e,h3,h4,h5,h6⟩
end Go.Proofs
