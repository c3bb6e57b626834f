/- Plain laws over the specs, part 2. -/
import Derived.Test.YtbjnddlpdlfknaaGreatDoorQmM0
import Derived.Test.YtbjnddlpdlfknaaGreatDoorQmM1
import Derived.Test.YtbjnddlpdlfknaaGreatDoorQ
set_option linter.unusedVariables false
set_option linter.unusedSimpArgs false
set_option linter.unusedSectionVars false
open Bool renaming eq_iff_iff→ZBd
open List renaming length_map→ZDE, getElem_mem→ZDB, pairwise_cons→ZDH, length_cons→ZDD, length_append→ZDC, countP_le_length→ZDx, getElem_map→ZDA, map_append→ZDG, drop_eq_getElem_cons→ZDy, take_succ_eq_append_getElem→ZDI, length_singleton→ZDF, getElem?_cons_zero→ZDz
open Option renaming bind_some→ZDJ
namespace Go.Proofs
open Go Eng
section
variable {α:Type} (lt:α→α→Bool)
def ZzE (x:α):List α→List α
 | []=>[x]
 |p::r=>if lt x p then p::ZzE x r else x::p::r
def ZxN (x:α) (A:List α):List α:=(ZzE lt x A.reverse).reverse
def ZuN (l:List α):List α:=l.foldl (fun s x=>ZxN lt x s) []
variable {lt}
theorem Zzo (x:α):ZxN lt x []=[x]:=rfl
theorem ZyK (x p:α) (A:List α):ZxN lt x (A++[p])=if lt x p then ZxN lt x A++[p]else A++[p,x]:=by unfold ZxN;rw[List.reverse_append,List.reverse_singleton,List.singleton_append,ZzE];split;rotate_left;simp;rw[List.reverse_cons]
theorem ZwV (x:α):∀l:List α,(ZzE lt x l).Perm (x::l)
 | []=> .refl _
 |p::r=>by
  unfold ZzE;split
  ·exact((ZwV x r).cons p).trans (.swap _ _ _)
  ·exact .refl _
theorem ZxH (x:α) (A:List α):(ZxN lt x A).Perm (A++[x]):=by unfold ZxN;refine(List.reverse_perm _).trans ((ZwV x _).trans ?_);refine(List.Perm.cons x (List.reverse_perm A)).trans ?_;exact(List.perm_append_singleton x A).symm
theorem Zyo (l:List α) (x:α):ZuN lt (l++[x])=ZxN lt x (ZuN lt l):=by simp[ZuN]
theorem ZvC (l:List α):(ZuN lt l).Perm l:=by
 have key:∀(l s:List α),(l.foldl (fun s x=>ZxN lt x s) s).Perm (s++l):=by
  intro l
  induction l with
  |nil=>intro s;simp
  |cons x l ih=>
   intro s;refine(ih _).trans ?_;refine((ZxH x s).append_right l).trans ?_;simp
 simpa[ZuN]using key l []
theorem Zv4 (l:List α):(ZuN lt l).length=l.length:=(ZvC l).length_eq
theorem ZwU (P:α→Prop) (le:α→α→Prop) (hlt:∀x p,P x→P p→lt x p=true→le x p) (hnlt:∀x p,P x→P p→lt x p=false→le p x) (htr:∀a b c,P a→P b→P c→le a b→le b c→le a c)
  (x:α) (hx:P x):∀l:List α,(∀y∈l,P y)→l.Pairwise (fun a b=>le b a)→(ZzE lt x l).Pairwise (fun a b=>le b a)
 | [],_,_=>by simp[ZzE]
 |p::r,hP,h=>by
  have hp:=hP p (by simp);have hr:=ZDH.1 h;unfold ZzE;cases hc:lt x p with
  |true=>
   rw[if_pos rfl,ZDH];refine⟨fun y hy=> ?_,ZwU P le hlt hnlt htr x hx r (fun y hy=>hP y (by simp[hy])) hr.2⟩;rcases List.mem_cons.1 ((ZwV x r).mem_iff.1 hy)with rfl |hy
   ·exact hlt _ _ hx hp hc
   ·exact hr.1 y hy
  |false=>
   rw[if_neg (by simp),ZDH];refine⟨fun y hy=> ?_,h⟩;have hxp:=hnlt x p hx hp hc;rcases List.mem_cons.1 hy with rfl |hy
   ·exact hxp
   ·exact htr _ _ _ (hP y (by simp[hy])) hp hx (hr.1 y hy) hxp
theorem ZxF (P:α→Prop) (le:α→α→Prop) (hlt:∀x p,P x→P p→lt x p=true→le x p) (hnlt:∀x p,P x→P p→lt x p=false→le p x) (htr:∀a b c,P a→P b→P c→le a b→le b c→le a c)
  (l:List α) (hl:∀y∈l,P y):(ZuN lt l).Pairwise le:=by
 have key:∀(l s:List α),(∀y∈l,P y)→(∀y∈s,P y)→s.Pairwise le→(l.foldl (fun s x=>ZxN lt x s) s).Pairwise le:=by
  intro l
  induction l with
  |nil=>intro s _ _ h;exact h
  |cons x l ih=>
   intro s hl hs h;refine ih _ (fun y hy=>hl y (by simp[hy])) (fun y hy=> ?_) ?_
   ·rcases List.mem_append.1 ((ZxH x s).mem_iff.1 hy)with hy |hy
    ·exact hs y hy
    ·simp only[List.mem_singleton]at hy;subst hy;exact hl _ (by simp)
   ·unfold ZxN;rw[List.pairwise_reverse];exact ZwU P le hlt hnlt htr x (hl x (by simp)) s.reverse (fun y hy=>hs y (List.mem_reverse.1 hy)) (by rw[List.pairwise_reverse];exact h)
 exact key l [] hl (by simp) (by simp)
theorem ZxA (P:α→Prop) (le:α→α→Prop) (hanti:∀a b,P a→P b→le a b→le b a→a=b):∀{l l':List α},(∀y∈l,P y)→l.Perm l'→l.Pairwise le→l'.Pairwise le→l=l'
 | [],l',_,hp,_,_=>(List.nil_perm.1 hp).symm
 |x::l,[],_,hp,_,_=>by have:=hp.length_eq;simp at this
 |x::l,y::l',hP,hp,h,h'=>by
  have hx:=ZDH.1 h;have hy:=ZDH.1 h';have hPy:P y:=hP y (hp.mem_iff.2 (by simp));have e:x=y:=by
   rcases List.mem_cons.1 (hp.mem_iff.1 (List.mem_cons_self (a:=x) (l:=l)))with e |hxm
   ·exact e
   ·rcases List.mem_cons.1 (hp.mem_iff.2 (List.mem_cons_self (a:=y) (l:=l')))with e |hym
    ·exact e.symm
    ·exact hanti x y (hP x (by simp)) hPy (hx.1 y hym) (hy.1 x hxm)
  subst e;rw[ZxA P le hanti (fun z hz=>hP z (by simp[hz])) hp.cons_inv hx.2 hy.2]
end
theorem Zyx {α:Type} (A C:List α) (p x:α):((A++p::x::C).set (A.length+1) p).set A.length x=A++x::p::C:=by
 induction A with
 |nil=>rfl
 |cons a A ih=>simp only[List.cons_append,ZDD,List.set_cons_succ,ih]
end Go.Proofs
namespace Go.Proofs
open Go Eng
def ltQ (x p:Rat):Bool:=decide (x < p)
theorem Zyq (b i0:Int) {A0 C0:List Rat} {x:Rat} (hA:∀y∈A0,Sz 40 y) (hx:Sz 40 x) (hlen:(A0++x::C0).length≤1000):
  wp (ZnM big 0 b i0 (A0.length:Int) ((A0++x::C0).map fOf)) (fun y=>y=(0,b,i0,(ZxN ltQ x A0++C0).map fOf)):=by
 refine Zud ZrY (fun(s:List Rat×List Rat)=>((0:Int),b,i0,(s.1.length:Int),(s.1++x::s.2).map fOf)) (fun s=>(∀y∈s.1,Sz 40 y)∧ZxN ltQ x s.1++s.2=ZxN ltQ x A0++C0∧(s.1++x::s.2).length≤1000) (fun s=>s.1.length)
  (Q:=fun y=>y=(0,b,i0,(ZxN ltQ x A0++C0).map fOf)) (A0,C0) ⟨hA,rfl,hlen⟩ (by dsimp only;simp only[ZDC]at hlen;omega) ?_
 rintro rec ⟨A,C⟩ ⟨hA,hR,hl⟩ ih;dsimp only at hA hR hl ih⊢
 unfold ZpB Zor Zn1;dsimp only;rcases List.eq_nil_or_concat A with rfl |⟨A,p,rfl⟩
 ·rw[ZnW];refine⟨fun h=>by simp at h,fun _=> ?_⟩;rw[cond_false,ZnC];rw[Zzo]at hR;rw[←hR];rfl
 ·rw[List.concat_eq_append]at*
  have hp:=hA p (by simp);simp only[ZDC,ZDD,List.length_nil]at hl;have e0:((A++[p])++x::C).map fOf=A.map fOf++fOf p::fOf x::C.map fOf:=by simp
  have ei:((A++[p]).length:Int)=((A.length+1:Nat):Int):=by simp
  have ej:(((A++[p]).length:Int) - 1)=(A.length:Int):=by rw[ei];omega
  have g1:(A.map fOf++fOf p::fOf x::C.map fOf)[A.length+1]? =some (fOf x):=by rw[List.getElem?_append_right (by rw[ZDE];omega),ZDE,show A.length+1 - A.length=1 by omega];rfl
  have g0:(A.map fOf++fOf p::fOf x::C.map fOf)[A.length]? =some (fOf p):=by rw[List.getElem?_append_right (by rw[ZDE];omega),ZDE,show A.length - A.length=0 by omega];rfl
  rw[ZnW];refine⟨fun _=> ?_,fun h=>by simp only[decide_eq_false_iff_not,ei]at h;omega⟩;rw[ej,ei,e0];simp only[Int.toNat_natCast,g1,g0,ZDJ];have ll:(A.map fOf++fOf p::fOf x::C.map fOf).length=A.length+2+C.length:=by simp only[ZDC,ZDD,ZDE];omega
  have lx:inR ((A.length+1:Nat):Int) ((A.map fOf++fOf p::fOf x::C.map fOf).length:Int)=true:=Zqm ⟨by omega,by omega⟩;have lp:inR (A.length:Int) ((A.map fOf++fOf p::fOf x::C.map fOf).length:Int)=true:=Zqm ⟨by omega,by omega⟩;have lp':inR (A.length:Int) (((A.map fOf++fOf p::fOf x::C.map fOf).set (A.length+1) (fOf p)).length:Int)=true:=by rw[List.length_set];exact lp
  have ki:inK .i64 (A.length:Int)=true:=ZnH (by omega);rw[lx,lp,lp',ki];simp only[chk_true];rw[ZxI (hx.wq (by omega)) (hp.wq (by omega)),ZnE,ZnC];rw[ZyK]at hR;have hlt:ltQ x p=decide (ZxM x p < 0):=by unfold ltQ;rw[ZBd,decide_eq_true_eq,decide_eq_true_eq,ZwL]
  rw[ZnW];refine⟨fun hc=> ?_,fun hc=> ?_⟩
  ·rw[hlt,if_pos hc]at hR;have:=Zyx (A.map fOf) (C.map fOf) (fOf p) (fOf x);rw[ZDE]at this;rw[this];have:=ih (A,p::C) ⟨fun y hy=>hA y (by simp[hy]),by rw[←hR];simp,by simp only[ZDC,ZDD];omega⟩ (by simp);simpa using this
  ·rw[hlt,if_neg (by rw[hc];simp)]at hR;rw[ZnC,←hR];simp
theorem ZAq {D:List Rat} (hD:∀y∈D,Sz 40 y) (hl:D.length≤1000):
  Zn5 (D.map fOf) 0 (D.length:Int)=some ((ZuN ltQ D).map fOf):=by
 have key:Zoa (D.map fOf) 0 (D.length:Int)=some ((ZuN ltQ D).map fOf):=by
  refine ZpW ?_;unfold Zoa ZoD;rw[ZnG,ZnE];refine⟨ZnH (by omega), ?_⟩;have inv:∀(i:Nat),i≤D.length→∀y∈ZuN ltQ (D.take i),Sz 40 y:=fun i _ y hy=>hD y (List.mem_of_mem_take ((ZvC _).mem_iff.1 hy))
  have out:∀(k f:Nat),k+1≤D.length→D.length - (k+1) < f→wp (ZnT f 0 (D.length:Int) ((k+1:Nat):Int) ((ZuN ltQ (D.take (k+1))++D.drop (k+1)).map fOf)) (fun y=>y=(ZuN ltQ D).map fOf):=by
   intro k f
   induction f generalizing k with
   |zero=>intro _ h;omega
   |succ f ih=>
    intro hk hf;show wp (Zos _ _ _ _ _) _;unfold Zos ZoE;rw[ZnW];refine⟨fun hc=> ?_,fun hc=> ?_⟩
    ·simp only[decide_eq_true_eq]at hc;have hk2:k+1 < D.length:=by omega
     have hlen:(ZuN ltQ (D.take (k+1))).length=k+1:=by rw[Zv4,List.length_take];omega
     have e:D.drop (k+1)=D[k+1]::D.drop (k+2):=ZDy hk2;rw[e];have:=Zyq (D.length:Int) ((k+1:Nat):Int) (A0:=ZuN ltQ (D.take (k+1))) (C0:=D.drop (k+2)) (x:=D[k+1]) (inv _ hk) (hD _ (ZDB _)) (by simp only[ZDC,ZDD,hlen,List.length_drop];omega);rw[hlen]at this;rw[ZnE];refine ZnS this ?_;rintro y rfl;dsimp only;rw[ZnG];refine⟨ZnH (by omega), ?_⟩;have e2:ZxN ltQ D[k+1] (ZuN ltQ (D.take (k+1)))=ZuN ltQ (D.take (k+2)):=by rw[ZDI hk2,Zyo]
     rw[e2];have:=ih (k+1) (by omega) (by omega);rw[show ((k+1:Nat):Int)+1=((k+1+1:Nat):Int) by omega];exact this
    ·simp only[decide_eq_false_iff_not]at hc;have:k+1=D.length:=by omega
     rw[ZnC,this,List.take_length,List.drop_of_length_le (Nat.le_refl _),List.append_nil]
  by_cases h0:D.length=0
  ·have:D=[]:=List.eq_nil_of_length_eq_zero h0;subst this;exact⟨[],rfl,ZnC.2 rfl⟩
  ·have:=out 0 big (by omega) (by rw[big_eq];omega);have e:ZuN ltQ (D.take (0+1))++D.drop (0+1)=D:=by
    cases D with
    |nil=>simp at h0
    |cons x D=>rfl
   rw[e]at this;refine ZnS this ?_;rintro y rfl;rw[ZnC]
 unfold Zn5;rw[key,ZDJ,ZDE,ZDE,Zv4,decide_eq_true rfl];rfl
theorem ZyJ:((List.range 13).all fun n:Nat=>(Zul (IntKind.wrap .u64 (n:Int))).isSome)=true:=by kernel_rfl
theorem Zzc {D:List Rat} (hD:∀y∈D,Sz 40 y) (hl:D.length≤12):ZnU (D.map fOf)=some ((ZuN ltQ D).map fOf):=by
 have h1:Zou (D.map fOf) 0 (D.length:Int)=fun _=>some ((ZuN ltQ D).map fOf):=by funext lim;obtain⟨k,hk⟩:=ZyX 1 (by omega);unfold Zou Zpz;rw[hk];show ((ZoV _ _ _ _ _ _ _).bind _).bind _=_;unfold ZoV;rw[ZnH (by omega),chk_true,decide_eq_true (show (D.length:Int) - 0≤12 by omega),cond_true,ZAq hD (by omega),ZDJ,ZDJ];dsimp only;rw[ZDJ,ZDE,ZDE,Zv4,decide_eq_true rfl];rfl
 have h2:=List.all_eq_true.1 ZyJ D.length (List.mem_range.2 (by omega));obtain⟨n,hn⟩:=Option.isSome_iff_exists.1 h2;unfold ZnU ZoM;rw[ZDE,hn,ZDJ,h1,ZDJ,ZDJ,ZDE,Zv4,decide_eq_true rfl];rfl
theorem Zxb {c:ZnO} (hc:∀x∈c.Cells,ZwK x) (hl:c.Cells.length≤12):ZoY c=some ((ZuN ltQ (Zwa c.Cells)).map fOf):=by refine ZpW ?_;unfold ZoY;rw[ZnE];refine ZnS (ZxC hc (by omega)) ?_;rintro _ rfl;unfold Zr1;rw[Zzc (fun q hq=>(ZxK q hq).mono (by omega)) (Nat.le_trans (List.length_filterMap_le _ _) hl),ZnE,ZnC,ZnC]
theorem Zyp {l l':List Rat} (h:l.Perm l'):ZuN ltQ l=ZuN ltQ l':=by
 have hs:∀l:List Rat,(ZuN ltQ l).Pairwise (· ≤ ·):=fun l=>ZxF (fun _=>True) (· ≤ ·) (fun x p _ _ h=>by unfold ltQ at h;have:=of_decide_eq_true h;grind) (fun x p _ _ h=>by unfold ltQ at h;have:=of_decide_eq_false h;grind) (fun a b c _ _ _ h1 h2=>by grind) l (fun _ _=>trivial)
 exact ZxA (fun _=>True) (· ≤ ·) (fun a b _ _ h1 h2=>by grind) (fun _ _=>trivial) (((ZvC l).trans h).trans (ZvC l').symm) (hs l) (hs l')
end Go.Proofs
namespace Go.Proofs
open Go Eng
def inP (b:List Rat) (x:Rat):Bool:=decide (gR b 0≤x)&&decide (x≤gR b (b.length - 1))
theorem Zze (a b:Rat):ZxM a b≥0↔b≤a:=by
 have:=ZwL a b;constructor
 ·intro h;have h2:¬ZxM a b < 0:=by omega
  rw[this]at h2;grind
 ·intro h;have h2:¬a < b:=by grind
  rw[←this]at h2;omega
theorem ZxG {a b:List Rat} (ha:∀q∈a,Sz 40 q) (hb:∀q∈b,Sz 40 q) (hna:a.length≤1000) (hnb:b.length≤1000) (ha0:a.length≠0) (hb0:b.length≠0):
  Zrk (a.map fOf) (b.map fOf)=some (fOf (Rat.divInt (a.countP (inP b):Nat) (a.length:Int))):=by
 refine ZpW ?_;unfold Zrk Zss;rw[ZDE,ZDE,show ((a.length:Int) == 0)=false from beq_eq_false_iff_ne.2 (by omega),show ((b.length:Int) == 0)=false from beq_eq_false_iff_ne.2 (by omega),cond_false,cond_false,ZnE];have hle:∀k,(a.drop k).countP (inP b)≤a.length:=fun k=>Nat.le_trans ZDx (by rw[List.length_drop];omega)
 refine ZnS (Zwl ZvI a (by omega) (fun i (n:Nat)=>(a.map fOf,b.map fOf,(n:Int),a.map fOf,(a.length:Int),i,false,false,([]:List Int),([]:List Int))) (fun k n=>n+(a.drop k).countP (inP b)=a.countP (inP b))
  (Q:=fun x=>x=(a.map fOf,((a.countP (inP b):Nat):Int),false,false,[],[])) 0 (by simp) ?_ ?_) ?_
 ·rintro rec k n hk hP ih;have hq:a[k]∈a:=ZDB hk;have hd:a.drop k=a[k]::a.drop (k+1):=ZDy hk;have hmax:a.countP (inP b)≤a.length:=ZDx;rw[hd,List.countP_cons]at hP;unfold Zs6 ZrG Zsr Zsq;dsimp only;have h0:0 < b.length:=by omega
  have hl:b.length - 1 < b.length:=by omega
  have i0:idx (b.map fOf) 0=some (fOf b[0]):=by rw[show (0:Int)=((0:Nat):Int)from rfl,Zvl (by rw[ZDE];omega),ZDA]
  have i1:idx (b.map fOf) (((b.map fOf).length:Int) - 1)=some (fOf b[b.length - 1]):=by rw[ZDE,show (b.length:Int) - 1=((b.length - 1:Nat):Int) by omega,Zvl (by rw[ZDE];omega),ZDA]
  rw[decide_eq_true (show (k:Int) < (a.length:Int) by omega),cond_true,Zvl (by rw[ZDE];exact hk),ZnE,ZnC,ZDA,i0,ZnE,ZnC,ZxI ((ha _ hq).wq (by omega)) ((hb _ (ZDB h0)).wq (by omega)),ZnE,ZnC,ZnW];have hin:inP b a[k]=(decide (ZxM a[k] b[0]≥0)&&decide (ZxM a[k] b[b.length - 1]≤0)):=by
   unfold inP;rw[ZvD h0,ZvD hl];congr 1
   ·rw[ZBd,decide_eq_true_eq,decide_eq_true_eq,Zze]
   ·rw[ZBd,decide_eq_true_eq,decide_eq_true_eq,Zxp]
  refine⟨fun hc=> ?_,fun hc=> ?_⟩
  ·rw[ZnG,i1,ZnE,ZnC,ZxI ((ha _ hq).wq (by omega)) ((hb _ (ZDB hl)).wq (by omega)),ZnE,ZnC,ZnW];refine⟨ZnH (by rw[ZDE];omega),fun hc2=> ?_,fun hc2=> ?_⟩
   ·rw[hin,hc,hc2]at hP;simp only[Bool.and_self,if_true]at hP;rw[ZnG,ZnG];exact⟨ZnH (by omega),ZnH (by omega),ih (n+1) (by omega)⟩
   ·rw[hin,hc,hc2]at hP;simp only[Bool.and_false,Bool.false_eq_true,if_false]at hP;rw[ZnG];exact⟨ZnH (by omega),ih n (by omega)⟩
  ·rw[hin,hc]at hP;simp only[Bool.false_and,Bool.false_eq_true,if_false]at hP;rw[cond_false,ZnG];exact⟨ZnH (by omega),ih n (by omega)⟩
 ·rintro rec n hP;unfold Zs6 ZrG;dsimp only;rw[List.drop_length,List.countP_nil]at hP;rw[decide_eq_false (show ¬(a.length:Int) < (a.length:Int) by omega),cond_false,ZnC];rw[show n=a.countP (inP b) by omega]
 ·rintro _ rfl;have hmax:a.countP (inP b)≤a.length:=ZDx;unfold ZtV;dsimp only;rw[ZDE,Zyd _ _ (by omega) (by omega) (by omega) (by omega) (by omega),ZnE,ZnC,ZnC]
theorem ZAr {b:List Rat} (hb:b.length≠0) (c x:Rat):inP (b.map (· +c)) (x+c)=inP b x:=by
 unfold inP;rw[ZDE,Zww (by omega),Zww (by omega)];congr 1
 ·rw[ZBd,decide_eq_true_eq,decide_eq_true_eq];grind
 ·rw[ZBd,decide_eq_true_eq,decide_eq_true_eq];grind
theorem ZyT {a b:List Rat} (hb:b.length≠0) (c:Rat):(a.map (· +c)).countP (inP (b.map (· +c)))=a.countP (inP b):=by rw[List.countP_map];congr 1;funext x;exact ZAr hb c x
theorem ZC6 {a:List Rat} {k:Rat} (ha:∀q∈a,Sz 4 q) (hk:Sz 5 k) (hn:a.length≤1000) (p:Int) (d:ZnB) (b y:List ZnA):
  wp (Zof big p ((a.map fOf).length:Int) 0 d (a.map fOf) b (fOf k) [] y) (fun x=>x=(p,d,a.map fOf,b,fOf k,(a.map (· +k)).map fOf,y)):=by
 refine Zwl ZtI a (by omega) (fun i (o:List ZnA)=>(p,((a.map fOf).length:Int),i,d,a.map fOf,b,fOf k,o,y)) (fun j o=>o=((a.take j).map (· +k)).map fOf) [] (by simp) ?_ ?_
 ·rintro rec j o hj rfl ih;have hq:a[j]∈a:=ZDB hj;unfold Zpi ZoA;dsimp only;rw[decide_eq_true (show (j:Int) < ((a.map fOf).length:Int) by rw[ZDE];omega),cond_true,ZnG,Int.toNat_natCast,List.getElem?_map,List.getElem?_eq_getElem hj,Option.map_some,ZnE,ZnC,Zxt (ha _ hq) hk (by omega),ZnE,ZnC,ZnG,ZnG];refine⟨Zqm ⟨by omega,by rw[ZDE];omega⟩,ZsT (by simp only[ZDE,List.length_take,ZDF];omega),ZnH (by omega),ih _ ?_⟩;rw[ZDI hj,ZDG,ZDG];rfl
 ·rintro rec o rfl;unfold Zpi ZoA;dsimp only;rw[decide_eq_false (show ¬(a.length:Int) < ((a.map fOf).length:Int) by rw[ZDE];omega),cond_false,ZnC,List.take_length]
theorem ZC5 {b:List Rat} {k:Rat} (hb:∀q∈b,Sz 4 q) (hk:Sz 5 k) (hn:b.length≤1000) (p:Int) (d:ZnB) (a x:List ZnA):
  wp (Zoe big p ((b.map fOf).length:Int) 0 d a (b.map fOf) (fOf k) x []) (fun y=>y=(p,d,a,b.map fOf,fOf k,x,(b.map (· +k)).map fOf)):=by
 refine Zwl ZtH b (by omega) (fun i (o:List ZnA)=>(p,((b.map fOf).length:Int),i,d,a,b.map fOf,fOf k,x,o)) (fun j o=>o=((b.take j).map (· +k)).map fOf) [] (by simp) ?_ ?_
 ·rintro rec j o hj rfl ih;have hq:b[j]∈b:=ZDB hj;unfold Zph Zoz;dsimp only;rw[decide_eq_true (show (j:Int) < ((b.map fOf).length:Int) by rw[ZDE];omega),cond_true,ZnG,Int.toNat_natCast,List.getElem?_map,List.getElem?_eq_getElem hj,Option.map_some,ZnE,ZnC,Zxt (hb _ hq) hk (by omega),ZnE,ZnC,ZnG,ZnG];refine⟨Zqm ⟨by omega,by rw[ZDE];omega⟩,ZsT (by simp only[ZDE,List.length_take,ZDF];omega),ZnH (by omega),ih _ ?_⟩;rw[ZDI hj,ZDG,ZDG];rfl
 ·rintro rec o rfl;unfold Zph Zoz;dsimp only;rw[decide_eq_false (show ¬(b.length:Int) < ((b.map fOf).length:Int) by rw[ZDE];omega),cond_false,ZnC,List.take_length]
theorem Zzt (c:ZnO) (hn:c.Cells.length≤1000):wp (Zod big (c.Cells.length:Int) 0 c [] []) (fun x=>x=(c,[],c.Cells.reverse)):=by
 refine Zwl ZtG c.Cells (by omega) (fun i (o:List ZnD)=>((c.Cells.length:Int),i,c,([]:Str),o)) (fun j o=>o=(c.Cells.drop (c.Cells.length - j)).reverse) [] (by simp) ?_ ?_
 ·rintro rec j o hj rfl ih;unfold Zpg Zoy;dsimp only;have hlt:c.Cells.length - 1 - j < c.Cells.length:=by omega
  rw[decide_eq_true (show (j:Int) < (c.Cells.length:Int) by omega),cond_true,ZnG,ZnG,show ((c.Cells.length:Int) - 1) - (j:Int)=((c.Cells.length - 1 - j:Nat):Int) by omega,Zvl hlt,ZnE,ZnC,ZnG,ZnG];refine⟨ZnH (by omega),ZnH (by omega),ZsT (by rw[List.length_reverse,List.length_drop,ZDF];omega),ZnH (by omega),ih _ ?_⟩;have e:c.Cells.drop (c.Cells.length - (j+1))=c.Cells[c.Cells.length - 1 - j]::c.Cells.drop (c.Cells.length - j):=by rw[show c.Cells.length - (j+1)=c.Cells.length - 1 - j by omega,ZDy hlt,show c.Cells.length - 1 - j+1=c.Cells.length - j by omega]
  rw[e,List.reverse_cons]
 ·rintro rec o rfl;unfold Zpg Zoy;dsimp only;rw[decide_eq_false (show ¬(c.Cells.length:Int) < (c.Cells.length:Int) by omega),cond_false,ZnC,show c.Cells.length - c.Cells.length=0 by omega,List.drop_zero]
theorem ZxT {l:List Rat} (hl:∀q∈l,Sz 40 q) (hn:l.length≤1000):Zo4 (l.map fOf) (l.map fOf)=some true:=by
 refine ZpW ?_;unfold Zo4;rw[show (((l.map fOf).length:Int) != ((l.map fOf).length:Int))=false by simp,cond_false,ZnE];refine ZnS (Zwl Zuh l (by omega) (fun i (_:Unit)=>(l.map fOf,l.map fOf,((l.map fOf).length:Int),i)) (fun _ _=>True) (Q:=fun x=>x= .brk ()) () trivial ?_ ?_) ?_
 ·rintro rec j _ hj _ ih;have hq:l[j]∈l:=ZDB hj;unfold Zqn Zo1;dsimp only;rw[decide_eq_true (show (j:Int) < ((l.map fOf).length:Int) by rw[ZDE];omega),cond_true,Zvl (by rw[ZDE];exact hj),ZnE,ZnC,ZnE,ZnC,ZDA,ZvA _ _ ((hl _ hq).wq (by omega)) ((hl _ hq).wq (by omega)),ZnE,ZnC,decide_eq_true rfl,Bool.not_true,cond_false,ZnG];exact⟨ZnH (by omega),ih () trivial⟩
 ·rintro rec _ _;unfold Zqn Zo1;dsimp only;rw[decide_eq_false (show ¬(l.length:Int) < ((l.map fOf).length:Int) by rw[ZDE];omega),cond_false,ZnC]
 ·rintro _ rfl;unfold ZqW;rw[ZnC]
theorem ZyF {d:ZnB} (hd:ZtE d):ZnJ false d=some true:=by
 refine ZpW ?_;unfold ZnJ;rw[cond_false,ZnE];refine ZnS (ZyU hd 7 (by omega)) ?_;rintro⟨c,d1⟩ ⟨⟨hlen,hc⟩,_⟩;dsimp only at hlen hc⊢
 rw[ZnE];refine ZnS (Zzt c (by omega)) ?_;rintro _ rfl;unfold ZpK ZoL;dsimp only;rw[Zxb hc (by omega),ZnE,ZnC,Zxb (c:=⟨[],c.Cells.reverse⟩) (fun x hx=>hc x (List.mem_reverse.1 hx)) (by dsimp only;rw[List.length_reverse];omega),ZnE,ZnC];have e:ZuN ltQ (Zwa c.Cells.reverse)=ZuN ltQ (Zwa c.Cells):=Zyp (List.Perm.filterMap nv (List.reverse_perm _));dsimp only;rw[e,ZxT (fun q hq=>(ZxK q ((ZvC _).mem_iff.1 hq)).mono (by omega)) (by rw[Zv4];exact Nat.le_trans (List.length_filterMap_le _ _) (by omega)),ZnE,ZnC,cond_true,Zx1,ZnE,ZnC,ZnC]
theorem ZA3 {n:Int} (h:n.natAbs < 32):Sz 5 (n:Rat):=by rw[←Zxh];exact Zwq (k:=5) (by decide) h (by decide)
theorem ZA2 {r:Int} {n:Nat} (h0:0≤r) (h1:r≤(n:Int)) (hn:0 < n) (h2:n≤100):Sz 40 (Rat.divInt r (n:Int)):=
 (Zwq (k:=7) (by omega) (by omega) (by omega)).mono (by omega)
theorem ZyE {d:ZnB} (hd:ZtE d) {a b:List Rat} {k:Rat} (ha:∀q∈a,Sz 4 q) (hb:∀q∈b,Sz 4 q) (hk:Sz 5 k) (hna:a.length≤8) (hnb:b.length≤8) (ha0:a.length≠0) (hb0:b.length≠0) (p:Int):
  ZoK p d (a.map fOf) (b.map fOf) (fOf k) ((a.map (· +k)).map fOf) ((b.map (· +k)).map fOf)=some true:=by
 have hs:∀l:List Rat,(∀q∈l,Sz 4 q)→∀q∈l.map (· +k),Sz 40 q:=by intro l hl q hq;obtain⟨x,hx,rfl⟩:=List.mem_map.1 hq;exact((hl x hx).add hk).mono (by omega)
 have ha4:∀q∈a,Sz 40 q:=fun q hq=>(ha q hq).mono (by omega)
 have hb4:∀q∈b,Sz 40 q:=fun q hq=>(hb q hq).mono (by omega)
 refine ZpW ?_;unfold ZoK;rw[ZnE];obtain⟨m,hm,hm0,hm1⟩:=ZyG p (m:=8) (by omega);obtain⟨q,rfl⟩:=Int.eq_ofNat_of_zero_le hm0;rw[hm,ZnC];have r1:=ZxU (l:=a) (by omega) (by omega) ha4 (p:=q) (n:=7) (by omega) (by omega) (by omega);have r2:=ZxU (l:=a.map (· +k)) (by rw[ZDE];omega) (by rw[ZDE];omega) (hs a ha) (p:=q) (n:=7) (by omega) (by omega) (by omega);rw[show ((7:Nat):Int)=7 from rfl]at r1 r2;have hlt:=ZA9 (p:=q) (q:=7) (n:=a.length) (by omega) (by omega) (by omega);rw[ZDE,Zww hlt]at r2;have hg:Sz 4 (gR a (rk a.length q 7)):=by rw[ZvD hlt];exact ha _ (ZDB hlt)
 obtain⟨d1,e1,p1⟩:=Zx0 ha4 hb4 (by omega) (by omega) ha0 hb0;obtain⟨d2,e2,p2⟩:=Zx0 (hs a ha) (hs b hb) (by rw[ZDE];omega) (by rw[ZDE];omega) (by rw[ZDE];exact ha0) (by rw[ZDE];exact hb0);have h12:d2=d1:=p2.det (p1.add k);subst h12;rw[ZDE,ZDE]at e2;have hp:0 < a.length*b.length:=Nat.mul_pos (by omega) (by omega);have hmm:a.length*b.length≤8*8:=Nat.mul_le_mul hna hnb;have hbd:=p1.bound (Int.le_refl 0) (by omega);have hds:=ZA2 hbd.1 hbd.2 hp (by omega);have hcnt:a.countP (inP b)≤a.length:=ZDx;have i1:=ZxG ha4 hb4 (by omega) (by omega) ha0 hb0;have i2:=ZxG (hs a ha) (hs b hb) (by rw[ZDE];omega) (by rw[ZDE];omega) (by rw[ZDE];exact ha0) (by rw[ZDE];exact hb0);rw[ZyT hb0,ZDE]at i2;have his:=ZA2 (r:=((a.countP (inP b):Nat):Int)) (n:=a.length) (by omega) (by omega) (by omega) (by omega);rw[r1,ZnE,ZnC];dsimp only;rw[ZnE,ZnC,r2,ZnE,ZnC];dsimp only;rw[e1,ZnE,ZnC];dsimp only;rw[e2,ZnE,ZnC];dsimp only;rw[show ((0:Int) != 0)=false from rfl,cond_false,cond_false,cond_false,cond_false,Zxt hg hk (by omega),ZnE,ZnC,ZvA _ _ ((hg.add hk).wq (by omega)) ((hg.add hk).wq (by omega)),ZnE,ZnC,decide_eq_true rfl,Bool.not_true,cond_false,
  ZvA _ _ (hds.wq (by omega)) (hds.wq (by omega)),ZnE,ZnC,decide_eq_true rfl,Bool.not_true,cond_false,i1,ZnE,ZnC,i2,ZnE,ZnC,ZvA _ _ (his.wq (by omega)) (his.wq (by omega)),ZnE,ZnC,decide_eq_true rfl,Bool.not_true,ZyF hd,ZnC]
theorem quantileMoves_law (t:List Int) (by_ p:Int):Zo2 t by_ p=some true:=by
 refine ZpW ?_;unfold Zo2 ZrF;rw[ZnE,ZnC,ZnW];refine⟨fun _=>by rw[Zx1,ZnE,ZnC,ZnC],fun hl=> ?_⟩;simp only[Bool.not_eq_false',decide_eq_true_eq]at hl;unfold ZrX;rw[ZnE,ZnC,ZnE];refine ZnS (ZwG (d:=⟨t,0⟩) ⟨by simp,by simp,by simp only;omega⟩ 8 (by omega)) ?_;rintro⟨l',d'⟩ ⟨⟨a,hal,han,haa,has⟩,hd'⟩;dsimp only at hal hd'⊢
 subst hal;rw[ZnE];refine ZnS (ZwG hd' 8 (by omega)) ?_;rintro⟨l',d''⟩ ⟨⟨b,hbl,hbn,hba,hbs⟩,hd''⟩;dsimp only at hbl hd''⊢
 subst hbl;have key:∀x:Bool,(x=false→a.length≠0∧b.length≠0)→Zog by_ p x d'' (a.map fOf) (b.map fOf)=some true:=by
  intro x hx;unfold Zog;cases x with
  |true=>rw[cond_true,Zx1];rfl
  |false=>
   obtain⟨ha0,hb0⟩:=hx rfl;refine ZpW ?_;rw[cond_false,ZnE];refine ZnS (ZyG by_ (m:=50) (by omega)) fun m hm=> ?_
   have hk:Sz 5 ((m - 25:Int):Rat):=ZA3 (by omega);rw[ZnG,Zwu _ (by omega) (by omega),ZnE,ZnC,ZnE];refine⟨ZnH (by omega),ZnS (ZC6 has hk (by omega) p d'' _ _) ?_⟩;rintro _ rfl;dsimp only;unfold ZpL;rw[ZnE];refine ZnS (ZC5 hbs hk (by omega) p d'' _ _) ?_;rintro _ rfl;dsimp only;rw[ZyE hd'' has hbs hk han hbn ha0 hb0,ZnC]
 rw[ZDE,ZDE,ZnW];refine⟨fun h=> ?_,fun h=> ?_⟩
 ·rw[key true (by simp),ZnC]
 ·rw[key _ ?_,ZnC];intro h2;exact⟨by simpa using h,by simpa using h2⟩
end Go.Proofs
namespace Eng
open Go Go.Lib
theorem globOk_one {Pg:Program} {w:World} {n:String} {g:Nat} {t e:TypeId} {k:IntKind} {z:Int} (hn:Pg.globalNamed n=some g) (hty:(Pg.globals[g]?).map (·.type)=some t)
  (ht:Pg.underlying t=some (.slice e)) (he:Pg.underlying e=some (.int k)) (hce:Pg.cellsOf e=1) (hz:k.min≤z∧z≤k.max)
  (h:VarReads Pg w n (.slice [.lit (.int k z)] [])):Zej w (fun b=>b < w.heap.size) g [P.sl 1 [.int k z]]:=by
 obtain⟨g',t',cs,fuel,p,hg,hty',hvar,hd⟩:=h;obtain rfl:=Option.some.inj (hn.symm.trans hg);obtain rfl:=Option.some.inj (hty.symm.trans hty');rcases DataW.trod_slice ht hd with ⟨_,hx⟩ |⟨a,len,cap,elems,rest,m,_,hcs,hx,_,hl,hcap,hlen,hel,_,_⟩
 ·cases congrArg Prod.fst hx
 ·have e0:=congrArg Prod.fst hx;simp only[DataW.slice.injEq]at e0;obtain⟨e1,_⟩:=e0
  match elems,e1 with
  | [(d,q)],e1=>
   simp only[List.map_cons,List.map_nil,List.cons.injEq,and_true]at e1;subst e1;have hlen1:len=1:=by simpa using hlen.symm
   subst hlen1;obtain⟨ci,hci,htr⟩:=Option.bind_eq_some_iff.1 (hel 0 (by decide));obtain⟨z',hc,hxx,_⟩:=DataW.trod_int he htr;have hzz:z'=z:=by have:=congrArg Prod.fst hxx;simpa using this.symm
   subst hzz;subst hc;rw[hce,Nat.zero_mul]at hci;obtain⟨_,_,hc2⟩:=World.cells?_some hci;have h0:=hc2 0 (by decide);have hb:w.cell? a=some (.int k z'):=by simpa[Addr.add]using h0
   have hspot:a.spot=none:=by
    unfold World.cell? at hb;cases hs:a.spot with
    |none=>rfl
    |some s=>rw[hs]at hb;split at hb<;>simp at hb
   have ha:a=⟨a.block,a.off,none⟩:=by cases a;simp at hspot;subst hspot;rfl
   have hlt:a.block < w.heap.size:=ZjV (by rw[ha]at hb;exact hb);have hcs1:cs.size=1:=by have:=congrArg List.length hcs;simpa using this
   refine Zv7 (t:=0) (fr:= #[]) (ZwO hn hvar) _ (by rw[hcs1];rfl) fun j v p hv hp=> ?_
   have hj:j=0:=by have:=(Array.getElem?_eq_some_iff.1 hv).1;omega
   subst hj;simp only[ZDz,Option.some.injEq]at hp;subst hp;rw[←Array.getElem?_toList,hcs]at hv;simp only[ZDz,Option.some.injEq]at hv;subst hv;refine⟨.sl (some a) 1 cap _ _ (fun _=> .int k z') rfl (by decide) hl (fun i hi=>rfl) (fun i hi=> ?_) (fun i x hx=> ?_),rfl⟩
   ·have hi0:i=0:=by omega
    subst hi0;refine⟨a.block,a.off,by rw[←ha],hlt,fun j v hv=> ?_⟩;have hj:=(Array.getElem?_eq_some_iff.1 hv).1;have hj0:j=0:=by have:(Value.int k z').cells.size=1:=rfl;omega
    subst hj0;have hvv:v= .int k z':=by have:(Value.int k z').cells[0]? =some (.int k z'):=rfl;exact Option.some.inj (hv.symm.trans this)
    subst hvv;rw[ha]at hb;simpa using hb
   ·have hi0:i=0:=by have:=(List.getElem?_eq_some_iff.1 hx).1;simp at this;omega
    subst hi0;simp only[ZDz,Option.some.injEq]at hx;subst hx;exact .int k z' hz.1 hz.2
end Eng
