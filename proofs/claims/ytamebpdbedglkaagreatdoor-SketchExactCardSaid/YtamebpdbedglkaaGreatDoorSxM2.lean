/- Plain laws over the specs, part 2. -/
import Derived.Test.YtamebpdbedglkaaGreatDoorSxM1
import Derived.Test.YtamebpdbedglkaaGreatDoorSxM0
import Derived.Test.YtamebpdbedglkaaGreatDoorQ
set_option linter.unusedVariables false
set_option linter.unusedSimpArgs false
set_option linter.unusedSectionVars false
open Bool renaming not_true→ZHE, not_false→ZHD, and_eq_true→ZEU
open Int renaming toNat_natCast→ZHF
open List renaming length_append→ZHP, all_eq_true→ZHG, length_cons→ZHQ, getElem_mem→ZHO, length_singleton→ZHU, length_take→ZHV, append_nil→ZHI, mem_cons→ZHZ, nil_append→ZH2, mem_map→ZH0, getElem?_eq_getElem→ZHM, length_nil→ZHT, append_assoc→ZHH, take_succ_eq_append_getElem→ZH6, take_length→ZH5, mem_append→ZHY, foldl_cons→ZHK, map_cons→ZHX, length_zip→ZHW, length_map→ZHS, singleton_append→ZH4, not_mem_nil→ZH3, mem_singleton→ZH1, length_filterMap_le→ZHR, getElem?_eq_some_iff→ZHN, countP_le_length→ZHJ, getElem?_cons_zero→ZHL
open Nat renaming le_trans→ZH7
open Option renaming bind_some→ZH8, some.inj→ZH9
namespace Go.Proofs
open Go Eng
theorem ZBC (Pre:List En1) (b i0:Int) {A0 C0:List En1} {x:En1} (hlen:(Pre++(A0++x::C0)).length≤1000):
  wp (ZnS big (Pre.length:Int) b i0 ((Pre.length+A0.length:Nat):Int) (Pre++(A0++x::C0))) (fun y=>y=((Pre.length:Int),b,i0,Pre++(ZAP ltE x A0++C0))):=by
 refine Zv3 Ztk (fun(s:List En1×List En1)=>((Pre.length:Int),b,i0,((Pre.length+s.1.length:Nat):Int),Pre++(s.1++x::s.2))) (fun s=>ZAP ltE x s.1++s.2=ZAP ltE x A0++C0∧(Pre++(s.1++x::s.2)).length≤1000) (fun s=>s.1.length)
  (Q:=fun y=>y=((Pre.length:Int),b,i0,Pre++(ZAP ltE x A0++C0))) (A0,C0) ⟨rfl,hlen⟩ (by dsimp only;simp only[ZHP]at hlen;omega) ?_
 rintro rec ⟨A,C⟩ ⟨hR,hl⟩ ih;dsimp only at hR hl ih⊢
 unfold Zp9 ZoU Zoq;dsimp only;rcases List.eq_nil_or_concat A with rfl |⟨A,p,rfl⟩
 ·rw[Zoh];refine⟨fun h=>by simp at h,fun _=> ?_⟩;rw[cond_false,ZnE];rw[ZCP]at hR;rw[←hR];rfl
 ·rw[List.concat_eq_append]at*
  simp only[ZHP,ZHQ,ZHT]at hl;have e0:Pre++((A++[p])++x::C)=(Pre++A)++p::x::C:=by simp
  have hla:(Pre++A).length=Pre.length+A.length:=ZHP;have ei:((Pre.length+(A++[p]).length:Nat):Int)=(((Pre++A).length+1:Nat):Int):=by rw[hla,ZHP,ZHU];omega
  have ej:((Pre.length+(A++[p]).length:Nat):Int) - 1=((Pre++A).length:Int):=by rw[ei];omega
  have g1:((Pre++A)++p::x::C)[(Pre++A).length+1]? =some x:=by rw[List.getElem?_append_right (by omega),show (Pre++A).length+1 - (Pre++A).length=1 by omega];rfl
  have g0:((Pre++A)++p::x::C)[(Pre++A).length]? =some p:=by rw[List.getElem?_append_right (by omega),Nat.sub_self];rfl
  rw[Zoh];refine⟨fun _=> ?_,fun h=>by simp only[decide_eq_false_iff_not]at h;rw[ei,hla]at h;omega⟩;rw[ej,ei,e0];simp only[ZHF,g1,g0,ZH8];have ll:((Pre++A)++p::x::C).length=(Pre++A).length+2+C.length:=by rw[ZHP (bs:=p::x::C)];simp only[ZHQ];omega
  have lx:inR (((Pre++A).length+1:Nat):Int) (((Pre++A)++p::x::C).length:Int)=true:=ZpI ⟨by omega,by omega⟩;have lp:inR ((Pre++A).length:Int) (((Pre++A)++p::x::C).length:Int)=true:=ZpI ⟨by omega,by omega⟩;have lp':inR ((Pre++A).length:Int) ((((Pre++A)++p::x::C).set ((Pre++A).length+1) p).length:Int)=true:=by rw[List.length_set];exact lp
  have ki:inK .i64 ((Pre++A).length:Int)=true:=ZnL (by omega);rw[lx,lp,lp',ki];simp only[chk_true];rw[ZxV,ZnG,ZnE];rw[ZB2]at hR;have hlt:ltE x p=decide (Zv2 x p < 0):=rfl;rw[Zoh];refine⟨fun hc=> ?_,fun hc=> ?_⟩
  ·rw[hlt,if_pos hc]at hR;rw[ZBM];have:=ih (A,p::C) ⟨by rw[←hR];simp,by simp only[ZHP,ZHQ];omega⟩ (by simp);dsimp only at this;rw[←hla,←ZHH]at this;exact this
  ·rw[hlt,if_neg (by rw[hc];simp)]at hR;rw[ZnE,←hR];simp
theorem ZB3 (Pre M Suf:List En1) (hl:(Pre++(M++Suf)).length≤1000):
  Zn9 (Pre++(M++Suf)) (Pre.length:Int) ((Pre.length+M.length:Nat):Int)=some (Pre++(Zwk ltE M++Suf)):=by
 have hlen:Pre.length+M.length+Suf.length≤1000:=by simp only[ZHP]at hl;omega
 have key:Zoz (Pre++(M++Suf)) (Pre.length:Int) ((Pre.length+M.length:Nat):Int)=some (Pre++(Zwk ltE M++Suf)):=by
  refine Zso ?_;unfold Zoz Zo5;rw[ZnJ,ZnG];refine⟨ZnL (by omega), ?_⟩;have out:∀(k f:Nat),k+1≤M.length→M.length - (k+1) < f→wp (Zn5 f (Pre.length:Int) ((Pre.length+M.length:Nat):Int) ((Pre.length+(k+1):Nat):Int) (Pre++((Zwk ltE (M.take (k+1))++M.drop (k+1))++Suf))) (fun y=>y=Pre++(Zwk ltE M++Suf)):=by
   intro k f
   induction f generalizing k with
   |zero=>intro _ h;omega
   |succ f ih=>
    intro hk hf;show wp (Zn2 _ _ _ _ _) _;unfold Zn2 Zo6;rw[Zoh];refine⟨fun hc=> ?_,fun hc=> ?_⟩
    ·simp only[decide_eq_true_eq]at hc;have hk2:k+1 < M.length:=by omega
     have hlen2:(Zwk ltE (M.take (k+1))).length=k+1:=by rw[ZwA,ZHV];omega
     have e:M.drop (k+1)=M[k+1]::M.drop (k+2):=List.drop_eq_getElem_cons hk2;rw[e];have:=ZBC Pre ((Pre.length+M.length:Nat):Int) ((Pre.length+(k+1):Nat):Int) (A0:=Zwk ltE (M.take (k+1))) (C0:=M.drop (k+2)++Suf) (x:=M[k+1]) (by simp only[ZHP,ZHQ,hlen2,List.length_drop];omega);rw[hlen2]at this;rw[ZnG,ZHH,List.cons_append];refine ZnV this ?_;rintro y rfl;dsimp only;rw[ZnJ];refine⟨ZnL (by omega), ?_⟩;have e2:ZAP ltE M[k+1] (Zwk ltE (M.take (k+1)))=Zwk ltE (M.take (k+2)):=by rw[ZH6 hk2,ZBA]
     rw[e2];have:=ih (k+1) (by omega) (by omega);rw[show ((Pre.length+(k+1):Nat):Int)+1=((Pre.length+(k+1+1):Nat):Int) by omega];rw[ZHH]at this;exact this
    ·simp only[decide_eq_false_iff_not]at hc;have:k+1=M.length:=by omega
     rw[ZnE,this,ZH5,List.drop_of_length_le (Nat.le_refl _),ZHI]
  by_cases h0:M.length=0
  ·have:M=[]:=List.eq_nil_of_length_eq_zero h0;subst this;obtain⟨n,hn⟩:=ZyR 1 (by omega);rw[hn];show wp (Zn2 _ _ _ _ _) _;unfold Zn2;rw[ZHT,decide_eq_false (by omega),cond_false,ZnE,ZnE];rfl
  ·have:=out 0 big (by omega) (by rw[big_eq];omega);have e:Zwk ltE (M.take (0+1))++M.drop (0+1)=M:=by
    cases M with
    |nil=>simp at h0
    |cons x M=>rfl
   rw[e]at this;rw[show ((Pre.length:Int))+1=((Pre.length+(0+1):Nat):Int) by omega];refine ZnV this ?_;rintro y rfl;rw[ZnE]
 unfold Zn9;rw[key,ZH8];have:(Pre++(Zwk ltE M++Suf)).length=(Pre++(M++Suf)).length:=by simp only[ZHP,ZwA]
 rw[this,decide_eq_true rfl];rfl
def Le (a b:En1):Prop:=Zv2 a b≤0
theorem ZEV {a b:En1} (h:Zv2 a b=0):a.Hash=b.Hash∧a.Key=b.Key:=by
 unfold Zv2 at h;split at h
 ·simp at h
 ·split at h
  ·simp at h
  ·exact⟨by omega,ZAo h⟩
theorem ZC1 {a b c:En1} (h:Zv2 a b=0):Zv2 a c=Zv2 b c:=by obtain⟨h1,h2⟩:=ZEV h;unfold Zv2;rw[h1,h2]
theorem Le.trans {a b c:En1} (h1:Le a b) (h2:Le b c):Le a c:=by
 unfold Le at*
 by_cases e:Zv2 a b=0
 ·rw[ZC1 e];exact h2
 ·by_cases e2:Zv2 b c=0
  ·have h3:=ZC1 (a:=b) (b:=c) (c:=a) e2;have n1:=Zyh a c;have n2:=Zyh a b;omega
  ·have:=Zz0 (show Zv2 a b < 0 by omega) (show Zv2 b c < 0 by omega);omega
theorem ZzD {a b:En1} (h:¬Zv2 a b < 0):Le b a:=by have:=Zyh a b;unfold Le;omega
theorem Zy2 (l:List En1):(Zwk ltE l).Pairwise Le:=
 Zzk (fun _=>True) Le (fun x p _ _ h=>by have:=of_decide_eq_true h;unfold Le;omega) (fun x p _ _ h=>ZzD (of_decide_eq_false h)) (fun a b c _ _ _ h1 h2=>h1.trans h2) l fun _ _=>trivial
def ZAq (d:List En1) (i:Nat):Prop:=∀k x y,k+1 < i→d[k]? =some x→d[k+1]? =some y→Le x y
theorem ZBq {d:List En1} (h:ZAq d d.length):d.Pairwise Le:=by
 have key:∀(j i:Nat) (hij:i < j) (hj:j < d.length),Le (d[i]'(by omega)) d[j]:=by
  intro j
  induction j with
  |zero=>intro i h;omega
  |succ j ih=>
   intro i hij hj;have hs:=h j d[j] d[j+1] (by omega) (ZHM (by omega)) (ZHM hj);rcases Nat.lt_or_eq_of_le (Nat.le_of_lt_succ hij)with h1 |h1
   ·exact(ih i h1 (by omega)).trans hs
   ·subst h1;exact hs
 exact List.pairwise_iff_getElem.2 fun i j hi hj hij=>key j i hij hj
theorem ZBu {d:List En1} (h1:1≤d.length) (hn:d.length < 50):
  wp (ZnU d 0 (d.length:Int)) (fun x=>x.2=d∧(x.1=true→d.Pairwise Le)):=by
 have key:wp (Zog d 0 (d.length:Int)) (fun x=>x.2=d∧(x.1=true→d.Pairwise Le)):=by
  unfold Zog;rw[ZnJ,ZnG];refine⟨ZnL (by omega), ?_⟩;obtain⟨n,hbig⟩:=ZyR 1 (by omega);rw[hbig];show wp (Zov _ 0 (d.length:Int) 1 0 d) _;unfold Zov;rw[show decide ((0:Int) < 5)=true from rfl,cond_true,ZnG];refine ZnV (Zv3 Zsj (fun i:Nat=>((0:Int),(d.length:Int),(i:Int),(0:Int),d)) (fun i=>1≤i∧i≤d.length∧ZAq d i) (fun i=>d.length - i)
   (Q:=fun x=>∃i:Nat,x=(0,(d.length:Int),(i:Int),0,d)∧i≤d.length∧ZAq d i) 1 ⟨by omega,h1,fun k x y hk=>by omega⟩ (by omega) ?_) ?_
  ·rintro rec i ⟨h2,h3,h4⟩ ih;unfold Zpz Zou Zoa;dsimp only
   by_cases hc:i < d.length
   ·have hi1:i - 1 < d.length:=by omega
    rw[decide_eq_true (show (i:Int) < (d.length:Int) by omega),cond_true,ZnJ,ZHF,ZHM hc,ZnG,ZnE,ZnJ,show (i:Int) - 1=((i - 1:Nat):Int) by omega,ZnJ,ZHF,ZHM hi1,ZnG,ZnE,ZxV,ZnG,ZnE];refine⟨ZuH hc,ZnL (by omega),ZuH hi1, ?_⟩
    by_cases ho:Zv2 d[i] d[i - 1] < 0
    ·rw[decide_eq_true ho,ZHE,cond_false,ZnE];exact⟨i,rfl,h3,h4⟩
    ·rw[decide_eq_false ho,ZHD,cond_true,ZnJ];refine⟨ZnL (by omega),ih (i+1) ⟨by omega,by omega,fun k x y hk hx hy=> ?_⟩ (by omega)⟩
     by_cases e:k+1=i
     ·have ek:k=i - 1:=by omega
      subst ek;rw[ZHM hi1]at hx;rw[show i - 1+1=i by omega,ZHM hc]at hy;rw[←ZH9 hx,←ZH9 hy];exact ZzD ho
     ·exact h4 k x y (by omega) hx hy
   ·rw[decide_eq_false (show ¬(i:Int) < (d.length:Int) by omega),cond_false,cond_false,ZnE];exact⟨i,rfl,h3,h4⟩
  ·rintro _ ⟨i,rfl,h2,h3⟩;unfold ZoE;dsimp only
   by_cases e:i=d.length
   ·rw[show ((i:Int) == (d.length:Int))=true by rw[e];simp,cond_true,ZnE];dsimp only;rw[ZnE];exact⟨rfl,fun _=>ZBq (e▸h3)⟩
   ·rw[show ((i:Int) == (d.length:Int))=false by rw[beq_eq_false_iff_ne];omega,cond_false,ZnJ,decide_eq_true (show (d.length:Int) - 0 < 50 by omega),cond_true,ZnE];dsimp only;rw[ZnE];exact⟨ZnL (by omega),rfl,fun h=>by cases h⟩
 unfold ZnU;rw[ZnG];refine ZnV key ?_;rintro⟨b,x⟩ ⟨rfl,hx⟩;rw[ZnJ,ZnE];exact⟨by simp,rfl,hx⟩
theorem ZzA {d:List En1} {a b:Nat} (ha:a < d.length) (hb:b < d.length) (s:Nat) (hs:s≤100):
  wp (Zob d (a:Int) (b:Int) (s:Int)) (fun x=>∃a' b' s':Nat,x=((a':Int),(b':Int),d,(s':Int))∧a' < d.length∧b' < d.length∧s'≤s+1):=by
 unfold Zob Zqe;rw[ZnG,ZnJ,ZHF,ZHM hb,ZnG,ZnE,ZnJ,ZHF,ZHM ha,ZnG,ZnE,ZxV,ZnG,ZnE,Zoh];refine⟨ZuH hb,ZuH ha,fun _=> ?_,fun _=> ?_⟩
 ·rw[ZnJ,ZnE,ZnJ,ZnE];exact⟨ZnL (by omega),by simp,b,a,s+1,rfl,hb,ha,Nat.le_refl _⟩
 ·rw[ZnE,ZnJ,ZnE];exact⟨by simp,a,b,s,rfl,ha,hb,by omega⟩
theorem ZCG {d:List En1} (h1:13=d.length):
  wp (Zof d 0 (d.length:Int)) (fun x=>∃(pv:Nat) (h:Int),x=((pv:Int),h,d)∧pv < d.length∧h≠2):=by
 unfold Zof ZpG Zox Zow ZoX Zqf;rw[←h1,ZnG];rw[show ((13:Nat):Int) - 0=13 from rfl,show Int.tdiv 13 4=3 from rfl,show decide ((13:Int)≥8)=true from rfl,show decide ((13:Int)≥50)=false from rfl,cond_true,cond_false,show (0:Int)+3*1=((3:Nat):Int)from rfl,show (0:Int)+3*2=((6:Nat):Int)from rfl,show (0:Int)+3*3=((9:Nat):Int)from rfl];simp only[ZnJ];refine⟨rfl,rfl,rfl,rfl,rfl,rfl,rfl,rfl,rfl,rfl,rfl,rfl,rfl, ?_⟩;rw[ZnG,ZnG,ZnG];refine ZnV (ZzA (d:=d) (a:=3) (b:=6) (by omega) (by omega) 0 (by omega)) ?_;rintro _ ⟨a1,b1,s1,rfl,q1,q2,q3⟩;dsimp only;rw[ZnG];refine ZnV (ZzA (d:=d) (a:=b1) (b:=9) q2 (by omega) s1 (by omega)) ?_;rintro _ ⟨b2,c1,s2,rfl,q4,q5,q6⟩;dsimp only;rw[ZnG];refine ZnV (ZzA (d:=d) (a:=a1) (b:=b2) q1 q4 s2 (by omega)) ?_;rintro _ ⟨a2,b3,s3,rfl,q7,q8,q9⟩;dsimp only;rw[ZnE];dsimp only;rw[ZnJ,ZnE];dsimp only;refine⟨by simp[h1.symm], ?_⟩;rw[Zoh];refine⟨fun _=> ?_,fun _=> ?_⟩
 ·rw[ZnE];dsimp only;refine⟨by simp[h1.symm], ?_⟩;rw[ZnE];exact⟨b3,1,rfl,h1▸q8,by decide⟩
 ·rw[show ((s3:Int) == 12)=false by rw[beq_eq_false_iff_ne];omega,cond_false,ZnE];dsimp only;refine⟨by simp[h1.symm], ?_⟩;rw[ZnE];exact⟨b3,0,rfl,h1▸q8,by decide⟩
def ZA0 (D r:List En1):Prop:=r.Perm D∧r.Pairwise Le
theorem ZzZ (Pre M Suf:List En1) (hl:(Pre++(M++Suf)).length≤1000) (hm:M.length≤12) (lim:Int):
  Zol (Pre++(M++Suf)) (Pre.length:Int) ((Pre.length+M.length:Nat):Int) lim=some (Pre++(Zwk ltE M++Suf)):=by
 have hlen:Pre.length+M.length+Suf.length≤1000:=by simp only[ZHP]at hl;omega
 obtain⟨k,hk⟩:=ZyR 1 (by omega);unfold Zol ZpP;rw[hk];show ((Zpa _ _ _ _ _ _ _).bind _).bind _=_;unfold Zpa;rw[ZnL (by omega),chk_true,decide_eq_true (show ((Pre.length+M.length:Nat):Int) - (Pre.length:Int)≤12 by omega),cond_true,ZB3 Pre M Suf hl,ZH8,ZH8];dsimp only;have:(Pre++(Zwk ltE M++Suf)).length=(Pre++(M++Suf)).length:=by simp only[ZHP,ZwA]
 rw[ZH8,this,decide_eq_true rfl];rfl
theorem Zzz (rec_:Int→Int→Int→Bool→Bool→List En1→Option (Out Unit (List En1))) (Pre M Suf:List En1) (hl:(Pre++(M++Suf)).length≤1000) (hm:M.length≤12) (lim:Int) (x y:Bool):
  ZnN rec_ (Pre.length:Int) ((Pre.length+M.length:Nat):Int) lim x y (Pre++(M++Suf))=some (.ret (Pre++(Zwk ltE M++Suf))):=by
 have hlen:Pre.length+M.length+Suf.length≤1000:=by simp only[ZHP]at hl;omega
 unfold ZnN;rw[ZnL (by omega),chk_true,decide_eq_true (show ((Pre.length+M.length:Nat):Int) - (Pre.length:Int)≤12 by omega),cond_true,ZB3 Pre M Suf hl,ZH8]
theorem ZAz {D L R:List En1} {p:En1} (hL:∀y∈L,Zv2 y p < 0) (hR:∀y∈R,¬Zv2 y p < 0) (hp:(L++p::R).Perm D):ZA0 D (Zwk ltE L++p::Zwk ltE R):=by
 have hl':∀y∈Zwk ltE L,Zv2 y p < 0:=fun y hy=>hL y ((ZvL _).mem_iff.1 hy)
 have hr':∀y∈Zwk ltE R,Le p y:=fun y hy=>ZzD (hR y ((ZvL _).mem_iff.1 hy))
 refine⟨((ZvL L).append ((ZvL R).cons p)).trans hp, ?_⟩;rw[List.pairwise_append,List.pairwise_cons];refine⟨Zy2 L,⟨hr',Zy2 R⟩,fun a ha b hb=> ?_⟩;have h1:Le a p:=Int.le_of_lt (hl' a ha);rcases ZHZ.1 hb with rfl |hb
 ·exact h1
 ·exact h1.trans (hr' b hb)
theorem ZDF {D:List En1} (h13:D.length=13) (n:Nat) (lim:Int) (wb wq:Bool) {pv:Nat} (hpv:pv < D.length):
  wp (Zom (ZnK (n+1)) 0 13 lim wb wq 13 (pv:Int) false D) (fun x=>∃r,x= .ret r∧ZA0 D r):=by
 unfold Zom ZoN;have hpart:=ZAC (D:=D) (by omega) (by omega) hpv;rw[h13,show ((13:Nat):Int)=13 from rfl]at hpart;rw[cond_false,ZnG,ZnG];refine ZnV hpart ?_;rintro⟨mid,ap,out⟩ ⟨L,p,R,ho,hm,hL,hR,hp⟩;dsimp only at ho hm⊢
 subst ho hm;have hlen:=hp.length_eq;rw[h13]at hlen;simp only[ZHP,ZHQ]at hlen;have hs:=ZAz hL hR hp;rw[ZnJ,ZnE];refine⟨by simp only[ZHP,ZHQ,h13];rw[Bool.and_true];exact decide_eq_true (by omega), ?_⟩;dsimp only;rw[ZnJ,ZnJ,ZnJ,ZnJ,Zoh];refine⟨ZnL (by omega),ZnL (by omega),rfl,rfl,fun hc=> ?_,fun hc=> ?_⟩
 ·have e1:=ZzZ [] L (p::R) (by simp only[ZH2,ZHP,ZHQ];omega) (by have:=of_decide_eq_true hc;omega) lim;rw[ZH2,ZHT,Nat.zero_add,ZH2,show ((0:Nat):Int)=0 from rfl]at e1;have e2:=Zzz (ZnK n) (Zwk ltE L++[p]) R [] (by simp only[ZHP,ZwA,ZHU,ZHT];omega) (by omega) lim (decide ((L.length:Int) - 0≥Int.tdiv 13 8)) ap;have el:(Zwk ltE L++[p]).length=L.length+1:=by rw[ZHP,ZwA,ZHU]
  rw[el,ZHI,ZHI,ZHH,ZHH,ZH4,ZH4,show ((L.length+1+R.length:Nat):Int)=13 by omega,show ((L.length+1:Nat):Int)=(L.length:Int)+1 by omega]at e2;rw[e1,ZnG,ZnE,ZnJ];refine⟨ZnL (by omega), ?_⟩;show wp (ZnN _ _ _ _ _ _ _) _;rw[e2,ZnE];exact⟨_,rfl,hs⟩
 ·have hc':=of_decide_eq_false hc;have e1:=ZzZ (L++[p]) R [] (by simp only[ZHP,ZHU,ZHT];omega) (by omega) lim;have el:(L++[p]).length=L.length+1:=by rw[ZHP,ZHU]
  rw[el,ZHI,ZHI,ZHH,ZHH,ZH4,ZH4,show ((L.length+1+R.length:Nat):Int)=13 by omega,show ((L.length+1:Nat):Int)=(L.length:Int)+1 by omega]at e1;have e2:=Zzz (ZnK n) [] L (p::Zwk ltE R) (by simp only[ZH2,ZHP,ZHQ,ZwA];omega) (by omega) lim (decide ((13:Int) - (L.length:Int)≥Int.tdiv 13 8)) ap;rw[ZH2,ZHT,Nat.zero_add,ZH2,show ((0:Nat):Int)=0 from rfl]at e2;rw[ZnJ,e1,ZnG,ZnE];refine⟨ZnL (by omega), ?_⟩;show wp (ZnN _ _ _ _ _ _ _) _;rw[e2,ZnE];exact⟨_,rfl,hs⟩
theorem ZCH {D:List En1} (h13:D.length=13) {lim:Int} (hlim:lim≠0):wp (Zn7 D 0 (D.length:Int) lim) (ZA0 D):=by
 obtain⟨k,hk⟩:=ZyR 2 (by omega);unfold Zn7 Zo4;rw[hk,ZnG,ZnG];show wp (ZnN (ZnK (k+1)) _ _ _ _ _ _) _;have j2:∀{pv:Nat},pv < D.length→wp (Zon (ZnK (k+1)) 0 13 lim true true 13 (pv:Int) D) (fun x=>∃r,x= .ret r∧ZA0 D r):=by intro pv hpv;unfold Zon;rw[show decide ((0:Int) > 0)=false from rfl,cond_false];exact ZDF h13 k lim true true hpv
 have main:wp (ZnN (ZnK (k+1)) 0 (D.length:Int) lim true true D) (fun x=>∃r,x= .ret r∧ZA0 D r):=by
  unfold ZnN;have hpiv:=ZCG (d:=D) h13.symm;rw[h13,show ((13:Nat):Int)=13 from rfl]at hpiv⊢
  rw[ZnJ,show (13:Int) - 0=13 from rfl,show decide ((13:Int)≤12)=false from rfl,cond_false,show (lim == 0)=false by simpa using hlim,cond_false,ZHE,cond_false,ZnG];refine⟨rfl,ZnV hpiv ?_⟩;rintro _ ⟨pv,h,rfl,hpv,hh⟩;dsimp only;rw[show (h == 2)=false by simpa using hh,cond_false,cond_true,cond_true];unfold Zoo;rw[Zoh];refine⟨fun _=> ?_,fun _=>j2 (by omega)⟩;have hpart:=ZBu (d:=D) (by omega) (by omega);rw[h13,show ((13:Nat):Int)=13 from rfl]at hpart;rw[ZnG];refine ZnV hpart ?_;rintro⟨b,x⟩ ⟨hx,hb⟩;dsimp only at hx hb⊢
  subst hx;rw[Zoh];refine⟨fun h=> ?_,fun _=>j2 (by omega)⟩;rw[ZnE];exact⟨_,rfl,.refl _,hb h⟩
 refine ZnV main ?_;rintro _ ⟨r,rfl,hr⟩;dsimp only;rw[ZnE,ZnJ,ZnE];exact⟨by rw[hr.1.length_eq];simp,hr⟩
theorem ZGT:((List.range 14).all fun n:Nat=>match Zwt (IntKind.wrap .u64 (n:Int))with |some m=>decide (n≤12∨m≠0) |none=>false)=true:=by kernel_rfl
theorem ZBJ {D:List En1} (hl:D.length≤13):wp (ZnW D) (ZA0 D):=by
 have h2:=ZHG.1 ZGT D.length (List.mem_range.2 (by omega));split at h2;rotate_left;simp at h2;rename_i m hm;have h3:=of_decide_eq_true h2;have key:wp (Zn7 D 0 (D.length:Int) m) (ZA0 D):=by
  by_cases h12:D.length≤12
  ·obtain⟨k,hk⟩:=ZyR 1 (by omega);unfold Zn7 Zo4;rw[hk];have e:=Zzz (ZnK k) [] D [] (by simp only[ZH2,ZHI];omega) h12 m true true;rw[ZH2,ZHT,Nat.zero_add,ZH2,ZHI,ZHI,show ((0:Nat):Int)=0 from rfl]at e;show wp (((ZnN (ZnK k) 0 (D.length:Int) m true true D).bind _).bind _) _;rw[e,ZH8];dsimp only;rw[ZH8,ZwA,decide_eq_true rfl];exact⟨_,rfl,ZvL _,Zy2 _⟩
  ·exact ZCH (by omega) (h3.resolve_left h12)
 unfold ZnW Zo0;rw[hm,ZH8,ZnG,ZnG];refine ZnV key fun r hr=> ?_
 rw[ZnE,ZnJ,ZnE];exact⟨by rw[hr.1.length_eq];simp,hr⟩
end Go.Proofs
namespace Go.Proofs
open Go Eng
theorem Zyc {x y:Int} (hy:y≠0) (h1:x.natAbs < 16) (h2:y.natAbs < 16):Sz 4 (Rat.divInt x y):=Zzx (k:=4) hy h1 h2
theorem ZG8:Zsw [48]=ZtT false [] [1] false false [] []:=by kernel_rfl
theorem dec0:Zsw [48]=some (fOf (Rat.divInt 0 1),true):=by
 rw[ZG8];unfold ZtT;have e0:iL (wd 0)=[]:=by kernel_rfl
 have e1:iL (wd 1)=[1]:=by kernel_rfl
 have l0:Nat.ble (wd 0).length 50000=true:=by kernel_rfl
 have l1:Nat.ble (wd 1).length 50000=true:=by kernel_rfl
 have w0:=Nat.le_of_ble_eq_true l0;have w1:=Nat.le_of_ble_eq_true l1;have h1:=ZuQ false 0 (by omega);have h2:=ZuQ false 1 (by omega);rw[e0]at h1;rw[e1]at h2;rw[h1,ZH8,h2,ZH8];have:=ZyE 0 1 (by decide) w0 w1;simp only[Bool.false_eq_true,if_false];rw[show ((0:Nat):Int)=0 from rfl,show ((1:Nat):Int)=1 from rfl,this,ZH8]
theorem can0:Zuv 4 [48]=some ([48],true):=by
 have h:Zuv 4 [48]=(Zvg [48]).bind fun(a,b)=>some (a,b):=by kernel_rfl
 rw[h];unfold Zvg;rw[dec0];show _=_
 kernel_rfl
theorem valZ:ZpH (ZnC.mk false [48])=some (fOf (Rat.divInt 0 1),true):=by
 unfold ZpH Zxh;rw[can0];dsimp only;rw[cond_false,ZH8];dsimp only;rw[ZHE,cond_false,dec0];show _=_
 kernel_rfl
def ZCz:List (Str×Int):=[([45,51], -3),([45,50], -2),([45,49], -1),([49],1),([50],2),([51],3),([52],4),([53],5),([54],6),([55],7),([56],8),([49,48],10)]
def ZB6:List (Str×Int):=[([45,49,46,53], -3),([49,46,53,48],3)]
def noT:List Str:=[[97],[98],[99],[100],[120],[],[49,46,50,46,51],[107,48],[107,49],[107,50],[107,51],[107,52],[107,53],[107,54],[107,55],[107,56],[107,57],[107,49,48],[107,49,49],[107,49,50],[107,49,51]]
def fx (n:Int) (d:Int):ZnB:=⟨⟨decide (n < 0),if n=0 then []else [(n.natAbs:Int)]⟩,⟨false,[d]⟩⟩
theorem ZAY:(ZCz.all fun p=>decide (ZpH (ZnC.mk false p.1)=some (fx p.2 1,true)))=true:=by kernel_rfl
theorem ZBl:(ZB6.all fun p=>decide (ZpH (ZnC.mk false p.1)=some (fx p.2 2,true)))=true:=by kernel_rfl
theorem ZC4:(noT.all fun s=>match ZpH (ZnC.mk false s)with |some (_,false)=>true |_=>false)=true:=by kernel_rfl
theorem ZCa:(ZCz.all fun p=>decide (fx p.2 1=fOf (Rat.divInt p.2 1))&&decide (p.2.natAbs < 16))=true:=by kernel_rfl
theorem ZCb:(ZB6.all fun p=>decide (fx p.2 2=fOf (Rat.divInt p.2 2))&&decide (p.2.natAbs < 16))=true:=by kernel_rfl
def Zy9:List Str:=[48]::(ZCz.map (·.1)++ZB6.map (·.1)++noT)
def Zxc (c:ZnC):Prop:=c=ZnC.mk true []∨∃s∈Zy9,c=ZnC.mk false s
theorem ZA5 {c:ZnC} (h:Zxc c):(∃q,ZpH c=some (fOf q,true)∧Sz 4 q)∨(∃f,ZpH c=some (f,false)):=by
 rcases h with rfl |⟨s,hs,rfl⟩
 ·refine .inr ⟨fOf 0, ?_⟩;unfold ZpH;dsimp only;rw[cond_true,ZAQ];rfl
 ·rcases ZHZ.1 hs with rfl |hs
  ·exact .inl ⟨_,valZ,Zyc (by decide) (by decide) (by decide)⟩
  ·rcases ZHY.1 hs with hs |hs
   ·rcases ZHY.1 hs with hs |hs
    ·obtain⟨p,hp,rfl⟩:=ZH0.1 hs;have h1:=of_decide_eq_true (ZHG.1 ZAY p hp);have h2:=ZHG.1 ZCa p hp;simp only[ZEU,decide_eq_true_eq]at h2;rw[h2.1]at h1;exact .inl ⟨_,h1,Zyc (by decide) h2.2 (by decide)⟩
    ·obtain⟨p,hp,rfl⟩:=ZH0.1 hs;have h1:=of_decide_eq_true (ZHG.1 ZBl p hp);have h2:=ZHG.1 ZCb p hp;simp only[ZEU,decide_eq_true_eq]at h2;rw[h2.1]at h1;exact .inl ⟨_,h1,Zyc (by decide) h2.2 (by decide)⟩
   ·have h1:=ZHG.1 ZC4 s hs;split at h1;rotate_left;simp at h1;rename_i f hf;exact .inr ⟨f,hf⟩
open Classical in
noncomputable def nv (c:ZnC):Option Rat:=if h:∃q,ZpH c=some (fOf q,true)∧Sz 4 q then some h.choose else none
theorem Zyk {c:ZnC} {q:Rat} (h:nv c=some q):ZpH c=some (fOf q,true)∧Sz 4 q:=by unfold nv at h;split at h;rotate_left;simp at h;rename_i hx;obtain rfl:=ZH9 h;exact hx.choose_spec
theorem ZDS {c:ZnC} (hc:Zxc c) (h:nv c=none):∃f,ZpH c=some (f,false):=by
 unfold nv at h;split at h
 ·simp at h
 ·rename_i hx;exact(ZA5 hc).resolve_left hx
theorem ZAb {d:ZnH} (hd:ZxP d) {l:List Str} (h0:1≤l.length) (h1:l.length≤1000):wp (ZoG d l) (fun r=>r.1∈l∧ZxP r.2):=by
 unfold ZoG;rw[ZnG];refine ZnV (Zzc hd (by omega)) fun⟨q,d1⟩ ⟨hq,hd1⟩=> ?_
 dsimp only at hq hd1⊢
 rw[ZnG,ZCX];refine⟨hq.1,by omega, ?_⟩;rw[ZnE];exact⟨ZHO _,hd1⟩
theorem ZAx:([([97]:Str),([98]:Str),([99]:Str),([49]:Str),([50]:Str),([51]:Str),([49,48]:Str),([120]:Str),([45,49,46,53]:Str),([50]:Str),[100],[],([49,46,50,46,51]:Str),([49,46,53,48]:Str)]:List Str).all (fun s=>Zy9.contains s)=true:=by kernel_rfl
theorem ZzV:(((List.range 12).map fun i:Nat=>Lib.itoa ((i:Int) - 3))++(List.range 14).map fun i:Nat=>([107]:Str)++Lib.itoa (i:Int)).all (fun s=>Zy9.contains s)=true:=by kernel_rfl
theorem Zy3 {s:Str} (h:Zy9.contains s=true):Zxc (ZnC.mk false s):= .inr ⟨s,List.contains_iff_mem.1 h,rfl⟩
theorem ZD6 {d:ZnH} (hd:ZxP d):wp (Zsq d) (fun r=>Zxc r.1∧ZxP r.2):=by
 unfold Zsq;rw[ZnG];refine ZnV (Zzc hd (by omega)) fun⟨q,d1⟩ ⟨hq,hd1⟩=> ?_
 dsimp only at hq hd1⊢
 rw[Zoh];refine⟨fun _=> ?_,fun _=> ?_⟩
 ·rw[ZnE];exact⟨.inl rfl,hd1⟩
 ·rw[ZnG];refine ZnV (ZAb hd1 (by decide) (by decide)) fun⟨s,d2⟩ ⟨hs,hd2⟩=> ?_
  dsimp only at hs hd2⊢
  rw[ZnE];refine⟨Zy3 (ZHG.1 ZAx s ?_),hd2⟩;simp only[ZHZ,ZH3,or_false]at hs⊢
  rcases hs with h |h |h |h |h |h |h |h |h |h<;>simp[h]
theorem ZBy {n:Int} (h: -3≤n∧n≤8):Zy9.contains (Lib.itoa n)=true:=by refine ZHG.1 ZzV _ (List.mem_append_left _ (ZH0.2 ⟨(n+3).toNat,List.mem_range.2 (by omega), ?_⟩));rw[show (((n+3).toNat:Nat):Int) - 3=n by omega]
theorem ZDZ {n:Int} (h:0≤n∧n < 14):Zy9.contains (([107]:Str)++Lib.itoa n)=true:=by refine ZHG.1 ZzV _ (List.mem_append_right _ (ZH0.2 ⟨n.toNat,List.mem_range.2 (by omega), ?_⟩));rw[show ((n.toNat:Nat):Int)=n by omega]
theorem ZBU {d:ZnH} (hd:ZxP d):wp (Zrv d) (fun r=>Zxc r.1∧ZxP r.2):=by
 unfold Zrv;rw[ZnG];refine ZnV (Zzc hd (by omega)) fun⟨q,d1⟩ ⟨hq,hd1⟩=> ?_
 dsimp only at hq hd1⊢
 rw[Zoh];refine⟨fun _=> ?_,fun _=> ?_⟩
 ·rw[ZnE];exact⟨.inl rfl,hd1⟩
 rw[Zoh];refine⟨fun _=> ?_,fun _=> ?_⟩
 ·rw[ZnG];refine ZnV (ZAb hd1 (by decide) (by decide)) fun⟨s,d2⟩ ⟨hs,hd2⟩=> ?_
  dsimp only at hs hd2⊢
  rw[ZnE];refine⟨Zy3 (ZHG.1 ZAx s ?_),hd2⟩;simp only[ZHZ,ZH3,or_false]at hs⊢
  rcases hs with h |h |h |h<;>simp[h]
 ·rw[ZnG];refine ZnV (Zzc hd1 (by omega)) fun⟨q,d2⟩ ⟨hq,hd2⟩=> ?_
  dsimp only at hq hd2⊢
  unfold ZuZ;rw[ZnJ,ZnG,ZnE,ZnE];exact⟨ZnL (by omega),Zy3 (ZBy (by omega)),hd2⟩
theorem abcd:([([97]:Str),([98]:Str),([99]:Str),([100]:Str)]:List Str).all (fun s=>Zy9.contains s)=true:=by kernel_rfl
theorem ZBz {n:Int} (h:0≤n∧n < 14):(Lib.itoa n).length≤2:=by
 have h1:((List.range 14).all fun i:Nat=>decide ((Lib.itoa (i:Int)).length≤2))=true:=by kernel_rfl
 have:=of_decide_eq_true (ZHG.1 h1 n.toNat (List.mem_range.2 (by omega)))
 rwa [show ((n.toNat:Nat):Int)=n by omega]at this
theorem ZAM {d:ZnH} (hd:ZxP d) (rows:Nat) (hr:rows≤14):
  wp (Zqd d (rows:Int)) (fun r=>(r.1.Cells.length=rows∧∀c∈r.1.Cells,Zxc c)∧ZxP r.2):=by
 unfold Zqd;rw[ZnG];refine ZnV (ZAb hd (by decide) (by decide)) fun⟨nm,d1⟩ ⟨_,hd1⟩=> ?_
 dsimp only at hd1⊢
 rw[ZnG];refine ZnV (Zzc hd1 (by omega)) fun⟨kind,d2⟩ ⟨_,hd2⟩=> ?_
 dsimp only at hd2⊢
 rw[ZnG];refine ZnV (ZtO Zw6 rows (by omega) (fun i (t:ZnH×List ZnC)=>(kind,(rows:Int),i,t.1,([]:Str),nm,([]:List ZnC),t.2))
  (fun k t=>ZxP t.1∧t.2.length=k∧∀c∈t.2,Zxc c) (Q:=fun x=>ZxP x.1∧x.2.2.2.2.length=rows∧∀c∈x.2.2.2.2,Zxc c) (d2,[]) ⟨hd2,rfl,fun c hc=>absurd hc (by simp)⟩ ?_ ?_) ?_
 ·rintro rec k ⟨d,cs⟩ hk ⟨hd,hlen,hcs⟩ ih;dsimp only at hd hlen hcs ih;have next:∀(x:ZnC) (d':ZnH),Zxc x→ZxP d'→wp (ZoZ (fun kind t15 i d t4 c t4_1 c_1=>rec (kind,t15,i,d,t4,c,t4_1,c_1)) kind (rows:Int) (k:Int) d' [] nm x [] cs) (fun x=>ZxP x.1∧x.2.2.2.2.length=rows∧∀c∈x.2.2.2.2,Zxc c):=by
   intro x d' hx hd';unfold ZoZ;rw[ZnJ,ZnJ];refine⟨Zw9 (by rw[ZHU];omega),ZnL (by omega),ih (d',cs++[x]) ⟨hd',by dsimp only;rw[ZHP,ZHU];omega,fun c hc=> ?_⟩⟩;rcases ZHY.1 hc with hc |hc
   ·exact hcs c hc
   ·obtain rfl:=ZH1.1 hc;exact hx
  unfold ZsU Zra;dsimp only;rw[decide_eq_true (show (k:Int) < (rows:Int) by omega),cond_true,ZnG];refine ZnV (ZD6 hd) fun⟨x,d3⟩ ⟨hx,hd3⟩=> ?_
  dsimp only at hx hd3⊢
  rw[Zoh];refine⟨fun _=> ?_,fun _=> ?_⟩
  ·rw[ZnG];exact ZnV (ZBU hd3) fun⟨y,d4⟩ ⟨hy,hd4⟩=>next y d4 hy hd4
  rw[Zoh];refine⟨fun _=> ?_,fun _=> ?_⟩
  ·unfold ZuZ;have:=ZBz (n:=(k:Int)) (by omega);rw[ZnG,ZnE,ZnJ];exact⟨decide_eq_true (by rw[ZHU];unfold Zq;omega),next _ d3 (Zy3 (ZDZ (by omega))) hd3⟩
  rw[Zoh];refine⟨fun _=> ?_,fun _=> ?_⟩
  ·rw[ZnG];exact ZnV (ZAb hd3 (by decide) (by decide)) fun⟨s,d4⟩ ⟨hs,hd4⟩=>next _ d4 (Zy3 (ZHG.1 abcd s hs)) hd4
  ·exact next x d3 hx hd3
 ·rintro rec ⟨d,cs⟩ ⟨hd,hlen,hcs⟩;unfold ZsU Zra;dsimp only at hd hlen hcs⊢
  rw[decide_eq_false (show ¬(rows:Int) < (rows:Int) by omega),cond_false,ZnE];exact⟨hd,hlen,hcs⟩
 ·rintro⟨d,_,_,_,cs⟩ ⟨h1,h2,h3⟩;unfold ZtI;dsimp only at h1 h2 h3⊢
  rw[ZnE];exact⟨⟨h2,h3⟩,h1⟩
end Go.Proofs
namespace Go.Proofs
open Go Eng
noncomputable def Zx6 (p:ZnC×ZnC):Option (Str×Rat):=if p.1.Null then none else (nv p.2).map fun q=>(p.1.Text,q)
noncomputable def Zrc (K V:List ZnC):List (Str×Rat):=(K.zip V).filterMap Zx6
def Zx7 (ks:List Str) (r:Str×Rat):List Str:=if r.1∈ks then ks else ks++[r.1]
def Zy7 (R:List (Str×Rat)):List Str:=R.foldl Zx7 []
def cnt (R:List (Str×Rat)) (k:Str):Nat:=R.countP fun r=>r.1 == k
def Zys (k:Str) (s:Rat) (r:Str×Rat):Rat:=if r.1=k then s+r.2 else s
def sm (R:List (Str×Rat)) (k:Str):Rat:=R.foldl (Zys k) 0
def En (R:List (Str×Rat)) (k:Str):ZnA:=⟨k,ZzK k,(cnt R k:Int),fOf (sm R k)⟩
theorem ZAI (R:List (Str×Rat)) (r:Str×Rat):Zy7 (R++[r])=Zx7 (Zy7 R) r:=by unfold Zy7;rw[List.foldl_append];rfl
theorem ZAg (R:List (Str×Rat)) (r:Str×Rat) (k:Str):sm (R++[r]) k=Zys k (sm R k) r:=by unfold sm;rw[List.foldl_append];rfl
theorem Zzs (R:List (Str×Rat)) (r:Str×Rat) (k:Str):cnt (R++[r]) k=cnt R k+if r.1=k then 1 else 0:=by
 unfold cnt;rw[List.countP_append,List.countP_singleton]
 by_cases h:r.1=k
 ·rw[if_pos h,if_pos (by simpa using h)]
 ·rw[if_neg h,if_neg (by simpa using h)]
theorem ZAj {ks:List Str} (h:ks.Nodup) (r:Str×Rat):(Zx7 ks r).Nodup:=by
 unfold Zx7;split
 ·exact h
 ·rename_i hn;rw[List.nodup_append];refine⟨h,by simp,fun a ha b hb=> ?_⟩;obtain rfl:=ZH1.1 hb;rintro rfl;exact hn ha
theorem Zy0:∀(R:List (Str×Rat)) (ks:List Str),ks.Nodup→(R.foldl Zx7 ks).Nodup
 | [],_,h=>h
 |r::R,ks,h=>by rw[ZHK];exact Zy0 R _ (ZAj h r)
theorem Zz6 (R:List (Str×Rat)):(Zy7 R).Nodup:=Zy0 R [] List.nodup_nil
theorem ZBv {ks:List Str} {r:Str×Rat} {k:Str}:k∈Zx7 ks r↔k∈ks∨k=r.1:=by
 unfold Zx7;split;rotate_left;simp;rename_i h;constructor
 ·exact .inl
 ·rintro(h1 |rfl)
  ·exact h1
  ·exact h
theorem ZzE:∀(R:List (Str×Rat)) (ks:List Str) (k:Str),k∈R.foldl Zx7 ks↔k∈ks∨∃r∈R,k=r.1
 | [],_,k=>by simp
 |r::R,ks,k=>by rw[ZHK,ZzE R _ k,ZBv];simp only[ZHZ,exists_eq_or_imp,or_assoc]
theorem ZAi {R:List (Str×Rat)} {k:Str}:k∈Zy7 R↔∃r∈R,k=r.1:=by unfold Zy7;rw[ZzE];simp
theorem ZzF:∀(R:List (Str×Rat)) (ks:List Str),(R.foldl Zx7 ks).length≤ks.length+R.length
 | [],_=>by simp
 |r::R,ks=>by
  rw[ZHK];refine ZH7 (ZzF R _) ?_;unfold Zx7;split
  ·rw[ZHQ];omega
  ·rw[ZHQ,ZHP,ZHU];omega
theorem ZAk (R:List (Str×Rat)):(Zy7 R).length≤R.length:=by have:=ZzF R [];unfold Zy7;simpa using this
theorem ZGJ {R:List (Str×Rat)} (h:∀r∈R,Sz 4 r.2) (k:Str):∀(s:Rat) (n:Nat),Sz (5*n+1) s→Sz (5*(n+R.length)+1) (R.foldl (Zys k) s):=by
 induction R with
 |nil=>intro s n hs;exact hs
 |cons r R ih=>
  intro s n hs;rw[ZHK,ZHQ,show n+(R.length+1)=(n+1)+R.length by omega];refine ih (fun r hr=>h r (by simp[hr])) _ (n+1) ?_;unfold Zys;split
  ·exact(hs.add (h r (by simp))).mono (by omega)
  ·exact hs.mono (by omega)
theorem ZBa {R:List (Str×Rat)} (h:∀r∈R,Sz 4 r.2) (k:Str):Sz (5*R.length+1) (sm R k):=by have:=ZGJ h k 0 0 ZDH;rw[Nat.zero_add]at this;exact this
theorem Zzp {K V:List ZnC}:∀r∈Zrc K V,Sz 4 r.2:=by
 intro r hr;obtain⟨p,_,h⟩:=List.mem_filterMap.1 hr;unfold Zx6 at h;split at h
 ·simp at h
 ·obtain⟨q,hq,rfl⟩:=Option.map_eq_some_iff.1 h;exact(Zyk hq).2
theorem ZFy {R:List (Str×Rat)} {k:Str} (h:k∉Zy7 R):cnt R k=0∧sm R k=0:=by
 have hn:∀r∈R,¬r.1=k:=fun r hr e=>h (ZAi.2 ⟨r,hr,e.symm⟩)
 constructor
 ·unfold cnt;rw[List.countP_eq_zero];intro r hr;simpa using hn r hr
 ·have key:∀(R:List (Str×Rat)) (s:Rat),(∀r∈R,¬r.1=k)→R.foldl (Zys k) s=s:=by
   intro R
   induction R with
   |nil=>intro s _;rfl
   |cons r R ih=>
    intro s h;rw[ZHK,show Zys k s r=s from if_neg (h r (by simp))];exact ih s fun x hx=>h x (by simp[hx])
  exact key R 0 hn
def mpo:Int→List Str→List (Str×Int)
 |_,[]=>[]
 |o,k::r=>(k,o)::mpo (o+1) r
theorem ZAG (k:Str) (v:Int) (m:List (Str×Int)) (s:Str):Zg3 (k:= .str) (v:=(.int .i64)) (car:=Zw1) ((k,v)::m) s=if s == k then some v else Zg3 (k:= .str) (v:=(.int .i64)) (car:=Zw1) m s:=by
 show (((k,v)::m).find? fun e=>s == e.1).map (·.2)=if s == k then some v else (m.find? fun e=>s == e.1).map (·.2)
 rw[List.find?_cons];cases s == k<;>rfl
theorem ZBY:∀(ks:List Str) (o:Int) (s:Str),s∈ks→∃j:Nat,Zg3 (k:= .str) (v:=(.int .i64)) (car:=Zw1) (mpo o ks) s=some (o+(j:Int))∧ks[j]? =some s
 | [],_,_,h=>absurd h (by simp)
 |k::r,o,s,h=>by
  unfold mpo;rw[ZAG]
  by_cases e:s=k
  ·subst e;exact⟨0,by rw[if_pos (by simp)];simp,rfl⟩
  ·obtain⟨j,h1,h2⟩:=ZBY r (o+1) s ((ZHZ.1 h).resolve_left e);refine⟨j+1, ?_,h2⟩;rw[if_neg (by simpa using e),h1];congr 1;omega
theorem ZBi:∀(ks:List Str) (o:Int) (s:Str),s∉ks→Zg3 (k:= .str) (v:=(.int .i64)) (car:=Zw1) (mpo o ks) s=none
 | [],_,_,_=>rfl
 |k::r,o,s,h=>by unfold mpo;rw[ZAG,if_neg (by intro e;exact h (by simp[eq_of_beq e]))];exact ZBi r _ s fun hs=>h (by simp[hs])
theorem ZBg:∀(ks:List Str) (o:Int) (s:Str),mpo o (ks++[s])=mpo o ks++[(s,o+(ks.length:Int))]
 | [],o,s=>by simp[mpo]
 |k::r,o,s=>by rw[List.cons_append];unfold mpo;rw[ZBg r,List.cons_append,ZHQ];congr 3;congr 1;omega
theorem ZCi:∀(ks:List Str) (o:Int) (s:Str),s∉ks→(mpo o ks).any (fun e=>ZlP (car:=Zw1) .str s e.1)=false
 | [],_,_,_=>rfl
 |k::r,o,s,h=>by
  unfold mpo;rw[List.any_cons,ZCi r _ s fun hs=>h (by simp[hs])];have:ZlP (car:=Zw1) .str s k=false:=by show (s == k)=false;rw[beq_eq_false_iff_ne];rintro rfl;exact h (by simp)
  rw[this];rfl
theorem ZDN {ks:List Str} {s:Str} (h:s∉ks):setB (k:= .str) (v:=(.int .i64)) (car:=Zw1) (mpo 0 ks) s (ks.length:Int)=mpo 0 (ks++[s]):=by unfold setB;rw[ZCi _ _ _ h,ZBg];rw[Int.zero_add];rfl
theorem ZBN {β:Type} (f g:Str→β):∀{ks:List Str} {j:Nat} {k:Str},ks.Nodup→ks[j]? =some k→(∀x,x≠k→f x=g x)→(ks.map f).set j (g k)=ks.map g
 | [],_,_,_,h,_=>by simp at h
 |x::ks,0,k,hn,h,hf=>by
  obtain rfl:x=k:=by simpa using h
  rw[ZHX,List.set_cons_zero,ZHX];congr 1;refine List.map_congr_left fun y hy=>hf y ?_
  rintro rfl;exact(List.nodup_cons.1 hn).1 hy
 |x::ks,j+1,k,hn,h,hf=>by
  have h':ks[j]? =some k:=by simpa using h
  have hx:x≠k:=by rintro rfl;exact(List.nodup_cons.1 hn).1 (List.mem_of_getElem? h')
  rw[ZHX,List.set_cons_succ,ZHX,hf x hx,ZBN f g (List.nodup_cons.1 hn).2 h' hf]
end Go.Proofs
namespace Go.Proofs
open Go Eng
def Zmg (R:List (Str×Rat)):List ZnA:=(Zy7 R).map (En R)
theorem ZAT:(Zy9.all fun s=>decide (s.length≤100))=true:=by kernel_rfl
theorem Zzh {c:ZnC} (h:Zxc c):c.Text.length≤1000000:=by
 rcases h with rfl |⟨s,hs,rfl⟩
 ·simp
 ·have:=of_decide_eq_true (ZHG.1 ZAT s hs);dsimp only;omega
theorem ZB0 {K V:List ZnC} (hK:∀c∈K,Zxc c) (hV:∀c∈V,Zxc c) (hn:K.length≤20) (hl:K.length=V.length) (nm:Str):
  wp (ZrI big K (K.length:Int) 0 (ZnD.mk nm V) [] []) (fun x=>x=Zmg (Zrc K V)):=by
 refine ZyA ZyN K (by omega) (fun i (t:List (Str×Int)×List ZnA)=>(K,(K.length:Int),i,ZnD.mk nm V,t.1,t.2))
  (fun k t=>t.1=mpo 0 (Zy7 (Zrc (K.take k) (V.take k)))∧t.2=Zmg (Zrc (K.take k) (V.take k))) (Q:=fun x=>x=Zmg (Zrc K V)) ([],[]) ⟨rfl,rfl⟩ ?_ ?_
 ·rintro rec k ⟨at_,out⟩ hk ⟨ha,ho⟩ ih;dsimp only at ha ho ih;subst ha ho;have hkv:k < V.length:=by omega
  have hrl:(Zrc (K.take k) (V.take k)).length≤k:=by unfold Zrc;refine ZH7 (ZHR _ _) ?_;rw[ZHW,ZHV];omega
  have hsz:∀r∈Zrc (K.take k) (V.take k),Sz 4 r.2:=Zzp;have hstep:Zrc (K.take (k+1)) (V.take (k+1))=Zrc (K.take k) (V.take k)++(Zx6 (K[k],V[k])).toList:=by unfold Zrc;rw[ZH6 hk,ZH6 hkv,List.zip_append (by rw[ZHV,ZHV];omega),List.filterMap_append];congr 1
  unfold Zwq Zva;dsimp only;rw[decide_eq_true (show (k:Int) < (K.length:Int) by omega),cond_true,ZwJ hk,ZnG,ZnE,ZwJ hkv,ZnG,ZnE,ZnG];generalize hR:Zrc (K.take k) (V.take k)=R at*
  have skip:∀(v:ZnB),Zx6 (K[k],V[k])=none→wp (ZsD (fun t15 t16 i value at_ out=>rec (t15,t16,i,value,at_,out)) K (K.length:Int) (k:Int) true (ZnD.mk nm V) (mpo 0 (Zy7 R)) (Zmg R) K[k] v) (fun x=>x=Zmg (Zrc K V)):=by intro v hr;unfold ZsD ZuV;rw[cond_true,ZnJ];refine⟨ZnL (by omega),ih (mpo 0 (Zy7 R),Zmg R) ?_⟩;rw[hstep,hr];simp
  have take1:∀(q:Rat),Sz 4 q→Zx6 (K[k],V[k])=some (K[k].Text,q)→wp (ZsD (fun t15 t16 i value at_ out=>rec (t15,t16,i,value,at_,out)) K (K.length:Int) (k:Int) false (ZnD.mk nm V) (mpo 0 (Zy7 R)) (Zmg R) K[k] (fOf q)) (fun x=>x=Zmg (Zrc K V)):=by
   intro q hq hr;have hnew:Zrc (K.take (k+1)) (V.take (k+1))=R++[(K[k].Text,q)]:=by rw[hstep,hr];rfl
   have hkl:=ZAk R;have hkl':=ZAk (R++[(K[k].Text,q)]);rw[ZHP,ZHU]at hkl';have upd:∀(j:Nat) (ks:List Str),ks=Zy7 (R++[(K[k].Text,q)])→ks[j]? =some K[k].Text→
     wp (ZuW (fun t15 t16 i value at_ out=>rec (t15,t16,i,value,at_,out)) (j:Int) K (K.length:Int) (k:Int) (ZnD.mk nm V) (mpo 0 ks) (ks.map (En R)) (fOf q)) (fun x=>x=Zmg (Zrc K V)):=by
    intro j ks hks hj;have hjl:j < ks.length:=(ZHN.1 hj).1;have hjm:j < (ks.map (En R)).length:=by rw[ZHS];exact hjl
    have hkj:ks[j]=K[k].Text:=(ZHN.1 hj).2;have hg:(ks.map (En R))[j]? =some (En R K[k].Text):=by rw[List.getElem?_map,hj];rfl
    have hc:cnt R K[k].Text≤R.length:=ZHJ;have hs:=ZBa hsz K[k].Text;unfold ZuW ZuV;rw[ZnJ,ZHF,hg,ZnG,ZnE,ZnJ,ZnJ,ZnG,ZnE,ZnJ,List.getElem?_set_self hjm,ZnG,ZnE];dsimp only[En];rw[ZBW hs hq (by omega),ZnG,ZnE,ZnJ,ZnG,ZnE,ZnJ];dsimp only;refine⟨ZuH hjm,ZnL (by omega),ZuH hjm,ZpI ⟨by omega,by rw[List.length_set];omega⟩,ZpI ⟨by omega,by rw[List.length_set];omega⟩,ZnL (by omega), ?_⟩;rw[List.set_set];refine ih (_,_) ⟨?_, ?_⟩
    ·dsimp only;rw[hnew,hks]
    ·dsimp only;rw[hnew];unfold Zmg;rw[←hks];have he:ZnA.mk K[k].Text (ZzK K[k].Text) ((cnt R K[k].Text:Int)+1) (fOf (sm R K[k].Text+q))=En (R++[(K[k].Text,q)]) K[k].Text:=by unfold En;rw[Zzs,ZAg,if_pos rfl];unfold Zys;rw[if_pos rfl];congr 1
     rw[he];refine ZBN (En R) (En (R++[(K[k].Text,q)])) (by rw[hks];exact Zz6 _) hj fun x hx=> ?_
     unfold En;rw[Zzs,ZAg,if_neg (fun e=>hx e.symm)];unfold Zys;rw[if_neg (fun e=>hx e.symm),Nat.add_zero]
   unfold ZsD;rw[cond_false]
   by_cases hin:K[k].Text∈Zy7 R
   ·obtain⟨j,h1,h2⟩:=ZBY (Zy7 R) 0 K[k].Text hin;rw[Int.zero_add]at h1;rw[h1,show (some (j:Int)).isSome=true from rfl,ZHE,cond_false,show ((some (j:Int)).getD (0:Int))=(j:Int)from rfl];have hks:Zy7 R=Zy7 (R++[(K[k].Text,q)]):=by rw[ZAI];unfold Zx7;rw[if_pos hin]
    exact upd j _ hks h2
   ·rw[ZBi _ _ _ hin,show (none:Option Int).isSome=false from rfl,ZHD,cond_true,ZAm (Zzh (hK _ (ZHO hk))),ZnG,ZnE,ZAQ,ZnG,ZnE,ZnJ];refine⟨Zw9 (by unfold Zmg;rw[ZHS,ZHU];omega), ?_⟩;have hks:Zy7 R++[K[k].Text]=Zy7 (R++[(K[k].Text,q)]):=by rw[ZAI];unfold Zx7;rw[if_neg hin]
    have hl1:((Zmg R).length:Int)=((Zy7 R).length:Int):=by unfold Zmg;rw[ZHS]
    have ho1:Zmg R++[ZnA.mk K[k].Text (ZzK K[k].Text) 0 (fOf 0)]=(Zy7 R++[K[k].Text]).map (En R):=by unfold Zmg;rw[List.map_append];congr 1;have:=ZFy hin;show [_]=[En R K[k].Text];unfold En;rw[this.1,this.2];rfl
    rw[hl1,ZDN hin,ho1];exact upd (Zy7 R).length _ hks (by simp)
  rcases ZA5 (hV _ (ZHO hkv))with ⟨q,hv,hq⟩ |⟨f,hv⟩
  ·rw[hv,ZnE];dsimp only;cases hnull:K[k].Null with
   |true=>
    rw[cond_true];exact skip _ (by unfold Zx6;rw[if_pos hnull])
   |false=>
    rw[cond_false,ZHE];cases hnv:nv V[k]with
    |none=>
     obtain⟨f,hf⟩:=ZDS (hV _ (ZHO hkv)) hnv;rw[hv]at hf;simp at hf
    |some q'=>
     have:=(Zyk hnv).1;rw[hv]at this;have he:fOf q=fOf q':=(Prod.mk.inj (ZH9 this)).1;rw[he];exact take1 q' (Zyk hnv).2 (by unfold Zx6;rw[if_neg (by simp[hnull])];dsimp only;rw[hnv];rfl)
  ·rw[hv,ZnE];dsimp only;have hnv:nv V[k]=none:=by
    cases hnv:nv V[k]with
    |none=>rfl
    |some q=>
     have:=(Zyk hnv).1;rw[hv]at this;simp at this
   have hrow:Zx6 (K[k],V[k])=none:=by unfold Zx6;dsimp only;rw[hnv];split<;>rfl
   cases hnull:K[k].Null with
   |true=>rw[cond_true];exact skip _ hrow
   |false=>rw[cond_false,ZHD];exact skip _ hrow
 ·rintro rec ⟨at_,out⟩ ⟨ha,ho⟩;dsimp only at ha ho;subst ha ho;unfold Zwq Zva;dsimp only;rw[decide_eq_false (show ¬(K.length:Int) < (K.length:Int) by omega),cond_false,ZnE,ZH5,hl,ZH5]
theorem ZBK {D:List ZnA} (hl:D.length≤13) (f:Str→ZnA) (hD:∀e∈D,e=f e.Key):ZnW D=some (Zwk ltE D):=by
 refine Zso (ZnV (ZBJ hl) ?_);rintro r ⟨hp,hs⟩;refine ZAA (fun e=>e=f e.Key) Le (fun a b ha hb h1 h2=> ?_) (fun e he=>hD e (hp.mem_iff.1 he)) (hp.trans (ZvL _).symm) hs (Zy2 D);have h3:=Zyh a b;unfold Le at h1 h2;have h4:Zv2 a b=0:=by omega
 rw[ha,hb,ZyW h4]
noncomputable def Zs2 (K V:List ZnC):List ZnA:=Zwk ltE (Zmg (Zrc K V))
theorem ZBe {K V:List ZnC}:(Zmg (Zrc K V)).length≤K.length:=by unfold Zmg;rw[ZHS];refine ZH7 (ZAk _) (ZH7 (ZHR _ _) ?_);rw[ZHW];omega
theorem ZDY {key value:ZnD} (hK:∀c∈key.Cells,Zxc c) (hV:∀c∈value.Cells,Zxc c) (hn:key.Cells.length≤13) (hl:key.Cells.length=value.Cells.length):
  Zwr key value=some (Zs2 key.Cells value.Cells):=by
 refine Zso ?_;unfold Zwr;rw[ZnG];refine ZnV (ZB0 hK hV (by omega) hl value.Name) ?_;rintro _ rfl;unfold Zw7;rw[ZBK (ZH7 ZBe hn) (En (Zrc key.Cells value.Cells)) (fun e he=>by obtain⟨k,_,rfl⟩:=ZH0.1 he;rfl),ZnG,ZnE,ZnE];rfl
theorem ZAJ {K V:List ZnC}:(Zs2 K V).length≤K.length:=by unfold Zs2;rw[ZwA];exact ZBe
noncomputable def mkS (K V:List ZnC) (m:Nat):ZnI:=⟨(m:Int),decide ((Zs2 K V).length≤m),(Zs2 K V).take m⟩
theorem ZBX {key value:ZnD} (hK:∀c∈key.Cells,Zxc c) (hV:∀c∈value.Cells,Zxc c) (hn:key.Cells.length≤13) (hl:key.Cells.length=value.Cells.length) {m:Nat} (h1:1≤m) (h2:m≤256):
  ZvJ key value (m:Int)=some (mkS key.Cells value.Cells m,0):=by
 unfold ZvJ Zwe Zwd;rw[decide_eq_false (show ¬(m:Int) < 1 by omega),cond_false,decide_eq_false (show ¬(m:Int) > 256 by omega),cond_false,hl,show ((value.Cells.length:Int) != (value.Cells.length:Int))=false by simp,cond_false,decide_eq_false (show ¬(value.Cells.length:Int) > 4096 by omega),cond_false,
  ZDY hK hV hn hl,ZH8]
 have e:(((Zs2 key.Cells value.Cells).drop 0).take (((if ((Zs2 key.Cells value.Cells).length:Int) < (m:Int)then ((Zs2 key.Cells value.Cells).length:Int)else (m:Int))).toNat - 0))=(Zs2 key.Cells value.Cells).take m:=by
  rw[List.drop_zero,Nat.sub_zero];split
  ·rename_i h;rw[ZHF,ZH5,List.take_of_length_le (by omega)]
  ·rw[ZHF]
 rw[e,Zx4 (by split<;>omega),chk_true];unfold mkS;congr 3
 by_cases h:(Zs2 key.Cells value.Cells).length≤m
 ·rw[decide_eq_true h,decide_eq_true (by omega)]
 ·rw[decide_eq_false h,decide_eq_false (by omega)]
end Go.Proofs
namespace Go.Proofs
open Go Eng
theorem Zz1 {a b c:ZnA} (h:a.Key=b.Key) (ha:ZyK a) (hb:ZyK b):Zv2 a c=Zv2 b c:=by
 have e:a.Hash=b.Hash:=by rw[ha,hb,h]
 unfold Zv2;rw[e,h]
theorem ZAH {a b c:ZnA} (ha:ZyK a) (hb:ZyK b) (h1:Zv2 a b≤0) (h2:Zv2 b c≤0):Zv2 a c≤0:=by
 by_cases e:Zv2 a b=0
 ·rw[Zz1 (ZyW e) ha hb];exact h2
 ·have h1':Zv2 a b < 0:=by omega
  by_cases e2:Zv2 b c=0
  ·by_cases hc:ZyK c
   ·have:=Zz1 (a:=c) (b:=b) (c:=a) (ZyW e2).symm hc hb;have n1:=Zyh a c;have n2:=Zyh a b;omega
   ·exfalso;unfold Zv2 at e2;split at e2
    ·simp at e2
    ·split at e2
     ·simp at e2
     ·have hk:=ZAo e2;apply hc;unfold ZyK at hb⊢
      rw[←hk,←hb];omega
  ·have:=Zz0 h1' (show Zv2 b c < 0 by omega);omega
def Lt (a b:ZnA):Prop:=Zv2 a b < 0
theorem ZBB {l:List ZnA} (h:∀e∈l,ZyK e):(Zwk ltE l).Pairwise fun a b=>Zv2 a b≤0:=by
 refine Zzk ZyK (fun a b=>Zv2 a b≤0) (fun x p _ _ h=> ?_) (fun x p _ _ h=> ?_) (fun a b c ha hb _ h1 h2=>ZAH ha hb h1 h2) l h
 ·have:=of_decide_eq_true h;omega
 ·have:=of_decide_eq_false h;have:=Zyh x p;omega
theorem ZBR {R:List (Str×Rat)}:∀e∈Zmg R,ZyK e:=by intro e he;obtain⟨k,_,rfl⟩:=ZH0.1 he;rfl
theorem Zy1 {K V:List ZnC} {e:ZnA}:e∈Zs2 K V↔∃k∈Zy7 (Zrc K V),En (Zrc K V) k=e:=by unfold Zs2;rw[(ZvL _).mem_iff];unfold Zmg;rw[ZH0]
theorem ZAl (K V:List ZnC):(Zs2 K V).Pairwise Lt:=by
 have h1:=ZBB (l:=Zmg (Zrc K V)) ZBR;have h2:((Zs2 K V).map (·.Key)).Nodup:=by have hp:((Zs2 K V).map (·.Key)).Perm ((Zmg (Zrc K V)).map (·.Key)):=(ZvL _).map _;rw[hp.nodup_iff];unfold Zmg;rw[List.map_map];have:((fun e:ZnA=>e.Key)∘En (Zrc K V))=id:=rfl;rw[this,List.map_id];exact Zz6 _
 rw[List.Nodup,List.pairwise_map]at h2;refine(h1.and h2).imp ?_;rintro a b ⟨h3,h4⟩;unfold Lt;rcases Int.lt_or_eq_of_le h3 with h |h
 ·exact h
 ·exact absurd (ZyW h) h4
def ZG9 (e:ZnA):Prop:=ZyK e∧(1≤e.Count∧e.Count≤20)∧e.Key.length≤1000000∧∃q,e.Sum=fOf q∧Sz 110 q
theorem Zz7 {K V:List ZnC} (hK:∀c∈K,Zxc c) (hn:K.length≤20):∀e∈Zs2 K V,ZG9 e:=by
 intro e he;obtain⟨k,hk,rfl⟩:=Zy1.1 he;have hR:(Zrc K V).length≤20:=by refine ZH7 (ZHR _ _) ?_;rw[ZHW];omega
 obtain⟨r,hr,e1⟩:=ZAi.1 hk;have hc:cnt (Zrc K V) k≤(Zrc K V).length:=ZHJ;have hp:0 < cnt (Zrc K V) k:=List.countP_pos_iff.2 ⟨r,hr,by simp[e1]⟩;refine⟨rfl,⟨?_, ?_⟩, ?_,⟨_,rfl,(ZBa Zzp k).mono (by omega)⟩⟩
 ·show (1:Int)≤(cnt (Zrc K V) k:Int);omega
 ·show (cnt (Zrc K V) k:Int)≤20;omega
 ·obtain⟨p,hp2,hp3⟩:=List.mem_filterMap.1 hr;unfold Zx6 at hp3;split at hp3
  ·simp at hp3
  ·obtain⟨q,_,rfl⟩:=Option.map_eq_some_iff.1 hp3;show k.length≤1000000;rw[e1];exact Zzh (hK _ (List.of_mem_zip hp2).1)
theorem ZGS {l:List ZnA} (h:l.Pairwise Lt) {i j:Nat} (hij:i < j) (hj:j < l.length):Zv2 l[i] l[j] < 0:=List.pairwise_iff_getElem.1 h i j (by omega) hj hij
end Go.Proofs
namespace Go.Proofs
open Go Eng
theorem ZAv {s:ZnI} (h:s.Entries.Pairwise Lt) (hg:∀e∈s.Entries,ZG9 e) (hn:s.Entries.length≤100):
  wp (Zs0 big s.Entries (s.Entries.length:Int) 0 s) (fun x=>x= .brk ()):=by
 refine ZyA ZyG s.Entries (by omega) (fun i (_:Unit)=>(s.Entries,(s.Entries.length:Int),i,s)) (fun _ _=>True) (Q:=fun x=>x= .brk ()) () trivial ?_ ?_
 ·rintro rec k _ hk _ ih;obtain⟨h1,⟨h2,_⟩,h3,q,hq,hs⟩:=hg _ (ZHO hk);unfold Zwi ZuK Zr3;dsimp only;rw[decide_eq_true (show (k:Int) < (s.Entries.length:Int) by omega),cond_true,ZwJ hk,ZnG,ZnE,ZAm h3,ZnG,ZnE,←h1,show (s.Entries[k].Hash != s.Entries[k].Hash)=false by simp,cond_false,decide_eq_false (show ¬s.Entries[k].Count < 1 by omega),cond_false,hq,ZAc q (hs.wq (by omega)),ZnG,ZnE,ZHE,cond_false,Zoh];refine⟨fun h0=> ?_,fun _=> ?_⟩
  ·have h0':0 < k:=by have:=of_decide_eq_true h0;omega
   have hl:=ZGS h (show k - 1 < k by omega) hk;rw[ZnJ,show (k:Int) - 1=((k - 1:Nat):Int) by omega,ZwJ (show k - 1 < s.Entries.length by omega),ZnG,ZnE,ZxV,ZnG,ZnE,decide_eq_false (show ¬Zv2 s.Entries[k - 1] s.Entries[k]≥0 by omega),cond_false,ZnJ];exact⟨ZnL (by omega),ZnL (by omega),ih () trivial⟩
  ·rw[cond_false,ZnJ];exact⟨ZnL (by omega),ih () trivial⟩
 ·rintro rec _ _;unfold Zwi ZuK;dsimp only;rw[decide_eq_false (show ¬(s.Entries.length:Int) < (s.Entries.length:Int) by omega),cond_false,ZnE]
theorem ZD4 {p q:Rat} (hp:Sz 110 p) (hq:Sz 110 q) (h:fOf p=fOf q):p=q:=by have h1:=ZyV p q (hp.wq (by omega)) (hq.wq (by omega));have h2:=ZyV p p (hp.wq (by omega)) (hp.wq (by omega));rw[h]at h1 h2;rw[h1]at h2;have:=ZH9 h2;rw[decide_eq_true rfl]at this;exact of_decide_eq_true this
theorem ZBT {c:ZnC} {q:Rat} (h:ZpH c=some (fOf q,true)) (hq:Sz 4 q):nv c=some q:=by have hx:∃q,ZpH c=some (fOf q,true)∧Sz 4 q:=⟨q,h,hq⟩;unfold nv;rw[dif_pos hx];have h2:=hx.choose_spec.2;have he:=(Prod.mk.inj (ZH9 (h.symm.trans hx.choose_spec.1))).1;rw[ZD4 (hq.mono (by omega)) (h2.mono (by omega)) he]
theorem ZBV {s:Str} {z:Int} (h:(s,z)∈ZCz):nv (ZnC.mk false s)=some (z:Rat):=by
 have h1:=of_decide_eq_true (ZHG.1 ZAY _ h);have h2:=ZHG.1 ZCa _ h;simp only[ZEU,decide_eq_true_eq]at h2;rw[h2.1]at h1;have:=ZBT h1 (Zyc (by decide) h2.2 (by decide))
 rwa [Zzf]at this
def Zzj:List ZnC:=[(ZnC.mk false ([97]:Str)),(ZnC.mk false ([97]:Str)),(ZnC.mk false ([98]:Str))]
def Zy8:List ZnC:=[(ZnC.mk false ([49]:Str)),(ZnC.mk false ([50]:Str)),(ZnC.mk false ([53]:Str))]
theorem ZEO:Zrc Zzj Zy8=[([97],((1:Int):Rat)),([97],((2:Int):Rat)),([98],((5:Int):Rat))]:=by have n1:=ZBV (s:=[49]) (z:=1) (by simp[ZCz]);have n2:=ZBV (s:=[50]) (z:=2) (by simp[ZCz]);have n5:=ZBV (s:=[53]) (z:=5) (by simp[ZCz]);unfold Zrc Zzj Zy8;simp[Zx6,n1,n2,n5]
theorem ZBk {s:Str} (h:s∈Zy9):Zxc (ZnC.mk false s):= .inr ⟨s,h,rfl⟩
theorem ZB1:∀c∈Zzj,Zxc c:=by intro c hc;simp only[Zzj,ZHZ,ZH3,or_false]at hc;rcases hc with rfl |rfl |rfl<;>exact ZBk (by simp[Zy9,noT])
theorem ZDD:∀c∈Zy8,Zxc c:=by intro c hc;simp only[Zy8,ZHZ,ZH3,or_false]at hc;rcases hc with rfl |rfl |rfl<;>exact ZBk (by simp[Zy9,ZCz])
theorem ksA:Zy7 (Zrc Zzj Zy8)=[[97],[98]]:=by rw[ZEO];simp[Zy7,Zx7]
theorem lenA:(Zs2 Zzj Zy8).length=2:=by unfold Zs2;rw[ZwA];unfold Zmg;rw[ZHS,ksA];rfl
theorem EnA:En (Zrc Zzj Zy8) [97]=⟨[97],ZzK [97],2,fOf ((3:Int):Rat)⟩:=by
 unfold En;rw[ZEO];have h1:cnt [([97],((1:Int):Rat)),([97],((2:Int):Rat)),([98],((5:Int):Rat))] [97]=2:=by simp[cnt]
 have h2:sm [([97],((1:Int):Rat)),([97],((2:Int):Rat)),([98],((5:Int):Rat))] [97]=((3:Int):Rat):=by simp only[sm,Zys,ZHK,List.foldl_nil];rw[if_neg (by decide),if_pos trivial,if_pos trivial,Rat.zero_add,←Rat.intCast_add];rfl
 rw[h1,h2];rfl
theorem ZCh:ZpZ=some true:=by
 have hlen:=lenA;have hg:=Zz7 (V:=Zy8) ZB1 (by decide);have ht:(Zs2 Zzj Zy8).take 10=Zs2 Zzj Zy8:=List.take_of_length_le (by omega);have hm:=ZBX (key:=ZnD.mk [] Zzj) (value:=ZnD.mk [] Zy8) ZB1 ZDD (by decide) (by decide) (m:=10) (by decide) (by decide);have hS:mkS Zzj Zy8 10=⟨10,true,Zs2 Zzj Zy8⟩:=by unfold mkS;rw[ht,decide_eq_true (show (Zs2 Zzj Zy8).length≤10 by omega)];rfl
 dsimp only at hm;rw[hS,show ((10:Nat):Int)=10 from rfl]at hm;unfold Zzj Zy8 at hm;refine Zso ?_;unfold ZpZ;rw[hm,ZnG,ZnE];dsimp only;rw[show ((0:Int) != 0)=false from rfl,cond_false,ZHE,cond_false];show wp (bif ((Zs2 Zzj Zy8).length:Int) != 2 then _ else _) _;rw[hlen,show (((2:Nat):Int) != 2)=false from rfl,cond_false,ZnG];show wp (Zsk ⟨10,true,Zs2 Zzj Zy8⟩) _;have hv:wp (Zsk ⟨10,true,Zs2 Zzj Zy8⟩) (fun x=>x=true):=by unfold Zsk Zpo;dsimp only;rw[hlen,show decide ((10:Int) < 1)=false from rfl,cond_false,show decide ((10:Int) > 256)=false from rfl,cond_false,show decide (((2:Nat):Int) > 10)=false from rfl,cond_false,ZHE,cond_false,cond_false,ZnG];have:=ZAv (s:=⟨10,true,Zs2 Zzj Zy8⟩) (ZAl _ _) hg (by dsimp only;omega);dsimp only at this;rw[hlen]at this;refine ZnV this ?_;rintro _ rfl;unfold ZvI;rw[ZnE]
 refine ZnV hv ?_;rintro _ rfl;unfold Zpn;rw[ZHE,cond_false,ZnG];show wp (Zpm big (Zs2 Zzj Zy8) ((Zs2 Zzj Zy8).length:Int) 0) _;refine ZnV (ZyA ZwQ (Zs2 Zzj Zy8) (by omega) (fun i (_:Unit)=>(Zs2 Zzj Zy8,((Zs2 Zzj Zy8).length:Int),i)) (fun _ _=>True) (Q:=fun x=>x= .brk ()) () trivial ?_ ?_) ?_
 ·rintro rec k _ hk _ ih;unfold ZsC ZqJ Zp6;dsimp only;obtain⟨k',_,he⟩:=Zy1.1 (ZHO hk);rw[decide_eq_true (show (k:Int) < ((Zs2 Zzj Zy8).length:Int) by omega),cond_true,ZwJ hk,ZnG,ZnE,Zoh];refine⟨fun hc=> ?_,fun _=> ?_⟩
  ·have hk':k'=[97]:=by rw[←he]at hc;exact eq_of_beq hc
   rw[hk',EnA]at he;rw[←he];dsimp only;have hz:Sz 5 ((3:Int):Rat):=by rw[←Zzf];exact Zzx (k:=5) (by decide) (by decide) (by decide)
   rw[show ((2:Int) != 2)=false from rfl,cond_false,ZBj 3 (by decide) (by decide),ZnG,ZnE,ZyV _ _ (hz.wq (by omega)) (hz.wq (by omega)),ZnG,ZnE,decide_eq_true rfl,ZHE,cond_false,ZnJ];exact⟨ZnL (by omega),ih () trivial⟩
  ·rw[cond_false,ZnJ];exact⟨ZnL (by omega),ih () trivial⟩
 ·rintro rec _ _;unfold ZsC ZqJ;dsimp only;rw[decide_eq_false (show ¬((Zs2 Zzj Zy8).length:Int) < ((Zs2 Zzj Zy8).length:Int) by omega),cond_false,ZnE]
 ·rintro _ rfl;unfold Ztg;dsimp only;rw[ZAm (by decide),ZnG,ZnE,ZnE];rfl
end Go.Proofs
namespace Go.Proofs
open Go Eng
theorem ZBO:((ZCz.map (·.1)++ZB6.map (·.1)).all fun s=>decide (Zos (ZnC.mk false s)=ZpH (ZnC.mk false s)))=true:=by kernel_rfl
theorem ZDO:(noT.all fun s=>match Zos (ZnC.mk false s)with |some (_,false)=>true |_=>false)=true:=by kernel_rfl
theorem ZEP:Zos (ZnC.mk false [48])=some (fx 0 1,true):=by kernel_rfl
theorem ZEY {s:Str} (h:s∈ZCz.map (·.1)++ZB6.map (·.1)):∃q,nv (ZnC.mk false s)=some q:=by
 have key:∃q,ZpH (ZnC.mk false s)=some (fOf q,true)∧Sz 4 q:=by
  rcases ZHY.1 h with h |h
  ·obtain⟨p,hp,rfl⟩:=ZH0.1 h;have h1:=of_decide_eq_true (ZHG.1 ZAY p hp);have h2:=ZHG.1 ZCa p hp;simp only[ZEU,decide_eq_true_eq]at h2;rw[h2.1]at h1;exact⟨_,h1,Zyc (by decide) h2.2 (by decide)⟩
  ·obtain⟨p,hp,rfl⟩:=ZH0.1 h;have h1:=of_decide_eq_true (ZHG.1 ZBl p hp);have h2:=ZHG.1 ZCb p hp;simp only[ZEU,decide_eq_true_eq]at h2;rw[h2.1]at h1;exact⟨_,h1,Zyc (by decide) h2.2 (by decide)⟩
 obtain⟨q,h1,h2⟩:=key;exact⟨q,ZBT h1 h2⟩
theorem ZGR {s:Str} (h:s∈noT):nv (ZnC.mk false s)=none:=by
 have h1:=ZHG.1 ZC4 s h;split at h1;rotate_left;simp at h1;rename_i f hf;cases hn:nv (ZnC.mk false s)with
 |none=>rfl
 |some q=>
  have:=(Zyk hn).1;rw[hf]at this;simp at this
theorem ZBb {c:ZnC} (h:Zxc c):(∃q,nv c=some q∧Zos c=some (fOf q,true))∨(nv c=none∧∃f,Zos c=some (f,false)):=by
 rcases h with rfl |⟨s,hs,rfl⟩
 ·refine .inr ⟨?_,ZnB.mk (ZnF.mk false ([]:(List Int))) (ZnF.mk false ([]:(List Int))),rfl⟩;cases hn:nv (ZnC.mk true [])with
  |none=>rfl
  |some q=>
   have h1:=(Zyk hn).1;unfold ZpH at h1;dsimp only at h1;rw[cond_true,ZAQ]at h1;simp at h1
 ·rcases ZHZ.1 hs with rfl |hs
  ·have hq:nv (ZnC.mk false [48])=some (Rat.divInt 0 1):=ZBT valZ (Zyc (by decide) (by decide) (by decide));refine .inl ⟨_,hq, ?_⟩;rw[ZEP];have:fx 0 1=fOf (Rat.divInt 0 1):=by kernel_rfl
   rw[this]
  ·rcases ZHY.1 hs with hs |hs
   ·obtain⟨q,hq⟩:=ZEY hs;refine .inl ⟨q,hq, ?_⟩;rw[of_decide_eq_true (ZHG.1 ZBO s hs)];exact(Zyk hq).1
   ·refine .inr ⟨ZGR hs, ?_⟩;have h1:=ZHG.1 ZDO s hs;split at h1;rotate_left;simp at h1;rename_i f hf;exact⟨f,hf⟩
end Go.Proofs
namespace Go.Proofs
open Go Eng
theorem ZBr {K V:List ZnC} (hl:K.length=V.length) {k:Nat} (hk:k < K.length):Zrc (K.take (k+1)) (V.take (k+1))=Zrc (K.take k) (V.take k)++(Zx6 (K[k],V[k]'(by omega))).toList:=by unfold Zrc;rw[ZH6 hk,ZH6 (show k < V.length by omega),List.zip_append (by rw[ZHV,ZHV];omega),List.filterMap_append];congr 1
theorem ZAB {K V:List ZnC}:(Zrc K V).length≤K.length:=by refine ZH7 (ZHR _ _) ?_;rw[ZHW];omega
theorem ZFs (R:List (Str×Rat)) (k:Str):cnt R k≤R.length:=ZHJ
theorem ZE3 {key value:ZnD} (hV:∀c∈value.Cells,Zxc c) (hn:key.Cells.length≤20) (hl:key.Cells.length=value.Cells.length) (t55:List ZnC) (t56 i:Int) (s:ZnI) (c:ZnC) (f:ZnB):
  wp (Zok big 0 false t55 t56 i key.Cells (key.Cells.length:Int) 0 key value s c f (fOf 0)) (fun y=>y=((cnt (Zrc key.Cells value.Cells) c.Text:Int),false,t55,t56,i,key,value,s,c,f,fOf (sm (Zrc key.Cells value.Cells) c.Text))):=by
 obtain⟨kn,K⟩:=key;obtain⟨vn,V⟩:=value;dsimp only at*
 refine ZyA Zv8 K (by omega) (fun j (t:Int×ZnB)=>(t.1,false,t55,t56,i,K,(K.length:Int),j,ZnD.mk kn K,ZnD.mk vn V,s,c,f,t.2))
  (fun k t=>t.1=(cnt (Zrc (K.take k) (V.take k)) c.Text:Int)∧t.2=fOf (sm (Zrc (K.take k) (V.take k)) c.Text)) (Q:=fun y=>y=((cnt (Zrc K V) c.Text:Int),false,t55,t56,i,ZnD.mk kn K,ZnD.mk vn V,s,c,f,fOf (sm (Zrc K V) c.Text))) (0,fOf 0) ⟨rfl,rfl⟩ ?_ ?_
 ·rintro rec k ⟨count,sum⟩ hk ⟨hr,hs⟩ ih;dsimp only at hr hs ih;subst hr hs;have hkv:k < V.length:=by omega
  have hstep:=ZBr hl hk;have hrl:(Zrc (K.take k) (V.take k)).length≤k:=ZH7 ZAB (by rw[ZHV];omega);have hc:=ZFs (Zrc (K.take k) (V.take k)) c.Text;have hsz:=ZBa (Zzp (K:=K.take k) (V:=V.take k)) c.Text;unfold ZqY ZpE Zo3 ZpU;dsimp only;rw[decide_eq_true (show (k:Int) < (K.length:Int) by omega),cond_true,ZwJ hk,ZnG,ZnE,ZwJ hkv,ZnG,ZnE,ZnG];have skip:Zx6 (K[k],V[k])=none∨(∃q,Zx6 (K[k],V[k])=some (K[k].Text,q)∧K[k].Text≠c.Text)→wp (chk (inK .i64 ((k:Int)+1)) (rec ((cnt (Zrc (K.take k) (V.take k)) c.Text:Int),false,t55,t56,i,K,(K.length:Int),(k:Int)+1,ZnD.mk kn K,ZnD.mk vn V,s,c,f,fOf (sm (Zrc (K.take k) (V.take k)) c.Text)))) (fun y=>y=((cnt (Zrc K V) c.Text:Int),false,t55,t56,i,ZnD.mk kn K,ZnD.mk vn V,s,c,f,fOf (sm (Zrc K V) c.Text))):=by
   intro h;rw[ZnJ];refine⟨ZnL (by omega),ih (_,_) ?_⟩;rw[hstep];rcases h with h |⟨q,h,hne⟩
   ·rw[h,Option.toList_none,ZHI];exact⟨rfl,rfl⟩
   ·rw[h];show _=(cnt (Zrc (K.take k) (V.take k)++[(K[k].Text,q)]) c.Text:Int)∧_=fOf (sm (Zrc (K.take k) (V.take k)++[(K[k].Text,q)]) c.Text);rw[Zzs,ZAg,if_neg hne];unfold Zys;rw[if_neg hne];exact⟨rfl,rfl⟩
  rcases ZBb (hV _ (ZHO hkv))with ⟨q,hq,hnum⟩ |⟨hq,g,hnum⟩
  ·rw[hnum,ZnE];dsimp only;rw[cond_true];cases hnull:K[k].Null with
   |true=>
    rw[ZHE,cond_false,cond_false];exact skip (.inl (by unfold Zx6;rw[if_pos hnull]))
   |false=>
    have hrow:Zx6 (K[k],V[k])=some (K[k].Text,q):=by unfold Zx6;rw[if_neg (by simp[hnull])];dsimp only;rw[hq];rfl
    rw[ZHD,cond_true]
    by_cases he:K[k].Text=c.Text
    ·rw[show (K[k].Text == c.Text)=true by simpa using he,cond_true,ZnJ,ZCV hsz (Zyk hq).2 (by omega),ZnG,ZnE,ZnJ];refine⟨ZnL (by omega),ZnL (by omega),ih (_,_) ?_⟩;rw[hstep,hrow];show _=(cnt (Zrc (K.take k) (V.take k)++[(K[k].Text,q)]) c.Text:Int)∧_=fOf (sm (Zrc (K.take k) (V.take k)++[(K[k].Text,q)]) c.Text);rw[Zzs,ZAg,if_pos he];unfold Zys;rw[if_pos he];exact⟨rfl,rfl⟩
    ·rw[show (K[k].Text == c.Text)=false by simpa using he,cond_false];exact skip (.inr ⟨q,hrow,he⟩)
  ·rw[hnum,ZnE];dsimp only;rw[cond_false,cond_false];refine skip (.inl ?_);unfold Zx6;dsimp only;rw[hq];split<;>rfl
 ·rintro rec ⟨count,sum⟩ ⟨hr,hs⟩;dsimp only at hr hs;subst hr hs;unfold ZqY ZpE;dsimp only;rw[decide_eq_false (show ¬(K.length:Int) < (K.length:Int) by omega),cond_false,ZnE,ZH5,hl,ZH5]
theorem ZE2 {R:List (Str×Rat)} (hR:R.length≤20) (hz:∀r∈R,Sz 4 r.2) {s:ZnI} (hE:∀e∈s.Entries,e=En R e.Key) (hn:s.Entries.length≤100) (t55:List ZnC) (t56 i:Int) (key value:ZnD) (c:ZnC) (f:ZnB):
  wp (Zoj big (cnt R c.Text:Int) false t55 t56 i s.Entries (s.Entries.length:Int) 0 key value s c f (fOf (sm R c.Text))) (fun y=>y= .brk (decide (∃e∈s.Entries,e.Key=c.Text),t55,t56,i,key,value,s,c,f)):=by
 refine ZyA Zv7 s.Entries (by omega) (fun j (b:Bool)=>((cnt R c.Text:Int),b,t55,t56,i,s.Entries,(s.Entries.length:Int),j,key,value,s,c,f,fOf (sm R c.Text))) (fun k b=>b=decide (∃e∈s.Entries.take k,e.Key=c.Text)) (Q:=fun y=>y= .brk (decide (∃e∈s.Entries,e.Key=c.Text),t55,t56,i,key,value,s,c,f)) false (by simp) ?_ ?_
 ·rintro rec k b hk rfl ih;have he:=hE _ (ZHO hk);unfold ZqX ZpD ZpT ZpS;dsimp only;rw[decide_eq_true (show (k:Int) < (s.Entries.length:Int) by omega),cond_true,ZwJ hk,ZnG,ZnE]
  by_cases hkey:s.Entries[k].Key=c.Text
  ·rw[show (s.Entries[k].Key == c.Text)=true by simpa using hkey,cond_true];rw[hkey]at he;rw[he];dsimp only[En];have hw:Wq 256 (sm R c.Text):=((ZBa hz c.Text).mono (l:=110) (by omega)).wq (by omega);rw[show ((cnt R c.Text:Int) == (cnt R c.Text:Int))=true by simp,cond_true,ZyV _ _ hw hw,ZnG,ZnE,decide_eq_true rfl,ZHE,cond_false,ZnJ];refine⟨ZnL (by omega),ih true ?_⟩
   symm
   rw[decide_eq_true_eq];exact⟨s.Entries[k],by rw[ZH6 hk];exact List.mem_append_right _ (ZH1.2 rfl),hkey⟩
  ·rw[show (s.Entries[k].Key == c.Text)=false by simpa using hkey,cond_false,ZnJ];refine⟨ZnL (by omega),ih _ ?_⟩;refine decide_eq_decide.2 ?_;rw[ZH6 hk];constructor
   ·rintro⟨e,h1,h2⟩;exact⟨e,List.mem_append_left _ h1,h2⟩
   ·rintro⟨e,h1,h2⟩;rcases ZHY.1 h1 with h |h
    ·exact⟨e,h,h2⟩
    ·obtain rfl:=ZH1.1 h;exact absurd h2 hkey
 ·rintro rec b rfl;unfold ZqX ZpD;dsimp only;rw[decide_eq_false (show ¬(s.Entries.length:Int) < (s.Entries.length:Int) by omega),cond_false,ZnE,ZH5]
theorem ZE4 {key value:ZnD} (hK:∀c∈key.Cells,Zxc c) (hV:∀c∈value.Cells,Zxc c) (hn:key.Cells.length≤20) (hl:key.Cells.length=value.Cells.length) {m:Nat} (hm:1≤m):
  wp (ZnP big key.Cells (key.Cells.length:Int) 0 key value (mkS key.Cells value.Cells m)) (fun y=>y= .brk ()):=by
 refine ZyA Zv9 key.Cells (by omega) (fun i (_:Unit)=>(key.Cells,(key.Cells.length:Int),i,key,value,mkS key.Cells value.Cells m)) (fun _ _=>True) (Q:=fun y=>y= .brk ()) () trivial ?_ ?_
 ·rintro rec k _ hk _ ih;have hkv:k < value.Cells.length:=by omega
  have next:wp (ZoW (fun a b c d e f=>rec (a,b,c,d,e,f)) key.Cells (key.Cells.length:Int) (k:Int) key value (mkS key.Cells value.Cells m)) (fun y=>y= .brk ()):=by unfold ZoW;rw[ZnJ];exact⟨ZnL (by omega),ih () trivial⟩
  unfold ZqZ ZpF ZpV;dsimp only;rw[decide_eq_true (show (k:Int) < (key.Cells.length:Int) by omega),cond_true,ZwJ hk,ZnG,ZnE,ZwJ hkv,ZnG,ZnE,ZnG];rcases ZBb (hV _ (ZHO hkv))with ⟨q,hq,hnum⟩ |⟨hq,g,hnum⟩
  ·rw[hnum,ZnE];dsimp only;cases hnull:key.Cells[k].Null with
   |true=>rw[cond_true,cond_true];exact next
   |false=>
    have hrow:Zx6 (key.Cells[k],value.Cells[k])=some (key.Cells[k].Text,q):=by unfold Zx6;rw[if_neg (by simp[hnull])];dsimp only;rw[hq];rfl
    have hin:(key.Cells[k].Text,q)∈Zrc key.Cells value.Cells:=by
     unfold Zrc;refine List.mem_filterMap.2 ⟨(key.Cells[k],value.Cells[k]), ?_,hrow⟩;have hz:k < (key.Cells.zip value.Cells).length:=by rw[ZHW];omega
     have:=ZHO hz
     rwa [List.getElem_zip]at this
    have hks:key.Cells[k].Text∈Zy7 (Zrc key.Cells value.Cells):=ZAi.2 ⟨_,hin,rfl⟩;have hmem:En (Zrc key.Cells value.Cells) key.Cells[k].Text∈Zs2 key.Cells value.Cells:=Zy1.2 ⟨_,hks,rfl⟩;have hEn:∀e∈(mkS key.Cells value.Cells m).Entries,e=En (Zrc key.Cells value.Cells) e.Key:=by intro e he;obtain⟨k',_,rfl⟩:=Zy1.1 (List.mem_of_mem_take he);rfl
    have hkl:(Zs2 key.Cells value.Cells).length≤key.Cells.length:=ZAJ;have hEl:(mkS key.Cells value.Cells m).Entries.length=min m (Zs2 key.Cells value.Cells).length:=ZHV;rw[ZHE,cond_false,cond_false,ZBG,ZnG,ZnE,ZnG];refine ZnV (ZE3 hV hn hl _ _ _ _ _ _) ?_;rintro _ rfl;dsimp only;unfold Zru;rw[ZnG];refine ZnV (ZE2 (ZH7 ZAB hn) Zzp hEn (by omega) _ _ _ _ _ _ _) ?_;rintro _ rfl;dsimp only;have hval:Zoe (fOf q)=some true:=Zzu q ((Zyk hq).2.wq (by omega));unfold Zrt ZnQ
    by_cases hc:∃e∈(mkS key.Cells value.Cells m).Entries,e.Key=key.Cells[k].Text
    ·rw[decide_eq_true hc,ZHE,cond_false,cond_false,hval,ZnG,ZnE,ZHE,cond_false];exact next
    ·have hd:En (Zrc key.Cells value.Cells) key.Cells[k].Text∈(Zs2 key.Cells value.Cells).drop m:=by rw[←List.take_append_drop m (Zs2 key.Cells value.Cells)]at hmem;exact(ZHY.1 hmem).resolve_left fun h=>hc ⟨_,h,rfl⟩
     have hlen:m < (Zs2 key.Cells value.Cells).length:=by
      rcases Nat.lt_or_ge m (Zs2 key.Cells value.Cells).length with h |h
      ·exact h
      ·rw[List.drop_of_length_le h]at hd;simp at hd
     have hall:(mkS key.Cells value.Cells m).All=false:=decide_eq_false (by omega);have hEl2:(mkS key.Cells value.Cells m).Entries.length=m:=by omega
     have hlast:m - 1 < (mkS key.Cells value.Cells m).Entries.length:=by omega
     have hp:=ZAl key.Cells value.Cells;rw[←List.take_append_drop m (Zs2 key.Cells value.Cells),List.pairwise_append]at hp;have hlt:Zv2 (mkS key.Cells value.Cells m).Entries[m - 1] (En (Zrc key.Cells value.Cells) key.Cells[k].Text) < 0:=hp.2.2 _ (ZHO hlast) _ hd;have hhash:(mkS key.Cells value.Cells m).Entries[m - 1].Hash≤ZzK key.Cells[k].Text:=by
      unfold Zv2 at hlt;split at hlt
      ·rename_i h;exact Int.le_of_lt h
      ·split at hlt
       ·simp at hlt
       ·rename_i h1 h2;exact Int.not_lt.1 h2
     rw[decide_eq_false hc,ZHD,cond_true,hall,cond_false,hEl2,show ((m:Int) == 0)=false by rw[beq_eq_false_iff_ne];omega,cond_false,cond_true,ZnJ,show (m:Int) - 1=((m - 1:Nat):Int) by omega,ZwJ hlast,ZnG,ZnE,ZAm (Zzh (hK _ (ZHO hk))),ZnG,ZnE,decide_eq_false (show ¬(mkS key.Cells value.Cells m).Entries[m - 1].Hash > ZzK key.Cells[k].Text by omega),cond_false,hval,ZnG,ZnE,ZHE,cond_false];exact⟨ZnL (by omega),next⟩
  ·rw[hnum,ZnE];dsimp only;cases key.Cells[k].Null with
   |true=>rw[cond_true,cond_true];exact next
   |false=>rw[cond_false,ZHD,cond_true];exact next
 ·rintro rec _ _;unfold ZqZ ZpF;dsimp only;rw[decide_eq_false (show ¬(key.Cells.length:Int) < (key.Cells.length:Int) by omega),cond_false,ZnE]
theorem sketchExact_law (t:List Int) (k:Int):Zqm t k=some true:=by
 refine Zso ?_;unfold Zqm Ztu;rw[ZnG,ZnE,Zoh];refine⟨fun _=>by rw[ZCh,ZnG,ZnE,ZnE],fun hl=> ?_⟩;simp only[Bool.not_eq_false',decide_eq_true_eq]at hl;unfold ZtP;rw[ZnG,ZnE,ZnG];refine ZnV (Zzc (d:=⟨t,0⟩) ⟨by simp,by simp,by simp only;omega⟩ (n:=14) (by omega)) ?_;rintro⟨n,d1⟩ ⟨hn,hd1⟩;dsimp only at hn hd1⊢
 obtain⟨n,rfl⟩:=Int.eq_ofNat_of_zero_le hn.1;rw[ZnG];refine ZnV (ZAM hd1 n (by omega)) ?_;rintro⟨key,d2⟩ ⟨⟨hkl,hk⟩,hd2⟩;dsimp only at hkl hk hd2⊢
 rw[ZnG];refine ZnV (ZAM hd2 n (by omega)) ?_;rintro⟨value,d3⟩ ⟨⟨hvl,hv⟩,hd3⟩;dsimp only at hvl hv hd3⊢
 rw[ZnG];refine ZnV (ZC6 k (m:=5) (by omega)) fun z hz=> ?_
 obtain⟨z,rfl⟩:=Int.eq_ofNat_of_zero_le hz.1;rw[ZnJ,show 1+(z:Int)=((1+z:Nat):Int) by omega,ZBX hk hv (by omega) (by omega) (m:=1+z) (by omega) (by omega),ZnG,ZnE];refine⟨ZnL (by omega), ?_⟩;dsimp only;have hgood:∀e∈Zs2 key.Cells value.Cells,ZG9 e:=Zz7 hk (by omega);have hlt:=ZAl key.Cells value.Cells;have hkn:(Zs2 key.Cells value.Cells).length≤13:=ZH7 ZAJ (by omega);have hE:(mkS key.Cells value.Cells (1+z)).Entries=(Zs2 key.Cells value.Cells).take (1+z):=rfl;have hEl:(mkS key.Cells value.Cells (1+z)).Entries.length=min (1+z) (Zs2 key.Cells value.Cells).length:=ZHV;rw[show ((0:Int) != 0)=false from rfl,cond_false,ZnG];have hvalid:wp (Zsk (mkS key.Cells value.Cells (1+z))) (fun x=>x=true):=by
  unfold Zsk Zpo;have hK:(mkS key.Cells value.Cells (1+z)).K=((1+z:Nat):Int):=rfl;have hA:(mkS key.Cells value.Cells (1+z)).All=decide ((Zs2 key.Cells value.Cells).length≤1+z):=rfl;rw[hK,decide_eq_false (show ¬((1+z:Nat):Int) < 1 by omega),cond_false,decide_eq_false (show ¬((1+z:Nat):Int) > 256 by omega),cond_false,decide_eq_false (show ¬((mkS key.Cells value.Cells (1+z)).Entries.length:Int) > ((1+z:Nat):Int) by omega),cond_false];have Zd:wp (Zpo false (mkS key.Cells value.Cells (1+z))) (fun x=>x=true):=by unfold Zpo;rw[cond_false,ZnG];refine ZnV (ZAv (s:=mkS key.Cells value.Cells (1+z)) (hlt.sublist (List.take_sublist _ _)) (fun e he=>hgood e (List.mem_of_mem_take he)) (by omega)) ?_;rintro _ rfl;unfold ZvI;rw[ZnE]
  unfold Zpo at Zd
  by_cases hall:(Zs2 key.Cells value.Cells).length≤1+z
  ·rw[hA,decide_eq_true hall,ZHE,cond_false];exact Zd
  ·rw[hA,decide_eq_false hall,ZHD,cond_true,decide_eq_false (show ¬((mkS key.Cells value.Cells (1+z)).Entries.length:Int) < ((1+z:Nat):Int) by omega)];exact Zd
 refine ZnV hvalid ?_;rintro _ rfl;unfold ZpW;rw[ZHE,cond_false,ZnG];refine ZnV (ZE4 hk hv (by omega) (by omega) (m:=1+z) (by omega)) ?_;rintro _ rfl;unfold Zrb;dsimp only;rw[ZCh,ZnG,ZnE,ZnE]
end Go.Proofs
namespace Eng
open Go Go.Lib
theorem globOk_one {Pg:Program} {w:World} {n:String} {g:Nat} {t e:TypeId} {k:IntKind} {z:Int} (hn:Pg.globalNamed n=some g) (hty:(Pg.globals[g]?).map (·.type)=some t)
  (ht:Pg.underlying t=some (.slice e)) (he:Pg.underlying e=some (.int k)) (hce:Pg.cellsOf e=1) (hz:k.min≤z∧z≤k.max)
  (h:VarReads Pg w n (.slice [.lit (.int k z)] [])):Zej w (fun b=>b < w.heap.size) g [P.sl 1 [.int k z]]:=by
 obtain⟨g',t',cs,fuel,p,hg,hty',hvar,hd⟩:=h;obtain rfl:=ZH9 (hn.symm.trans hg);obtain rfl:=ZH9 (hty.symm.trans hty');rcases DataW.trod_slice ht hd with ⟨_,hx⟩ |⟨a,len,cap,elems,rest,m,_,hcs,hx,_,hl,hcap,hlen,hel,_,_⟩
 ·cases congrArg Prod.fst hx
 ·have e0:=congrArg Prod.fst hx;simp only[DataW.slice.injEq]at e0;obtain⟨e1,_⟩:=e0
  match elems,e1 with
  | [(d,q)],e1=>
   simp only[ZHX,List.map_nil,List.cons.injEq,and_true]at e1;subst e1;have hlen1:len=1:=by simpa using hlen.symm
   subst hlen1;obtain⟨ci,hci,htr⟩:=Option.bind_eq_some_iff.1 (hel 0 (by decide));obtain⟨z',hc,hxx,_⟩:=DataW.trod_int he htr;have hzz:z'=z:=by have:=congrArg Prod.fst hxx;simpa using this.symm
   subst hzz;subst hc;rw[hce,Nat.zero_mul]at hci;obtain⟨_,_,hc2⟩:=World.cells?_some hci;have h0:=hc2 0 (by decide);have hb:w.cell? a=some (.int k z'):=by simpa[Addr.add]using h0
   have hspot:a.spot=none:=by
    unfold World.cell? at hb;cases hs:a.spot with
    |none=>rfl
    |some s=>rw[hs]at hb;split at hb<;>simp at hb
   have ha:a=⟨a.block,a.off,none⟩:=by cases a;simp at hspot;subst hspot;rfl
   have hlt:a.block < w.heap.size:=ZjV (by rw[ha]at hb;exact hb);have hcs1:cs.size=1:=by have:=congrArg List.length hcs;simpa using this
   refine Zyz (t:=0) (fr:= #[]) (Zzt hn hvar) _ (by rw[hcs1];rfl) fun j v p hv hp=> ?_
   have hj:j=0:=by have:=(Array.getElem?_eq_some_iff.1 hv).1;omega
   subst hj;simp only[ZHL,Option.some.injEq]at hp;subst hp;rw[←Array.getElem?_toList,hcs]at hv;simp only[ZHL,Option.some.injEq]at hv;subst hv;refine⟨.sl (some a) 1 cap _ _ (fun _=> .int k z') rfl (by decide) hl (fun i hi=>rfl) (fun i hi=> ?_) (fun i x hx=> ?_),rfl⟩
   ·have hi0:i=0:=by omega
    subst hi0;refine⟨a.block,a.off,by rw[←ha],hlt,fun j v hv=> ?_⟩;have hj:=(Array.getElem?_eq_some_iff.1 hv).1;have hj0:j=0:=by have:(Value.int k z').cells.size=1:=rfl;omega
    subst hj0;have hvv:v= .int k z':=by have:(Value.int k z').cells[0]? =some (.int k z'):=rfl;exact ZH9 (hv.symm.trans this)
    subst hvv;rw[ha]at hb;simpa using hb
   ·have hi0:i=0:=by have:=(ZHN.1 hx).1;simp at this;omega
    subst hi0;simp only[ZHL,Option.some.injEq]at hx;subst hx;exact .int k z' hz.1 hz.2
end Eng
