/- Plain laws over the specs, part 3. -/
import Derived.Test.YthefajbigloihaaGreatDoorSmM2
import Derived.Test.YthefajbigloihaaGreatDoorSmM1
import Derived.Test.YthefajbigloihaaGreatDoorSmM0
import Derived.Test.YthefajbigloihaaGreatDoorQ
import Derived.Test.YthefajbigloihaaGreatDoorE4
import Derived.Test.YthefajbigloihaaGreatDoorSmU
set_option linter.unusedVariables false
set_option linter.unusedSimpArgs false
set_option linter.unusedSectionVars false
open Bool renaming not_true→ZLN, not_false→ZIO
open Int renaming toNat_natCast→ZLP, le_of_lt→ZLO
open List renaming getElem?_eq_getElem→ZLV, getElem_mem→ZLX, length_append→ZLY, length_take→ZL4, length_singleton→ZL3, take_succ_eq_append_getElem→ZMc, take_length→ZMa, all_eq_true→ZLQ, mem_map→ZL7, mem_cons→ZL6, getElem?_append_right→ZLT, length_map→ZL1, length_cons→ZLZ, getElem?_eq_some_iff→ZLW, not_mem_nil→ZL8, length_set→ZL2, length_filterMap_le→ZL0, length_zip→ZL5, getElem?_append_left→ZLS, pairwise_iff_getElem→ZL9, countP_le_length→ZLR, take_of_length_le→ZMb, getElem?_cons_zero→ZLU
open Nat renaming le_refl→ZMd, zero_le→ZMf, le_trans→ZMe
open Option renaming bind_some→ZMg, some.inj→ZMh
namespace Go.Proofs
open Go Eng
theorem ZHg {d:List En1} (hn:d.length≤1000) {a b i:Nat} (hai:a+1≤i) (hib:i≤b) (hb:b≤d.length) {j0:Int} (hS:Srt a i d):
  wp (ZnQ big (a:Int) (b:Int) (i:Int) j0 d) (fun x=>∃i':Nat,x=((a:Int),(b:Int),(i':Int),j0,d)∧a+1≤i'∧i'≤b∧Srt a i' d∧∀h:i' < b,ZuQ (d[i']'(by omega)) (d[i' - 1]'(by omega)) < 0):=by
 refine ZqA Zt7 (fun i:Nat=>((a:Int),(b:Int),(i:Int),j0,d)) (fun i=>a+1≤i∧i≤b∧Srt a i d) (fun i=>b - i)
  (Q:=fun x=>∃i':Nat,x=((a:Int),(b:Int),(i':Int),j0,d)∧a+1≤i'∧i'≤b∧Srt a i' d∧∀h:i' < b,ZuQ (d[i']'(by omega)) (d[i' - 1]'(by omega)) < 0) i ⟨hai,hib,hS⟩ (by omega) ?_
 rintro rec i ⟨h1,h2,h3⟩ ih;unfold Zqj ZoM Zoh;dsimp only
 by_cases hc:i < b
 ·have hi:i < d.length:=by omega
  have hi1:i - 1 < d.length:=by omega
  rw[decide_eq_true (show (i:Int) < (b:Int) by omega),cond_true,show (i:Int) - 1=((i - 1:Nat):Int) by omega,ZnF,ZLP,ZLP,ZLV hi,ZnC,ZnB,ZnF,ZnF,ZLV hi1,ZnC,ZnB,ZwU,ZnC,ZnB];refine⟨Zop hi,ZnJ (by omega),Zop hi1, ?_⟩
  by_cases ho:ZuQ d[i] d[i - 1] < 0
  ·rw[decide_eq_true ho,ZLN,cond_false,ZnB];exact⟨i,rfl,h1,h2,h3,fun _=>ho⟩
  ·rw[decide_eq_false ho,ZIO,cond_true,ZnF];refine⟨ZnJ (by omega),ih (i+1) ⟨by omega,by omega,fun p q x y q1 q2 q3 hx hy=> ?_⟩ (by omega)⟩
   by_cases e:q=i
   ·subst e;rw[ZLV hi]at hy;rw[←ZMh hy]
    by_cases e2:p=q - 1
    ·subst e2;rw[ZLV hi1]at hx;rw[←ZMh hx];exact Zxa ho
    ·exact(h3 p (q - 1) x _ q1 (by omega) (by omega) hx (ZLV hi1)).trans (Zxa ho)
   ·exact h3 p q x y q1 q2 (by omega) hx hy
 ·rw[decide_eq_false (show ¬(i:Int) < (b:Int) by omega),cond_false,cond_false,ZnB];exact⟨i,rfl,h1,h2,h3,fun h=>absurd h hc⟩
theorem Srt.rg {a i b:Nat} {D d:List En1} (h:Srt a i D) (hr:Rg i b D d):Srt a i d:=fun p q x y q1 q2 q3 hx hy=>h p q x y q1 q2 q3 (by rw[←hr.2 p (.inl (by omega))];exact hx) (by rw[←hr.2 q (.inl q3)];exact hy)
theorem ZDI {D:List En1} (hn:D.length≤1000) {a b:Nat} (hab:a+1≤b) (hb:b≤D.length) (hlow:Low a b D):
  wp (Zom D (a:Int) (b:Int)) (fun x=>Rg a b D x.2∧(x.1=true→Srt a b x.2)):=by
 have Zd:wp (Zoq D (a:Int) (b:Int)) (fun x=>Rg a b D x.2∧(x.1=true→Srt a b x.2)):=by
  unfold Zoq;rw[ZnF,ZnC,show (a:Int)+1=((a+1:Nat):Int) by omega];refine⟨ZnJ (by omega), ?_⟩;refine ZnK (Q:=fun x=>(∃f d,x= .ret (f,d)∧Rg a b D d∧(f=true→Srt a b d))∨∃d,x= .brk d∧Rg a b D d) ?_ ?_
  ·refine ZqA Zt8 (fun s:Nat×Nat×List En1=>((a:Int),(b:Int),(s.1:Int),(s.2.1:Int),s.2.2)) (fun s=>a+1≤s.1∧s.1≤b∧s.2.1≤5∧Rg a b D s.2.2∧Srt a s.1 s.2.2) (fun s=>5 - s.2.1)
    (Q:=fun x=>(∃f d,x= .ret (f,d)∧Rg a b D d∧(f=true→Srt a b d))∨∃d,x= .brk d∧Rg a b D d) (a+1,0,D) ⟨ZMd _,hab,ZMf _,.refl _ _ _,fun p q x y q1 q2 q3=>by dsimp only at q3;omega⟩ (by dsimp only;omega) ?_
   rintro rec ⟨i,j,d⟩ ⟨h1,h2,h3,h4,h5⟩ ih;dsimp only at h1 h2 h3 h4 h5 ih;have hl:=h4.len;unfold Zql ZoN;dsimp only
   by_cases hj:j < 5
   ·rw[decide_eq_true (show (j:Int) < 5 by omega),cond_true,ZnC];refine ZnK (ZHg (d:=d) (by omega) h1 h2 (by omega) h5) ?_;rintro _ ⟨i,rfl,g1,g2,g3,g4⟩;dsimp only;unfold Zo1
    by_cases e:i=b
    ·rw[show ((i:Int) == (b:Int))=true by rw[e];simp,cond_true,ZnB];exact .inl ⟨true,d,rfl,h4,fun _=>e▸g3⟩
    ·have hib:i < b:=by omega
     have ho:=g4 hib;have hi:i < d.length:=by omega
     have hi1:i - 1 < d.length:=by omega
     rw[show ((i:Int) == (b:Int))=false by rw[beq_eq_false_iff_ne];omega,cond_false,ZnF,Zog];refine⟨ZnJ (by omega),fun _=> ?_,fun _=> ?_⟩
     ·rw[ZnB];exact .inl ⟨false,d,rfl,h4,fun h=>by cases h⟩
     ·
      have hg:=ZyV hi hi1;have hsr:Rg a b d (sw d i (i - 1) hi hi1):=ZBo hi hi1 (by omega) (by omega) (by omega) (by omega);have next:∀d',Rg a b D d'→Srt a i d'→wp (rec ((a:Int),(b:Int),(i:Int),(j:Int)+1,d')) (fun x=>(∃f d,x= .ret (f,d)∧Rg a b D d∧(f=true→Srt a b d))∨∃d,x= .brk d∧Rg a b D d):=fun d' q1 q2=>ih (i,j+1,d') ⟨g1,by dsimp only;omega,by dsimp only;omega,q1,q2⟩ (by dsimp only;omega)
      have j4:∀d',Rg a b D d'→Srt a i d'→wp (ZnY (fun a1 a2 a3 a4 a5=>rec (a1,a2,a3,a4,a5)) (a:Int) (b:Int) (i:Int) (j:Int) (decide ((b:Int) - (i:Int)≥2)) d') (fun x=>(∃f d,x= .ret (f,d)∧Rg a b D d∧(f=true→Srt a b d))∨∃d,x= .brk d∧Rg a b D d):=by
       intro d' q1 q2;unfold ZnY ZoZ
       by_cases hr:i+2≤b
       ·rw[decide_eq_true (show (b:Int) - (i:Int)≥2 by omega),cond_true,ZnF,ZnC,show (i:Int)+1=((i+1:Nat):Int) by omega];refine⟨ZnJ (by omega),ZnK (ZDG (D:=d') (by rw[q1.len];omega) g1 hr (by rw[q1.len];omega)) ?_⟩;rintro _ ⟨d2,rfl,w1⟩;dsimp only;rw[ZnF];exact⟨ZnJ (by omega),next d2 (q1.trans (w1.mono (by omega) (ZMd _))) (q2.rg w1)⟩
       ·rw[decide_eq_false (show ¬(b:Int) - (i:Int)≥2 by omega),cond_false,ZnF];exact⟨ZnJ (by omega),next d' q1 q2⟩
      rw[show (i:Int) - 1=((i - 1:Nat):Int) by omega];simp only[ZnF,ZLP];rw[ZLV hi1,ZLV hi];simp only[ZnC,ZnB,ZnF];refine⟨ZnJ (by omega),ZnJ (by omega),Zop hi1,Zop hi,Zop hi,Zpk ⟨by omega,by rw[ZL2];omega⟩,ZnJ (by omega), ?_⟩;show wp (bif decide ((i:Int) - (a:Int)≥2)then _ else _) _
      by_cases h2a:a+2≤i
      ·rw[decide_eq_true (show (i:Int) - (a:Int)≥2 by omega),cond_true];simp only[ZnF,ZnC];refine⟨ZnJ (by omega), ?_⟩;have hI:Ins a i (i - 1) (sw d i (i - 1) hi hi1):=by refine⟨fun p q x y q1 q2 q3 e1 e2 hx hy=> ?_,fun q x y q2 q3=>by omega⟩;rw[hg _ (by omega),if_neg e1,if_neg (by omega)]at hx;rw[hg _ (by omega),if_neg e2,if_neg (by omega)]at hy;exact g3 p q x y q1 q2 q3 hx hy
       refine ZnK (ZEj (D:=sw d i (i - 1) hi hi1) (by rw[ZBp];omega) h2a hib (by rw[ZBp];omega) ((hlow.rg h4).rg hsr) hI) ?_;rintro _ ⟨d2,rfl,w1,w2⟩;dsimp only;unfold Zo0;rw[ZnF];exact⟨ZnJ (by omega),j4 d2 ((h4.trans hsr).trans w1) w2⟩
      ·rw[decide_eq_false (show ¬(i:Int) - (a:Int)≥2 by omega),cond_false,ZnF];exact⟨ZnJ (by omega),j4 _ (h4.trans hsr) fun p q x y q1 q2 q3=>by omega⟩
   ·rw[decide_eq_false (show ¬(j:Int) < 5 by omega),cond_false,ZnB];exact .inr ⟨d,rfl,h4⟩
  ·rintro x (⟨f,d,rfl,r1,r2⟩ |⟨d,rfl,r1⟩)
   ·dsimp only;rw[ZnB];exact⟨r1,r2⟩
   ·unfold ZoY;dsimp only;rw[ZnB];exact⟨r1,fun h=>by cases h⟩
 unfold Zom;rw[ZnC];refine ZnK Zd fun x hx=> ?_
 rw[ZnF,ZnB];exact⟨by rw[hx.1.len];simp,hx⟩
end Go.Proofs
namespace Go.Proofs
open Go Eng
theorem ZEw (Pre:List En1) (b i0:Int) {A0 C0:List En1} {x:En1} (hlen:(Pre++(A0++x::C0)).length≤1000):
  wp (ZnV big (Pre.length:Int) b i0 ((Pre.length+A0.length:Nat):Int) (Pre++(A0++x::C0))) (fun y=>y=((Pre.length:Int),b,i0,Pre++(ZDz ltE x A0++C0))):=by
 refine ZqA Zvc (fun(s:List En1×List En1)=>((Pre.length:Int),b,i0,((Pre.length+s.1.length:Nat):Int),Pre++(s.1++x::s.2))) (fun s=>ZDz ltE x s.1++s.2=ZDz ltE x A0++C0∧(Pre++(s.1++x::s.2)).length≤1000) (fun s=>s.1.length)
  (Q:=fun y=>y=((Pre.length:Int),b,i0,Pre++(ZDz ltE x A0++C0))) (A0,C0) ⟨rfl,hlen⟩ (by dsimp only;simp only[ZLY]at hlen;omega) ?_
 rintro rec ⟨A,C⟩ ⟨hR,hl⟩ ih;dsimp only at hR hl ih⊢
 unfold Zrf Zps ZoC;dsimp only;rcases List.eq_nil_or_concat A with rfl |⟨A,p,rfl⟩
 ·rw[Zog];refine⟨fun h=>by simp at h,fun _=> ?_⟩;rw[cond_false,ZnB];rw[ZGb]at hR;rw[←hR];rfl
 ·rw[List.concat_eq_append]at*
  simp only[ZLY,ZLZ,List.length_nil]at hl;have e0:Pre++((A++[p])++x::C)=(Pre++A)++p::x::C:=by simp
  have hla:(Pre++A).length=Pre.length+A.length:=ZLY;have ei:((Pre.length+(A++[p]).length:Nat):Int)=(((Pre++A).length+1:Nat):Int):=by rw[hla,ZLY,ZL3];omega
  have ej:((Pre.length+(A++[p]).length:Nat):Int) - 1=((Pre++A).length:Int):=by rw[ei];omega
  have g1:((Pre++A)++p::x::C)[(Pre++A).length+1]? =some x:=by rw[ZLT (by omega),show (Pre++A).length+1 - (Pre++A).length=1 by omega];rfl
  have g0:((Pre++A)++p::x::C)[(Pre++A).length]? =some p:=by rw[ZLT (by omega),Nat.sub_self];rfl
  rw[Zog];refine⟨fun _=> ?_,fun h=>by simp only[decide_eq_false_iff_not]at h;rw[ei,hla]at h;omega⟩;rw[ej,ei,e0];simp only[ZLP,g1,g0,ZMg];have ll:((Pre++A)++p::x::C).length=(Pre++A).length+2+C.length:=by rw[ZLY (bs:=p::x::C)];simp only[ZLZ];omega
  have lx:inR (((Pre++A).length+1:Nat):Int) (((Pre++A)++p::x::C).length:Int)=true:=Zpk ⟨by omega,by omega⟩;have lp:inR ((Pre++A).length:Int) (((Pre++A)++p::x::C).length:Int)=true:=Zpk ⟨by omega,by omega⟩;have lp':inR ((Pre++A).length:Int) ((((Pre++A)++p::x::C).set ((Pre++A).length+1) p).length:Int)=true:=by rw[ZL2];exact lp
  have ki:inK .i64 ((Pre++A).length:Int)=true:=ZnJ (by omega);rw[lx,lp,lp',ki];simp only[chk_true];rw[ZwU,ZnC,ZnB];rw[ZE9]at hR;have hlt:ltE x p=decide (ZuQ x p < 0):=rfl;rw[Zog];refine⟨fun hc=> ?_,fun hc=> ?_⟩
  ·rw[hlt,if_pos hc]at hR;rw[ZEN];have:=ih (A,p::C) ⟨by rw[←hR];simp,by simp only[ZLY,ZLZ];omega⟩ (by simp);dsimp only at this;rw[←hla,←List.append_assoc]at this;exact this
  ·rw[hlt,if_neg (by rw[hc];simp)]at hR;rw[ZnB,←hR];simp
theorem ZHD (Pre M Suf:List En1) (hl:(Pre++(M++Suf)).length≤1000):
  Zof (Pre++(M++Suf)) (Pre.length:Int) ((Pre.length+M.length:Nat):Int)=some (Pre++(ZAb ltE M++Suf)):=by
 have hlen:Pre.length+M.length+Suf.length≤1000:=by simp only[ZLY]at hl;omega
 have key:ZoT (Pre++(M++Suf)) (Pre.length:Int) ((Pre.length+M.length:Nat):Int)=some (Pre++(ZAb ltE M++Suf)):=by
  refine Zqz ?_;unfold ZoT ZpF;rw[ZnF,ZnC];refine⟨ZnJ (by omega), ?_⟩;have out:∀(k f:Nat),k+1≤M.length→M.length - (k+1) < f→wp (Zoa f (Pre.length:Int) ((Pre.length+M.length:Nat):Int) ((Pre.length+(k+1):Nat):Int) (Pre++((ZAb ltE (M.take (k+1))++M.drop (k+1))++Suf))) (fun y=>y=Pre++(ZAb ltE M++Suf)):=by
   intro k f
   induction f generalizing k with
   |zero=>intro _ h;omega
   |succ f ih=>
    intro hk hf;show wp (Zn4 _ _ _ _ _) _;unfold Zn4 ZpG;rw[Zog];refine⟨fun hc=> ?_,fun hc=> ?_⟩
    ·simp only[decide_eq_true_eq]at hc;have hk2:k+1 < M.length:=by omega
     have hlen2:(ZAb ltE (M.take (k+1))).length=k+1:=by rw[ZAz,ZL4];omega
     have e:M.drop (k+1)=M[k+1]::M.drop (k+2):=List.drop_eq_getElem_cons hk2;rw[e];have:=ZEw Pre ((Pre.length+M.length:Nat):Int) ((Pre.length+(k+1):Nat):Int) (A0:=ZAb ltE (M.take (k+1))) (C0:=M.drop (k+2)++Suf) (x:=M[k+1]) (by simp only[ZLY,ZLZ,hlen2,List.length_drop];omega);rw[hlen2]at this;rw[ZnC,List.append_assoc,List.cons_append];refine ZnK this ?_;rintro y rfl;dsimp only;rw[ZnF];refine⟨ZnJ (by omega), ?_⟩;have e2:ZDz ltE M[k+1] (ZAb ltE (M.take (k+1)))=ZAb ltE (M.take (k+2)):=by rw[ZMc hk2,ZEv]
     rw[e2];have:=ih (k+1) (by omega) (by omega);rw[show ((Pre.length+(k+1):Nat):Int)+1=((Pre.length+(k+1+1):Nat):Int) by omega];rw[List.append_assoc]at this;exact this
    ·simp only[decide_eq_false_iff_not]at hc;have:k+1=M.length:=by omega
     rw[ZnB,this,ZMa,List.drop_of_length_le (ZMd _),List.append_nil]
  by_cases h0:M.length=0
  ·have:M=[]:=List.eq_nil_of_length_eq_zero h0;subst this;obtain⟨n,hn⟩:=ZC4 1 (by omega);rw[hn];show wp (Zn4 _ _ _ _ _) _;unfold Zn4;rw[List.length_nil,decide_eq_false (by omega),cond_false,ZnB,ZnB];rfl
  ·have:=out 0 big (by omega) (by rw[big_eq];omega);have e:ZAb ltE (M.take (0+1))++M.drop (0+1)=M:=by
    cases M with
    |nil=>simp at h0
    |cons x M=>rfl
   rw[e]at this;rw[show ((Pre.length:Int))+1=((Pre.length+(0+1):Nat):Int) by omega];refine ZnK this ?_;rintro y rfl;rw[ZnB]
 unfold Zof;rw[key,ZMg];have:(Pre++(ZAb ltE M++Suf)).length=(Pre++(M++Suf)).length:=by simp only[ZLY,ZAz]
 rw[this,decide_eq_true rfl];rfl
theorem ZDs (l:List En1):(ZAb ltE l).Pairwise Le:=
 ZBO (fun _=>True) Le (fun x p _ _ h=>by have:=of_decide_eq_true h;unfold Le;omega) (fun x p _ _ h=>Zxa (of_decide_eq_false h)) (fun a b c _ _ _ h1 h2=>h1.trans h2) l fun _ _=>trivial
theorem ZI4 {D:List En1} (hn:D.length≤1000) {a b:Nat} (hab:a≤b) (hb:b≤D.length):
  wp (Zof D (a:Int) (b:Int)) (fun d=>Rg a b D d∧Srt a b d):=by
 have e:D=D.take a++((D.drop a).take (b - a)++(D.drop a).drop (b - a)):=by rw[List.take_append_drop,List.take_append_drop]
 have l1:(D.take a).length=a:=by rw[ZL4];omega
 have l2:((D.drop a).take (b - a)).length=b - a:=by rw[ZL4,List.length_drop];omega
 generalize D.take a=Pre at e l1;generalize (D.drop a).take (b - a)=M at e l2;generalize (D.drop a).drop (b - a)=Suf at e;subst e;have h:=ZHD Pre M Suf hn;rw[l1,show ((a+M.length:Nat):Int)=(b:Int) by omega]at h;rw[h,ZnB];have l3:(ZAb ltE M).length=M.length:=ZAz M;have hs:=ZDs M;refine⟨⟨((Zxf M).append_right Suf).append_left Pre,fun k hk=> ?_⟩,fun i j x y q1 q2 q3 hx hy=> ?_⟩
 ·rcases hk with hk |hk
  ·rw[ZLS (by omega),ZLS (by omega)]
  ·rw[ZLT (by omega),ZLT (by omega),ZLT (by omega),ZLT (by omega),l3]
 ·rw[ZLT (by omega),ZLS (by omega)]at hx hy;obtain⟨hi,rfl⟩:=ZLW.1 hx;obtain⟨hj,rfl⟩:=ZLW.1 hy;exact ZL9.1 hs _ _ hi hj (by omega)
end Go.Proofs
namespace Go.Proofs
open Go Eng
theorem Low.sub {a b c:Nat} {d:List En1} (h:Low a b d) (hc:c≤b):Low a c d:=by
 rcases h with h |h
 ·exact .inl h
 ·exact .inr fun x hx k y h1 h2 hy=>h x hx k y h1 (by omega) hy
theorem ZIQ:∀(n:Nat) {D:List En1} (_:D.length≤200) {a0 b0:Nat} (_:a0≤b0) (_:b0≤D.length) (_:b0 - a0 < n) (_:Low a0 b0 D) {lim:Int} (_:0≤lim) (_:lim≤1000),
  wp (ZnG n D (a0:Int) (b0:Int) lim) (fun d=>Rg a0 b0 D d∧Srt a0 b0 d):=by
 intro n
 induction n with
 |zero=>intro D _ a0 b0 _ _ h;omega
 |succ n IH=>
  intro D hn a0 b0 hab hb hfu hlow lim hl0 hl1;show wp ((Zpp (ZnG n) D (a0:Int) (b0:Int) lim).bind _) _;rw[ZnC];refine ZnK (Q:=fun d=>Rg a0 b0 D d∧Srt a0 b0 d) ?_ fun d hd=>by rw[ZnF,ZnB];exact⟨by rw[hd.1.len];simp,hd⟩
  unfold Zpp;rw[ZnC];refine ZnK (ZqA (Zwy (ZnG n)) (fun s:Nat×Nat×Int×Bool×Bool×List En1=>((s.1:Int),(s.2.1:Int),s.2.2.1,s.2.2.2.1,s.2.2.2.2.1,s.2.2.2.2.2))
   (fun s=>a0≤s.1∧s.1≤s.2.1∧s.2.1≤b0∧(0≤s.2.2.1∧s.2.2.1≤1000)∧Rg a0 b0 D s.2.2.2.2.2∧Low s.1 s.2.1 s.2.2.2.2.2∧∀d',Rg s.1 s.2.1 s.2.2.2.2.2 d'→Srt s.1 s.2.1 d'→Srt a0 b0 d') (fun s=>s.2.1 - s.1)
   (Q:=fun x=>∃d,x= .ret d∧Rg a0 b0 D d∧Srt a0 b0 d) (a0,b0,lim,true,true,D) ⟨ZMd _,hab,ZMd _,⟨hl0,hl1⟩,.refl _ _ _,hlow,fun d' _ h=>h⟩ (by dsimp only;omega) ?_) ?_
  ·rintro rec ⟨a,b,lim,wb,wq,d⟩ ⟨h1,h2,h3,⟨h4,h5⟩,h6,h7,h8⟩ ih;dsimp only at h1 h2 h3 h4 h5 h6 h7 h8 ih;have hl:=h6.len;have up:∀d',Rg a b d d'→Rg a0 b0 D d':=fun d' h=>h6.trans (h.mono h1 h3)
   unfold ZsN Zp8;dsimp only;rw[ZnF];refine⟨ZnJ (by omega), ?_⟩
   by_cases h12:(b:Int) - (a:Int)≤12
   ·rw[decide_eq_true h12,cond_true,ZnC];refine ZnK (ZI4 (D:=d) (by omega) h2 (by omega)) ?_;rintro d' ⟨r1,r2⟩;rw[ZnB];exact⟨d',rfl,up d' r1,h8 d' r1 r2⟩
   rw[decide_eq_false h12,cond_false,Zog];refine⟨fun _=> ?_,fun hlim=> ?_⟩
   ·rw[ZnC];refine ZnK (ZHE (D:=d) (by omega) (a:=a) (b:=b) (by omega) (by omega)) ?_;rintro d' ⟨r1,r2⟩;rw[ZnB];exact⟨d',rfl,up d' r1,h8 d' r1 r2⟩
   have hlim':lim≠0:=by simpa using hlim
   have j5:∀(pv:Nat) (L:Int) (len:Int) (d1:List En1) (f:Bool),a≤pv→pv < b→0≤L→L≤1000→len=((b - a:Nat):Int)→Rg a b d d1→
     (f=true→∃hp:pv < d1.length,∃ha:a - 1 < d1.length,0 < a∧¬ZuQ d1[a - 1] d1[pv] < 0)→
     wp (Zov (ZnG n) (fun a1 a2 a3 a4 a5 a6=>rec (a1,a2,a3,a4,a5,a6)) (a:Int) (b:Int) L wb wq len (pv:Int) f d1) (fun x=>∃d,x= .ret d∧Rg a0 b0 D d∧Srt a0 b0 d):=by
    intro pv L len d1 f p1 p2 L0 L1 hlen r1 hf;have hl1:=r1.len;have hlow1:=h7.rg r1;unfold Zov;cases f with
    |true=>
     obtain⟨hp,ha,ha0,hnl⟩:=hf rfl;rw[cond_true,ZnC];refine ZnK (ZFX (D:=d1) (by omega) (by omega) p1 p2) ?_;rintro⟨m',d2⟩ ⟨⟨m,e,m1,m2,r2,p,q1,q2,q3⟩,q4⟩;dsimp only at e r2 q1 q2 q3 q4⊢
     subst e;have hpp:d1[pv]=p:=by rw[q1,ZLV hp]at q4;exact(ZMh q4).symm
     have hl2:=r2.len;have hlow2:=hlow1.rg r2;have ha2:d2[a - 1]? =some d1[a - 1]:=by rw[r2.2 (a - 1) (.inl (by omega)),ZLV ha]
     have hpa:Le p d1[a - 1]:=hpp▸Zxa hnl;have hall:∀k y,a≤k→k < b→d2[k]? =some y→Le d1[a - 1] y:=fun k y w1 w2 hy=>by
      rcases hlow2 with h |h
      ·omega
      ·exact h _ ha2 k y w1 w2 hy
     refine ih (m,b,L,wb,wq,d2) ⟨by dsimp only;omega,m2,h3,⟨L0,L1⟩,up d2 (r1.trans r2),.inr fun x hx k y w1 w2 hy=> ?_,fun d' s1 s2=> ?_⟩ (by dsimp only;omega)
     ·dsimp only at hx w1 hy;exact(Zxa (q2 (m - 1) x (by omega) (by omega) hx)).trans (.of_lt (q3 k y w1 w2 hy))
     ·dsimp only at s1 s2;refine h8 d' ((r1.trans r2).trans (s1.mono (by omega) (ZMd _))) fun i j x y w1 w2 w3 hx hy=> ?_
      by_cases e1:i < m
      ·rw[s1.2 i (.inl e1)]at hx;have hxp:Le x p:=Zxa (q2 i x w1 e1 hx)
       by_cases e2:j < m
       ·rw[s1.2 j (.inl e2)]at hy;exact(hxp.trans hpa).trans (hall j y (by omega) (by omega) hy)
       ·obtain⟨k',u1,u2,u3⟩:=s1.mem (by omega) w3 hy;exact hxp.trans (.of_lt (q3 k' y u1 u2 u3))
      ·exact s2 i j x y (by omega) w2 w3 hx hy
    |false=>
     rw[cond_false,ZnC];refine ZnK (ZDi (D:=d1) (by omega) (by omega) p1 p2) ?_;rintro⟨m',ap,d2⟩ ⟨m,e,m1,m2,r2,p,q1,q2,q3⟩;dsimp only at e r2 q1 q2 q3⊢
     subst e;have hl2:=r2.len;have hlow2:=hlow1.rg r2;rw[hlen,ZnF,ZnF,ZnF,ZnF,show Int.tdiv ((b - a:Nat):Int) 8=(((b - a) / 8:Nat):Int)from rfl,Zog];refine⟨ZnJ (by omega),ZnJ (by omega),rfl,ZnJ (by omega),fun _=> ?_,fun _=> ?_⟩
     ·rw[ZnC];refine ZnK (IH (D:=d2) (by omega) (a0:=a) (b0:=m) m1 (by omega) (by omega) (hlow2.sub (by omega)) L0 L1) ?_;rintro d3 ⟨r3,r4⟩;have hl3:=r3.len;rw[ZnF,show (m:Int)+1=((m+1:Nat):Int) by omega];have hpm:d3[m]? =some p:=by rw[r3.2 m (.inr (ZMd _))];exact q1
      have hhi:∀k y,m < k→k < b→d3[k]? =some y→Le p y:=fun k y w1 w2 hy=>by rw[r3.2 k (.inr (by omega))]at hy;exact Zxa (q3 k y w1 w2 hy)
      have hlo:∀k y,a≤k→k < m→d3[k]? =some y→Le y p:=fun k y w1 w2 hy=>by obtain⟨k',u1,u2,u3⟩:=r3.mem w1 w2 hy;exact .of_lt (q2 k' y u1 u2 u3)
      refine⟨ZnJ (by omega),ih (m+1,b,L,_,ap,d3) ⟨by dsimp only;omega,by dsimp only;omega,h3,⟨L0,L1⟩,up d3 ((r1.trans r2).trans (r3.mono (ZMd _) (by omega))),.inr fun x hx k y w1 w2 hy=> ?_,fun d' s1 s2=> ?_⟩ (by dsimp only;omega)⟩
      ·dsimp only at hx w1 hy;rw[show m+1 - 1=m by omega,hpm]at hx;rw[←ZMh hx];exact hhi k y (by omega) w2 hy
      ·dsimp only at s1 s2;refine h8 d' (((r1.trans r2).trans (r3.mono (ZMd _) (by omega))).trans (s1.mono (by omega) (ZMd _))) fun i j x y w1 w2 w3 hx hy=> ?_
       by_cases e1:i < m
       ·rw[s1.2 i (.inl (by omega))]at hx
        by_cases e2:j < m
        ·rw[s1.2 j (.inl (by omega))]at hy;exact r4 i j x y w1 w2 e2 hx hy
        ·have hxp:=hlo i x w1 e1 hx
         by_cases e3:j=m
         ·subst e3;rw[s1.2 j (.inl (by omega)),hpm]at hy;rw[←ZMh hy];exact hxp
         ·obtain⟨k',u1,u2,u3⟩:=s1.mem (by omega) w3 hy;exact hxp.trans (hhi k' y (by omega) u2 u3)
       ·by_cases e3:i=m
        ·subst e3;rw[s1.2 i (.inl (by omega)),hpm]at hx;rw[←ZMh hx];obtain⟨k',u1,u2,u3⟩:=s1.mem (by omega) w3 hy;exact hhi k' y (by omega) u2 u3
        ·exact s2 i j x y (by omega) w2 w3 hx hy
     ·rw[ZnF,ZnC,show (m:Int)+1=((m+1:Nat):Int) by omega];have hlowr:Low (m+1) b d2:= .inr fun x hx k y w1 w2 hy=>by rw[show m+1 - 1=m by omega,q1]at hx;rw[←ZMh hx];exact Zxa (q3 k y (by omega) w2 hy)
      refine⟨ZnJ (by omega),ZnK (IH (D:=d2) (by omega) (a0:=m+1) (b0:=b) (by omega) (by omega) (by omega) hlowr L0 L1) ?_⟩;rintro d3 ⟨r3,r4⟩;have hl3:=r3.len;have hpm:d3[m]? =some p:=by rw[r3.2 m (.inl (by omega))];exact q1
      have hhi:∀k y,m < k→k < b→d3[k]? =some y→Le p y:=fun k y w1 w2 hy=>by obtain⟨k',u1,u2,u3⟩:=r3.mem (by omega) w2 hy;exact Zxa (q3 k' y (by omega) u2 u3)
      have hlo:∀k y,a≤k→k < m→d3[k]? =some y→Le y p:=fun k y w1 w2 hy=>by rw[r3.2 k (.inl (by omega))]at hy;exact .of_lt (q2 k y w1 w2 hy)
      have r23:Rg a b d2 d3:=r3.mono (by omega) (ZMd _);refine ih (a,m,L,_,ap,d3) ⟨h1,m1,by dsimp only;omega,⟨L0,L1⟩,up d3 ((r1.trans r2).trans r23),(hlow2.rg r23).sub (show m≤b by omega),fun d' s1 s2=> ?_⟩ (by dsimp only;omega);dsimp only at s1 s2;refine h8 d' (((r1.trans r2).trans r23).trans (s1.mono (ZMd _) (by omega))) fun i j x y w1 w2 w3 hx hy=> ?_
      by_cases e2:j < m
      ·exact s2 i j x y w1 w2 e2 hx hy
      ·rw[s1.2 j (.inr (by omega))]at hy
       by_cases e1:i < m
       ·obtain⟨k',u1,u2,u3⟩:=s1.mem w1 e1 hx;have hxp:=hlo k' x u1 u2 u3
        by_cases e3:j=m
        ·subst e3;rw[hpm]at hy;rw[←ZMh hy];exact hxp
        ·exact hxp.trans (hhi j y (by omega) w3 hy)
       ·rw[s1.2 i (.inr (by omega))]at hx
        by_cases e3:i=m
        ·subst e3;rw[hpm]at hx;rw[←ZMh hx];exact hhi j y (by omega) w3 hy
        ·exact r4 i j x y (by omega) w2 w3 hx hy
   have j4:∀(pv:Nat) (L:Int) (len:Int) (d1:List En1),a≤pv→pv < b→0≤L→L≤1000→len=((b - a:Nat):Int)→Rg a b d d1→
     wp (Zow (ZnG n) (fun a1 a2 a3 a4 a5 a6=>rec (a1,a2,a3,a4,a5,a6)) (a:Int) (b:Int) L wb wq len (pv:Int) d1) (fun x=>∃d,x= .ret d∧Rg a0 b0 D d∧Srt a0 b0 d):=by
    intro pv L len d1 p1 p2 L0 L1 hlen r1;have hl1:=r1.len;have hp:pv < d1.length:=by omega
    unfold Zow
    by_cases ha:0 < a
    ·have ha1:a - 1 < d1.length:=by omega
     rw[decide_eq_true (show (a:Int) > 0 by omega),cond_true,show (a:Int) - 1=((a - 1:Nat):Int) by omega,ZnF,ZnF,ZLP,ZLP,ZLV ha1,ZnC,ZnB,ZnF,ZLV hp,ZnC,ZnB,ZwU,ZnC,ZnB];refine⟨ZnJ (by omega),Zop ha1,Zop hp,j5 pv L len d1 _ p1 p2 L0 L1 hlen r1 fun hf=>⟨hp,ha1,ha, ?_⟩⟩;simpa using hf
    ·rw[decide_eq_false (show ¬(a:Int) > 0 by omega),cond_false];exact j5 pv L len d1 false p1 p2 L0 L1 hlen r1 fun h=>by cases h
   have j2:∀(pv:Nat) (h L:Int) (len:Int) (d1:List En1),a≤pv→pv < b→0≤L→L≤1000→len=((b - a:Nat):Int)→Rg a b d d1→
     wp (Zox (ZnG n) (fun a1 a2 a3 a4 a5 a6=>rec (a1,a2,a3,a4,a5,a6)) (a:Int) (b:Int) L wb wq len (pv:Int) h d1) (fun x=>∃d,x= .ret d∧Rg a0 b0 D d∧Srt a0 b0 d):=by
    intro pv h L len d1 p1 p2 L0 L1 hlen r1;have hl1:=r1.len;have j3:∀f:Bool,wp (Zn9 (ZnG n) (fun a1 a2 a3 a4 a5 a6=>rec (a1,a2,a3,a4,a5,a6)) (a:Int) (b:Int) L wb wq len (pv:Int) f d1) (fun x=>∃d,x= .ret d∧Rg a0 b0 D d∧Srt a0 b0 d):=by
     intro f;unfold Zn9;cases f with
     |false=>rw[cond_false];exact j4 pv L len d1 p1 p2 L0 L1 hlen r1
     |true=>
      rw[cond_true,ZnC];refine ZnK (ZDI (D:=d1) (by omega) (by omega) (by omega) (h7.rg r1)) ?_;rintro⟨q,d2⟩ ⟨w1,w2⟩;dsimp only at w1 w2⊢
      cases q with
      |true=>
       rw[cond_true,ZnB];exact⟨d2,rfl,up d2 (r1.trans w1),h8 d2 (r1.trans w1) (w2 rfl)⟩
      |false=>rw[cond_false];exact j4 pv L len d2 p1 p2 L0 L1 hlen (r1.trans w1)
    unfold Zox;rw[Zog];refine⟨fun _=> ?_,fun _=>j3 _⟩;rw[Zog];exact⟨fun _=>j3 _,fun _=>j3 _⟩
   have j1:∀(L:Int) (d1:List En1),0≤L→L≤1000→Rg a b d d1→
     wp (Zoy (ZnG n) (fun a1 a2 a3 a4 a5 a6=>rec (a1,a2,a3,a4,a5,a6)) (a:Int) (b:Int) L wb wq ((b:Int) - (a:Int)) d1) (fun x=>∃d,x= .ret d∧Rg a0 b0 D d∧Srt a0 b0 d):=by
    intro L d1 L0 L1 r1;have hl1:=r1.len;unfold Zoy;rw[ZnC];refine ZnK (ZFU (d:=d1) (by omega) (a:=a) (b:=b) (by omega) (by omega)) ?_;rintro _ ⟨pv,h,rfl,p1,p2⟩;dsimp only;rw[Zog];refine⟨fun _=> ?_,fun _=>j2 pv h L _ d1 p1 p2 L0 L1 (by omega) r1⟩;rw[ZnC];refine ZnK (ZEk (D:=d1) (by omega) h2 (by omega)) ?_;intro d2 r2;rw[ZnF,ZnF,ZnF,show (b:Int) - 1 - ((pv:Int) - (a:Int))=((b - 1 - (pv - a):Nat):Int) by omega];exact⟨ZnJ (by omega),ZnJ (by omega),ZnJ (by omega),j2 _ 1 L _ d2 (by omega) (by omega) L0 L1 (by omega) (r1.trans r2)⟩
   rw[Zog];refine⟨fun _=> ?_,fun _=>j1 lim d h4 h5 (.refl _ _ _)⟩;rw[ZnC];refine ZnK (ZGl (D:=d) (by omega) (a:=a) (b:=b) (by omega) (by omega)) ?_;intro d1 r1;rw[ZnF];exact⟨ZnJ (by omega),j1 (lim - 1) d1 (by omega) (by omega) r1⟩
  ·rintro _ ⟨d,rfl,r1,r2⟩;dsimp only;rw[ZnB];exact⟨r1,r2⟩
end Go.Proofs
namespace Go.Proofs
open Go Eng
theorem lens:((List.range 201).all fun n:Nat=>match ZxM (IntKind.wrap .u64 (n:Int))with |some m=>decide (0≤m∧m≤1000) |none=>false)=true:=by kernel_rfl
theorem ZFN {D:List En1} (hl:D.length≤200):wp (ZnZ D) (fun r=>r.Perm D∧r.Pairwise Le):=by have h2:=ZLQ.1 lens D.length (List.mem_range.2 (by omega));split at h2;rotate_left;simp at h2;rename_i m hm;obtain⟨h3,h4⟩:=of_decide_eq_true h2;have key:=ZIQ big (D:=D) hl (a0:=0) (b0:=D.length) (ZMf _) (ZMd _) (by rw[big_eq];omega) (.inl rfl) h3 h4;unfold ZnZ ZpC;rw[hm,ZMg,ZnC,ZnC];refine ZnK key ?_;rintro r ⟨hr,hs⟩;rw[ZnB,ZnF,ZnB];refine⟨by rw[hr.len];simp,hr.1,ZL9.2 fun i j hi hj hij=> ?_⟩;have:=hr.len;exact hs i j _ _ (ZMf _) hij (by omega) (ZLV hi) (ZLV hj)
end Go.Proofs
namespace Go.Proofs
open Go Eng
def Zmg (R:List (Str×Rat)):List ZnA:=(ZAJ R).map (En R)
def Zzn (l:List G_api_Cell):Prop:=∀x∈l,x.Text.length≤9223372036854775807
theorem ZE5 {K V:List G_api_Cell} (hK:Zzn K) (hV:Zzn V) (hn:K.length≤40) (hl:K.length=V.length) (nm:Str):
  wp (Ztl big K (K.length:Int) 0 (G_api_Column.mk nm V) [] []) (fun x=>x=Zmg (ZwG K V)):=by
 refine Zzy ZBi K (by omega) (fun i (t:List (Str×Int)×List ZnA)=>(K,(K.length:Int),i,G_api_Column.mk nm V,t.1,t.2))
  (fun k t=>t.1=mpo 0 (ZAJ (ZwG (K.take k) (V.take k)))∧t.2=Zmg (ZwG (K.take k) (V.take k))) (Q:=fun x=>x=Zmg (ZwG K V)) ([],[]) ⟨rfl,rfl⟩ ?_ ?_
 ·rintro rec k ⟨at_,out⟩ hk ⟨ha,ho⟩ ih;dsimp only at ha ho ih;subst ha ho;have hkv:k < V.length:=by omega
  have hrl:(ZwG (K.take k) (V.take k)).length≤k:=by unfold ZwG;refine ZMe (ZL0 _ _) ?_;rw[ZL5,ZL4];omega
  have hsz:∀r∈ZwG (K.take k) (V.take k),Sz 80 r.2:=ZCU;have hstep:ZwG (K.take (k+1)) (V.take (k+1))=ZwG (K.take k) (V.take k)++(ZAX (K[k],V[k])).toList:=by unfold ZwG;rw[ZMc hk,ZMc hkv,List.zip_append (by rw[ZL4,ZL4];omega),List.filterMap_append];congr 1
  unfold ZyH Zxy;dsimp only;rw[decide_eq_true (show (k:Int) < (K.length:Int) by omega),cond_true,ZwV hk,ZnC,ZnB,ZwV hkv,ZnC,ZnB,ZnC];generalize hR:ZwG (K.take k) (V.take k)=R at*
  have skip:∀(v:ZnE),ZAX (K[k],V[k])=none→wp (Zuq (fun t15 t16 i value at_ out=>rec (t15,t16,i,value,at_,out)) K (K.length:Int) (k:Int) true (G_api_Column.mk nm V) (mpo 0 (ZAJ R)) (Zmg R) K[k] v) (fun x=>x=Zmg (ZwG K V)):=by intro v hr;unfold Zuq Zw6;rw[cond_true,ZnF];refine⟨ZnJ (by omega),ih (mpo 0 (ZAJ R),Zmg R) ?_⟩;rw[hstep,hr];simp
  have take1:∀(q:Rat),Sz 80 q→ZAX (K[k],V[k])=some (K[k].Text,q)→wp (Zuq (fun t15 t16 i value at_ out=>rec (t15,t16,i,value,at_,out)) K (K.length:Int) (k:Int) false (G_api_Column.mk nm V) (mpo 0 (ZAJ R)) (Zmg R) K[k] (fOf q)) (fun x=>x=Zmg (ZwG K V)):=by
   intro q hq hr;have hnew:ZwG (K.take (k+1)) (V.take (k+1))=R++[(K[k].Text,q)]:=by rw[hstep,hr];rfl
   have hkl:=ZBY R;have hkl':=ZBY (R++[(K[k].Text,q)]);rw[ZLY,ZL3]at hkl';have upd:∀(j:Nat) (ks:List Str),ks=ZAJ (R++[(K[k].Text,q)])→ks[j]? =some K[k].Text→
     wp (Zw7 (fun t15 t16 i value at_ out=>rec (t15,t16,i,value,at_,out)) (j:Int) K (K.length:Int) (k:Int) (G_api_Column.mk nm V) (mpo 0 ks) (ks.map (En R)) (fOf q)) (fun x=>x=Zmg (ZwG K V)):=by
    intro j ks hks hj;have hjl:j < ks.length:=(ZLW.1 hj).1;have hjm:j < (ks.map (En R)).length:=by rw[ZL1];exact hjl
    have hkj:ks[j]=K[k].Text:=(ZLW.1 hj).2;have hg:(ks.map (En R))[j]? =some (En R K[k].Text):=by rw[List.getElem?_map,hj];rfl
    have hc:cnt R K[k].Text≤R.length:=ZLR;have hs:=ZEJ hsz K[k].Text;unfold Zw7 Zw6;rw[ZnF,ZLP,hg,ZnC,ZnB,ZnF,ZnF,ZnC,ZnB,ZnF,List.getElem?_set_self hjm,ZnC,ZnB];dsimp only[En];rw[ZEY hs hq (by omega),ZnC,ZnB,ZnF,ZnC,ZnB,ZnF];dsimp only;refine⟨Zop hjm,ZnJ (by omega),Zop hjm,Zpk ⟨by omega,by rw[ZL2];omega⟩,Zpk ⟨by omega,by rw[ZL2];omega⟩,ZnJ (by omega), ?_⟩;rw[List.set_set];refine ih (_,_) ⟨?_, ?_⟩
    ·dsimp only;rw[hnew,hks]
    ·dsimp only;rw[hnew];unfold Zmg;rw[←hks];have he:ZnA.mk K[k].Text (Zzl K[k].Text) ((cnt R K[k].Text:Int)+1) (fOf (sm R K[k].Text+q))=En (R++[(K[k].Text,q)]) K[k].Text:=by unfold En;rw[ZB0,ZCR,if_pos rfl];unfold ZAT;rw[if_pos rfl];congr 1
     rw[he];refine ZEO (En R) (En (R++[(K[k].Text,q)])) (by rw[hks];exact ZBH _) hj fun x hx=> ?_
     unfold En;rw[ZB0,ZCR,if_neg (fun e=>hx e.symm)];unfold ZAT;rw[if_neg (fun e=>hx e.symm),Nat.add_zero]
   unfold Zuq;rw[cond_false]
   by_cases hin:K[k].Text∈ZAJ R
   ·obtain⟨j,h1,h2⟩:=ZE4 (ZAJ R) 0 K[k].Text hin;rw[Int.zero_add]at h1;rw[h1,show (some (j:Int)).isSome=true from rfl,ZLN,cond_false,show ((some (j:Int)).getD (0:Int))=(j:Int)from rfl];have hks:ZAJ R=ZAJ (R++[(K[k].Text,q)]):=by rw[ZBv];unfold ZAa;rw[if_pos hin]
    exact upd j _ hks h2
   ·rw[ZEd _ _ _ hin,show (none:Option Int).isSome=false from rfl,ZIO,cond_true,ZCZ (hK _ (ZLX hk)),ZnC,ZnB,ZED,ZnC,ZnB,ZnF];refine⟨Zyk (by unfold Zmg;rw[ZL1,ZL3];omega), ?_⟩;have hks:ZAJ R++[K[k].Text]=ZAJ (R++[(K[k].Text,q)]):=by rw[ZBv];unfold ZAa;rw[if_neg hin]
    have hl1:((Zmg R).length:Int)=((ZAJ R).length:Int):=by unfold Zmg;rw[ZL1]
    have ho1:Zmg R++[ZnA.mk K[k].Text (Zzl K[k].Text) 0 (fOf 0)]=(ZAJ R++[K[k].Text]).map (En R):=by unfold Zmg;rw[List.map_append];congr 1;have:=ZGJ hin;show [_]=[En R K[k].Text];unfold En;rw[this.1,this.2];rfl
    rw[hl1,ZHf hin,ho1];exact upd (ZAJ R).length _ hks (by simp)
  rw[ZDJ (hV _ (ZLX hkv)),ZnB];cases hv:ZCu V[k]with
  |some q=>
   dsimp only;cases hnull:K[k].Null with
   |true=>
    rw[cond_true];exact skip _ (by unfold ZAX;rw[if_pos hnull])
   |false=>
    rw[cond_false,ZLN];exact take1 q (ZC2 hv) (by unfold ZAX;rw[if_neg (by simp[hnull])];dsimp only;rw[hv];rfl)
  |none=>
   dsimp only;have hrow:ZAX (K[k],V[k])=none:=by unfold ZAX;dsimp only;rw[hv];split<;>rfl
   cases hnull:K[k].Null with
   |true=>rw[cond_true];exact skip _ hrow
   |false=>rw[cond_false,ZIO];exact skip _ hrow
 ·rintro rec ⟨at_,out⟩ ⟨ha,ho⟩;dsimp only at ha ho;subst ha ho;unfold ZyH Zxy;dsimp only;rw[decide_eq_false (show ¬(K.length:Int) < (K.length:Int) by omega),cond_false,ZnB,ZMa,hl,ZMa]
theorem ZFO {D:List ZnA} (hl:D.length≤200) (f:Str→ZnA) (hD:∀e∈D,e=f e.Key):ZnZ D=some (ZAb ltE D):=by
 refine Zqz (ZnK (ZFN hl) ?_);rintro r ⟨hp,hs⟩;refine ZB7 (fun e=>e=f e.Key) Le (fun a b ha hb h1 h2=> ?_) (fun e he=>hD e (hp.mem_iff.1 he)) (hp.trans (Zxf _).symm) hs (ZDs D);have h3:=Zx7 a b;unfold Le at h1 h2;have h4:ZuQ a b=0:=by omega
 rw[ha,hb,ZAy h4]
def Zxb (K V:List G_api_Cell):List ZnA:=ZAb ltE (Zmg (ZwG K V))
theorem ZD8 {K V:List G_api_Cell}:(Zmg (ZwG K V)).length≤K.length:=by unfold Zmg;rw[ZL1];refine ZMe (ZBY _) (ZMe (ZL0 _ _) ?_);rw[ZL5];omega
theorem ZE6 {key value:G_api_Column} (hK:Zzn key.Cells) (hV:Zzn value.Cells) (hn:key.Cells.length≤40) (hl:key.Cells.length=value.Cells.length):
  ZyI key value=some (Zxb key.Cells value.Cells):=by
 refine Zqz ?_;unfold ZyI;rw[ZnC];refine ZnK (ZE5 hK hV (by omega) hl value.Name) ?_;rintro _ rfl;unfold Zzw;rw[ZFO (ZMe ZD8 (by omega)) (En (ZwG key.Cells value.Cells)) (fun e he=>by obtain⟨k,_,rfl⟩:=ZL7.1 he;rfl),ZnC,ZnB,ZnB];rfl
theorem ZE7 {K V:List G_api_Cell}:(Zxb K V).length≤K.length:=by unfold Zxb;rw[ZAz];exact ZD8
def mkS (K V:List G_api_Cell) (m:Nat):ZnM:=⟨(m:Int),decide ((Zxb K V).length≤m),(Zxb K V).take m⟩
theorem ZHx {key value:G_api_Column} (hK:Zzn key.Cells) (hV:Zzn value.Cells) (hn:key.Cells.length≤40) (hl:key.Cells.length=value.Cells.length) {m:Nat} (h1:1≤m) (h2:m≤256):
  ZvK key value (m:Int)=some (mkS key.Cells value.Cells m,0):=by
 unfold ZvK Zw5 Zw4;rw[decide_eq_false (show ¬(m:Int) < 1 by omega),cond_false,decide_eq_false (show ¬(m:Int) > 256 by omega),cond_false,hl,show ((value.Cells.length:Int) != (value.Cells.length:Int))=false by simp,cond_false,decide_eq_false (show ¬(value.Cells.length:Int) > 4096 by omega),cond_false,
  ZE6 hK hV hn hl,ZMg]
 have e:(((Zxb key.Cells value.Cells).drop 0).take (((if ((Zxb key.Cells value.Cells).length:Int) < (m:Int)then ((Zxb key.Cells value.Cells).length:Int)else (m:Int))).toNat - 0))=(Zxb key.Cells value.Cells).take m:=by
  rw[List.drop_zero,Nat.sub_zero];split
  ·rename_i h;rw[ZLP,ZMa,ZMb (by omega)]
  ·rw[ZLP]
 rw[e,ZsO (by split<;>omega),chk_true];unfold mkS;congr 3
 by_cases h:(Zxb key.Cells value.Cells).length≤m
 ·rw[decide_eq_true h,decide_eq_true (by omega)]
 ·rw[decide_eq_false h,decide_eq_false (by omega)]
end Go.Proofs
namespace Go.Proofs
open Go Eng
theorem ZBD {a b c:ZnA} (h:a.Key=b.Key) (ha:ZAN a) (hb:ZAN b):ZuQ a c=ZuQ b c:=by
 have e:a.Hash=b.Hash:=by rw[ha,hb,h]
 unfold ZuQ;rw[e,h]
theorem ZDp {a b c:ZnA} (ha:ZAN a) (hb:ZAN b) (h1:ZuQ a b≤0) (h2:ZuQ b c≤0):ZuQ a c≤0:=by
 by_cases e:ZuQ a b=0
 ·rw[ZBD (ZAy e) ha hb];exact h2
 ·have h1':ZuQ a b < 0:=by omega
  by_cases e2:ZuQ b c=0
  ·by_cases hc:ZAN c
   ·have:=ZBD (a:=c) (b:=b) (c:=a) (ZAy e2).symm hc hb;have n1:=Zx7 a c;have n2:=Zx7 a b;omega
   ·exfalso;unfold ZuQ at e2;split at e2
    ·simp at e2
    ·split at e2
     ·simp at e2
     ·have hk:=ZC3 e2;apply hc;unfold ZAN at hb⊢
      rw[←hk,←hb];omega
  ·have:=ZBC h1' (show ZuQ b c < 0 by omega);omega
def Lt (a b:ZnA):Prop:=ZuQ a b < 0
theorem ZBI {l:List ZnA} (h:∀e∈l,ZAN e):(ZAb ltE l).Pairwise fun a b=>ZuQ a b≤0:=by
 refine ZBO ZAN (fun a b=>ZuQ a b≤0) (fun x p _ _ h=> ?_) (fun x p _ _ h=> ?_) (fun a b c ha hb _ h1 h2=>ZDp ha hb h1 h2) l h
 ·have:=of_decide_eq_true h;omega
 ·have:=of_decide_eq_false h;have:=Zx7 x p;omega
theorem ZB8 {R:List (Str×Rat)}:∀e∈Zmg R,ZAN e:=by intro e he;obtain⟨k,_,rfl⟩:=ZL7.1 he;rfl
theorem ZDq {K V:List G_api_Cell} {e:ZnA}:e∈Zxb K V↔∃k∈ZAJ (ZwG K V),En (ZwG K V) k=e:=by unfold Zxb;rw[(Zxf _).mem_iff];unfold Zmg;rw[ZL7]
theorem ZF8 (K V:List G_api_Cell):(Zxb K V).Pairwise Lt:=by
 have h1:=ZBI (l:=Zmg (ZwG K V)) ZB8;have h2:((Zxb K V).map (·.Key)).Nodup:=by have hp:((Zxb K V).map (·.Key)).Perm ((Zmg (ZwG K V)).map (·.Key)):=(Zxf _).map _;rw[hp.nodup_iff];unfold Zmg;rw[List.map_map];have:((fun e:ZnA=>e.Key)∘En (ZwG K V))=id:=rfl;rw[this,List.map_id];exact ZBH _
 rw[List.Nodup,List.pairwise_map]at h2;refine(h1.and h2).imp ?_;rintro a b ⟨h3,h4⟩;unfold Lt;rcases Int.lt_or_eq_of_le h3 with h |h
 ·exact h
 ·exact absurd (ZAy h) h4
def ZKx (e:ZnA):Prop:=ZAN e∧(1≤e.Count∧e.Count≤100)∧e.Key.length≤9223372036854775807∧∃q,e.Sum=fOf q∧Sz 4000 q
theorem ZCC {K V:List G_api_Cell} (hK:Zzn K) (hn:K.length≤40):∀e∈Zxb K V,ZKx e:=by
 intro e he;obtain⟨k,hk,rfl⟩:=ZDq.1 he;have hR:(ZwG K V).length≤40:=by refine ZMe (ZL0 _ _) ?_;rw[ZL5];omega
 obtain⟨r,hr,e1⟩:=ZEc.1 hk;have hc:cnt (ZwG K V) k≤(ZwG K V).length:=ZLR;have hp:0 < cnt (ZwG K V) k:=List.countP_pos_iff.2 ⟨r,hr,by simp[e1]⟩;refine⟨rfl,⟨?_, ?_⟩, ?_,⟨_,rfl,(ZEJ ZCU k).mono (by omega)⟩⟩
 ·show (1:Int)≤(cnt (ZwG K V) k:Int);omega
 ·show (cnt (ZwG K V) k:Int)≤100;omega
 ·obtain⟨p,hp2,hp3⟩:=List.mem_filterMap.1 hr;unfold ZAX at hp3;split at hp3
  ·simp at hp3
  ·obtain⟨q,_,rfl⟩:=Option.map_eq_some_iff.1 hp3;show k.length≤9223372036854775807;rw[e1];exact(hK _ (List.of_mem_zip hp2).1)
theorem ZFR {a b:ZnM} (hl:a.Entries=b.Entries) (hg:∀e∈a.Entries,ZKx e) (hn:a.Entries.length≤1000):
  wp (Zqn big a.Entries (a.Entries.length:Int) 0 b) (fun x=>x= .brk ()):=by
 refine Zzy Zzp a.Entries (by omega) (fun i (_:Unit)=>(a.Entries,(a.Entries.length:Int),i,b)) (fun _ _=>True) (Q:=fun x=>x= .brk ()) () trivial ?_ ?_
 ·rintro rec k _ hk _ ih;obtain⟨_,_,_,q,hq,hs⟩:=hg _ (ZLX hk);unfold Zuy ZsB Zqo;dsimp only;rw[←hl,decide_eq_true (show (k:Int) < (a.Entries.length:Int) by omega),cond_true,ZwV hk,ZnC,ZnB,ZnC,ZnB,show (a.Entries[k].Key == a.Entries[k].Key)=true by simp,ZLN,cond_false,show (a.Entries[k].Hash != a.Entries[k].Hash)=false by simp,cond_false,
   show (a.Entries[k].Count != a.Entries[k].Count)=false by simp,cond_false,hq,ZDf _ _ (hs.wq (by omega)) (hs.wq (by omega)),ZnC,ZnB,decide_eq_true rfl,ZLN,cond_false,ZnF]
  exact⟨ZnJ (by omega),ih () trivial⟩
 ·rintro rec _ _;unfold Zuy ZsB;dsimp only;rw[decide_eq_false (show ¬(a.Entries.length:Int) < (a.Entries.length:Int) by omega),cond_false,ZnB]
theorem ZDZ {a b:ZnM} (hk:a.K=b.K) (ha:a.All=b.All) (hl:a.Entries=b.Entries) (hg:∀e∈a.Entries,ZKx e) (hn:a.Entries.length≤1000):Zqr a b=some true:=by refine Zqz ?_;unfold Zqr Zrs Zvs;rw[hk,ha,show (b.K != b.K)=false by simp,cond_false,show (b.All == b.All)=true by simp,ZLN,cond_false,show ((a.Entries.length:Int) != (b.Entries.length:Int))=false by rw[hl];simp,cond_false,ZnC];refine ZnK (ZFR hl hg hn) ?_;rintro _ rfl;rw[ZnB]
theorem ZF2 {l:List ZnA} (h:l.Pairwise Lt) {i j:Nat} (hij:i < j) (hj:j < l.length):ZuQ l[i] l[j] < 0:=ZL9.1 h i j (by omega) hj hij
end Go.Proofs
namespace Go.Proofs
open Go Eng
theorem ZJp:∀x y:Str,Op.bytesLess x y=decide (Lib.compareBytes x y < 0)
 | [],[]=>rfl
 |_::_,[]=>rfl
 | [],_::_=>rfl
 |a::x,b::y=>by
  rw[Op.bytesLess,ZJp x y,show Lib.compareBytes (a::x) (b::y)=if a < b then -1 else if b < a then 1 else Lib.compareBytes x y by rw[Lib.compareBytes]]
  by_cases h1:a < b
  ·rw[if_pos h1,decide_eq_true h1];rfl
  ·rw[if_neg h1,decide_eq_false h1,Bool.false_or]
   by_cases h2:b < a
   ·rw[if_pos h2,show (a == b)=false by rw[beq_eq_false_iff_ne];rintro rfl;exact h1 h2];rfl
   ·rw[if_neg h2];have h3:a=b:=by have e1:¬a.toNat < b.toNat:=h1;have e2:¬b.toNat < a.toNat:=h2;exact UInt8.toNat_inj.1 (by omega)
    rw[h3,beq_self_eq_true,Bool.true_and]
theorem ZCp (a b:ZnA):ZrN a b=some (decide (ZuQ a b < 0)):=by
 unfold ZrN ZqH ZuQ
 by_cases h1:a.Hash < b.Hash
 ·rw[decide_eq_true h1,cond_true,if_pos h1];rfl
 ·rw[decide_eq_false h1,cond_false,if_neg h1]
  by_cases h2:a.Hash > b.Hash
  ·rw[if_pos h2,beq_eq_false_iff_ne.2 (by omega),cond_false];rfl
  ·rw[if_neg h2,show (a.Hash == b.Hash)=true by rw[beq_iff_eq];omega,cond_true,ZJp]
def upd (k:Str) (q:Rat) (R:List (Str×Rat)) (x:ZnA):ZnA:=if x.Key=k then ⟨x.Key,x.Hash,x.Count+1,fOf (sm R k+q)⟩else x
theorem ZCM (k:Str) (q:Rat) (R:List (Str×Rat)) (x:ZnA):(upd k q R x).Key=x.Key∧(upd k q R x).Hash=x.Hash:=by unfold upd;split<;>exact⟨rfl,rfl⟩
theorem ZGs {k:Str} {q:Rat} {R:List (Str×Rat)} {j:Str}:upd k q R (En R j)=En (R++[(k,q)]) j:=by
 unfold upd En;rw[ZB0,ZCR];unfold ZAT
 by_cases h:j=k
 ·subst h;rw[if_pos rfl,if_pos rfl,if_pos rfl];congr 1
 ·rw[if_neg h,if_neg (fun e=>h e.symm),if_neg (fun e=>h e.symm),Nat.add_zero]
def ZBR (R:List (Str×Rat)):List ZnA:=ZAb ltE (Zmg R)
theorem ZCP {R:List (Str×Rat)} {e:ZnA}:e∈ZBR R↔∃k∈ZAJ R,En R k=e:=by unfold ZBR;rw[(Zxf _).mem_iff];unfold Zmg;rw[ZL7]
theorem ZCQ (R:List (Str×Rat)):(ZBR R).Pairwise Lt:=by
 have h1:=ZBI (l:=Zmg R) ZB8;have h2:((ZBR R).map (·.Key)).Nodup:=by have hp:((ZBR R).map (·.Key)).Perm ((Zmg R).map (·.Key)):=(Zxf _).map _;rw[hp.nodup_iff];unfold Zmg;rw[List.map_map];have:((fun e:ZnA=>e.Key)∘En R)=id:=rfl;rw[this,List.map_id];exact ZBH _
 rw[List.Nodup,List.pairwise_map]at h2;refine(h1.and h2).imp ?_;rintro a b ⟨h3,h4⟩;unfold Lt;rcases Int.lt_or_eq_of_le h3 with h |h
 ·exact h
 ·exact absurd (ZAy h) h4
theorem ZEI {R:List (Str×Rat)} {S:List ZnA} (hp:S.Perm (Zmg R)) (hs:S.Pairwise fun a b=>ZuQ a b≤0):S=ZBR R:=by
 have hP:∀e∈Zmg R,e=En R e.Key:=by intro e he;obtain⟨k,_,rfl⟩:=ZL7.1 he;rfl
 refine ZB7 (fun e=>e=En R e.Key) (fun a b=>ZuQ a b≤0) (fun a b ha hb h1 h2=> ?_) (fun e he=>hP e (hp.mem_iff.1 he)) (hp.trans (Zxf _).symm) hs (ZBI ZB8);have h3:=Zx7 a b;have h4:ZuQ a b=0:=by omega
 rw[ha,hb,ZAy h4]
theorem ZFY {k:Str} {q:Rat} {R:List (Str×Rat)} (x y:ZnA):ZuQ (upd k q R x) (upd k q R y)=ZuQ x y:=by unfold ZuQ;rw[(ZCM k q R x).1,(ZCM k q R x).2,(ZCM k q R y).1,(ZCM k q R y).2]
theorem ZFL {k:Str} {q:Rat} {R:List (Str×Rat)} (h:k∈ZAJ R):(ZBR R).map (upd k q R)=ZBR (R++[(k,q)]):=by
 refine ZEI ?_ ?_
 ·have hk:ZAJ (R++[(k,q)])=ZAJ R:=by rw[ZBv];unfold ZAa;rw[if_pos h]
  have e:Zmg (R++[(k,q)])=(Zmg R).map (upd k q R):=by unfold Zmg;rw[hk,List.map_map];exact List.map_congr_left fun j _=>ZGs.symm
  rw[e];exact(Zxf _).map _
 ·rw[List.pairwise_map];exact(ZCQ R).imp fun {a b} h=>by rw[ZFY];exact ZLO h
theorem ZFM {k:Str} {q:Rat} {R:List (Str×Rat)} (h:k∉ZAJ R) {S1 S2:List ZnA} (hS:ZBR R=S1++S2) {e:ZnA} (he:e=⟨k,Zzl k,1,fOf q⟩) (h1:∀x∈S1,¬ZuQ e x < 0) (h2:∀x∈S2,ZuQ e x < 0):
  S1++e::S2=ZBR (R++[(k,q)]):=by
 have hk:ZAJ (R++[(k,q)])=ZAJ R++[k]:=by rw[ZBv];unfold ZAa;rw[if_neg h]
 have hab:=ZGJ h;have hEk:En (R++[(k,q)]) k=e:=by rw[he];unfold En;rw[ZB0,ZCR,hab.1,hab.2,if_pos rfl];unfold ZAT;rw[if_pos rfl,Rat.zero_add];rfl
 have hEj:(ZAJ R).map (En (R++[(k,q)]))=Zmg R:=by
  unfold Zmg;refine List.map_congr_left fun j hj=> ?_
  rw[←ZGs];unfold upd;rw[if_neg];rintro rfl;exact h hj
 refine ZEI ?_ ?_
 ·have e1:Zmg (R++[(k,q)])=Zmg R++[e]:=by show (ZAJ (R++[(k,q)])).map (En (R++[(k,q)]))=_;rw[hk,List.map_append,hEj,List.map_singleton,hEk]
  rw[e1];have hp:(S1++S2).Perm (Zmg R):=hS▸Zxf _;exact(List.perm_middle.trans (List.Perm.cons e hp)).trans (List.perm_append_singleton e _).symm
 ·have hlt:=ZCQ R;rw[hS,List.pairwise_append]at hlt;rw[List.pairwise_append,List.pairwise_cons];have hxe:∀x∈S1,ZuQ x e≤0:=fun x hx=>by have:=h1 x hx;have:=Zx7 x e;omega
  refine⟨hlt.1.imp fun h=>ZLO h,⟨fun x hx=>ZLO (h2 x hx),hlt.2.1.imp fun h=>ZLO h⟩,fun a ha b hb=> ?_⟩;rcases ZL6.1 hb with rfl |hb
  ·exact hxe a ha
  ·exact ZLO (hlt.2.2 a ha b hb)
end Go.Proofs
namespace Go.Proofs
open Go Eng
theorem ZDY (e:ZnA):∀{l:List ZnA},l.Pairwise Lt→∃S1 S2,l=S1++S2∧(∀x∈S1,¬ZuQ e x < 0)∧∀x∈S2,ZuQ e x < 0
 | [],_=>⟨[],[],rfl,by simp,by simp⟩
 |x::l,h=>by
  rw[List.pairwise_cons]at h
  by_cases hc:ZuQ e x < 0
  ·refine⟨[],x::l,rfl,by simp,fun y hy=> ?_⟩;rcases ZL6.1 hy with rfl |hy
   ·exact hc
   ·exact ZBC hc (h.1 y hy)
  ·obtain⟨S1,S2,h1,h2,h3⟩:=ZDY e h.2;refine⟨x::S1,S2,by rw[h1];rfl,fun y hy=> ?_,h3⟩;rcases ZL6.1 hy with rfl |hy
   ·exact hc
   ·exact h2 y hy
theorem ZDX (R:List (Str×Rat)):(ZBR R).length≤R.length:=by unfold ZBR;rw[ZAz];unfold Zmg;rw[ZL1];exact ZBY R
theorem ZHk {k:Str} {q:Rat} {R:List (Str×Rat)} (hR:∀r∈R,Sz 80 r.2) (hq:Sz 80 q) (hn:R.length≤60) (h:k∈ZAJ R):ZpS (ZBR R) ⟨k,Zzl k,1,fOf q⟩=some (ZBR (R++[(k,q)])):=by
 have hlen:=ZDX R;have hmem:∀x∈ZBR R,x=En R x.Key:=fun x hx=>by obtain⟨j,_,rfl⟩:=ZCP.1 hx;rfl
 obtain⟨p,hp,hpk⟩:∃p,∃hp:p < (ZBR R).length,(ZBR R)[p].Key=k:=by obtain⟨p,hp,e⟩:=List.getElem_of_mem (ZCP.2 ⟨k,h,rfl⟩);exact⟨p,hp,by rw[e];rfl⟩
 have hlt:=ZCQ R;rw[←ZFL h];generalize hl:ZBR R=l at*
 refine Zqz ?_;unfold ZpS;rw[ZnC];have hle:l.length≤60:=by omega
 refine ZnK (Zzy Zxl l (by omega) (fun i (t:Bool×List ZnA)=>(t.1,l,(l.length:Int),i,ZnA.mk k (Zzl k) 1 (fOf q),t.2))
  (fun i t=>t.2=(l.take i).map (upd k q R)∧t.1=decide (p < i)) (Q:=fun x=>x=(true,ZnA.mk k (Zzl k) 1 (fOf q),l.map (upd k q R))) (false,[]) ⟨rfl,rfl⟩ ?_ ?_) ?_
 ·rintro rec i ⟨done,out⟩ hi ⟨ho,hd⟩ ih;dsimp only at ho hd ih;have htk:l.take (i+1)=l.take i++[l[i]]:=ZMc hi;have hol:out.length=i:=by rw[ho,ZL1,ZL4];omega
  unfold ZqZ ZpX ZrM;dsimp only;have nxt:∀(d:Bool) (x:ZnA),x=upd k q R l[i]→d=decide (p < i+1)→wp (Zpf (fun done t9 t10 t11 e out=>rec (done,t9,t10,t11,e,out)) d l (l.length:Int) (i:Int) (ZnA.mk k (Zzl k) 1 (fOf q)) out x) (fun x=>x=(true,ZnA.mk k (Zzl k) 1 (fOf q),l.map (upd k q R))):=by intro d x hx hd';unfold Zpf;rw[ZnF,ZnF];refine⟨Zyk (by rw[ZL3];omega),ZnJ (by omega),ih (d,out++[x]) ⟨?_,hd'⟩⟩;dsimp only;rw[htk,List.map_append,←ho,List.map_singleton,hx]
  rw[decide_eq_true (show (i:Int) < (l.length:Int) by omega),cond_true,ZwV hi,ZMg];have hx:=hmem _ (ZLX hi)
  by_cases hk:l[i].Key=k
  ·have hip:i=p:=by
    rcases Nat.lt_trichotomy i p with h1 |h1 |h1
    ·have:=ZF2 hlt h1 hp;rw[ZDj (by rw[hk,hpk]) (by rw[hx];rfl) (by rw[hmem _ (ZLX hp)];rfl)]at this;omega
    ·exact h1
    ·have:=ZF2 hlt h1 hi;rw[ZDj (by rw[hk,hpk]) (by rw[hmem _ (ZLX hp)];rfl) (by rw[hx];rfl)]at this;omega
   rw[hk]at hx;have hc:cnt R k≤R.length:=ZLR;have hs:=ZEJ hR k;rw[show (l[i].Key == k)=true by rw[hk];simp,cond_true,hx];dsimp only[En];rw[ZnF,ZGm hs hq (by omega),ZMg];refine⟨ZnJ (by omega),nxt true _ ?_ (by rw[hip];simp)⟩;rw[hx];unfold upd En;rw[if_pos rfl]
  ·have hnx:l[i]=upd k q R l[i]:=by unfold upd;rw[if_neg hk]
   rw[show (l[i].Key == k)=false by simpa using hk,cond_false]
   by_cases hpi:p < i
   ·rw[hd,decide_eq_true hpi,ZLN,cond_false,cond_false];exact nxt true _ hnx (by rw[decide_eq_true (by omega)])
   ·have hip:i < p:=by
     rcases Nat.lt_or_eq_of_le (Nat.le_of_not_lt hpi)with h1 |h1
     ·exact h1
     ·subst h1;exact absurd hpk hk
    have h1:=ZF2 hlt hip hp;have h2:ZuQ (ZnA.mk k (Zzl k) 1 (fOf q)) l[i]=ZuQ l[p] l[i]:=ZBD hpk.symm rfl (by rw[hmem _ (ZLX hp)];rfl);have h3:=Zx7 l[i] l[p];rw[hd,decide_eq_false hpi,ZIO,cond_true,ZCp,ZMg,decide_eq_false (show ¬ZuQ (ZnA.mk k (Zzl k) 1 (fOf q)) l[i] < 0 by omega),cond_false];exact nxt false _ hnx (by rw[decide_eq_false (by omega)])
 ·rintro rec ⟨done,out⟩ ⟨ho,hd⟩;dsimp only at ho hd;unfold ZqZ ZpX;dsimp only;rw[decide_eq_false (show ¬(l.length:Int) < (l.length:Int) by omega),cond_false,ZnB,ho,hd,decide_eq_true hp,ZMa]
 ·rintro _ rfl;unfold ZtV ZrL;dsimp only;rw[ZLN,cond_false,ZnB]
theorem ZHl {k:Str} {q:Rat} {R:List (Str×Rat)} (hn:R.length≤60) (h:k∉ZAJ R):ZpS (ZBR R) ⟨k,Zzl k,1,fOf q⟩=some (ZBR (R++[(k,q)])):=by
 have hlen:=ZDX R;have hmem:∀x∈ZBR R,x.Key≠k:=fun x hx e=>by obtain⟨j,hj,rfl⟩:=ZCP.1 hx;exact h (e▸hj)
 obtain⟨e,he⟩:∃e:ZnA,e=⟨k,Zzl k,1,fOf q⟩:=⟨_,rfl⟩;obtain⟨S1,S2,hS,h1,h2⟩:=ZDY e (ZCQ R);rw[←ZFM h hS he h1 h2,←he];have hek:e.Key=k:=by rw[he]
 rw[hS]at hmem hlen⊢
 refine Zqz ?_;unfold ZpS;rw[ZnC];obtain⟨l,hl⟩:∃l,l=S1++S2:=⟨_,rfl⟩;rw[←hl]at hmem hlen⊢
 have hll:l.length=S1.length+S2.length:=by rw[hl,ZLY]
 refine ZnK (Zzy Zxl l (by omega) (fun i (t:Bool×List ZnA)=>(t.1,l,(l.length:Int),i,e,t.2))
  (fun i t=>t=if i≤S1.length then (false,l.take i)else (true,S1++e::S2.take (i - S1.length))) (Q:=fun x=>x=if S2=[]then (false,e,S1)else (true,e,S1++e::S2)) (false,[]) (by rw[if_pos (ZMf _),List.take_zero]) ?_ ?_) ?_
 ·rintro rec i t hi ht ih;unfold ZqZ ZpX ZrM;dsimp only;have nxt:∀(d:Bool) (out:List ZnA),out.length≤100→(d,out++[l[i]])=(if i+1≤S1.length then (false,l.take (i+1))else (true,S1++e::S2.take (i+1 - S1.length)))→wp (Zpf (fun done t9 t10 t11 e out=>rec (done,t9,t10,t11,e,out)) d l (l.length:Int) (i:Int) e out l[i]) (fun x=>x=if S2=[]then (false,e,S1)else (true,e,S1++e::S2)):=by intro d out ho hd';unfold Zpf;rw[ZnF,ZnF];exact⟨Zyk (by rw[ZL3];omega),ZnJ (by omega),ih (d,out++[l[i]]) hd'⟩
  have hk:=hmem _ (ZLX hi);rw[decide_eq_true (show (i:Int) < (l.length:Int) by omega),cond_true,ZwV hi,ZMg,show (l[i].Key == e.Key)=false by rw[hek];simpa using hk,cond_false]
  by_cases hc:i < S1.length
  ·have hg:l[i]=S1[i]:=by subst hl;exact List.getElem_append_left hc
   rw[if_pos (by omega)]at ht;rw[ht];dsimp only;rw[ZIO,cond_true,ZCp,ZMg,decide_eq_false (by rw[hg];exact h1 _ (ZLX hc)),cond_false];exact nxt false _ (by rw[ZL4];omega) (by rw[if_pos (by omega),ZMc hi])
  ·have hi2:i - S1.length < S2.length:=by omega
   have hg:l[i]=S2[i - S1.length]:=by subst hl;exact List.getElem_append_right (by omega)
   have htk:S2.take (i+1 - S1.length)=S2.take (i - S1.length)++[l[i]]:=by rw[show i+1 - S1.length=(i - S1.length)+1 by omega,ZMc hi2,hg]
   by_cases hc2:i=S1.length
   ·rw[if_pos (by omega)]at ht;rw[ht];dsimp only;have hts:l.take i=S1:=by rw[hl,hc2,List.take_left'];rfl
    rw[ZIO,cond_true,ZCp,ZMg,decide_eq_true (by rw[hg];exact h2 _ (ZLX hi2)),cond_true,ZnF,hts];refine⟨Zyk (by rw[ZL3];omega),nxt true _ (by rw[ZLY,ZL3];omega) ?_⟩;rw[if_neg (by omega),htk,show i - S1.length=0 by omega,List.take_zero];simp
   ·rw[if_neg (by omega)]at ht;rw[ht];dsimp only;rw[ZLN,cond_false,cond_false];refine nxt true _ (by rw[ZLY,ZLZ,ZL4];omega) ?_;rw[if_neg (by omega),htk];simp
 ·rintro rec t ht;unfold ZqZ ZpX;dsimp only;rw[decide_eq_false (show ¬(l.length:Int) < (l.length:Int) by omega),cond_false,ZnB,ht]
  by_cases h0:S2=[]
  ·subst h0;rw[if_pos rfl,if_pos (by rw[hll];simp)];rw[ZMa,hl,List.append_nil]
  ·have:S2.length≠0:=fun h=>h0 (List.eq_nil_of_length_eq_zero h)
   rw[if_neg h0,if_neg (by omega),ZMb (by omega)]
 ·rintro _ rfl;unfold ZtV ZrL
  by_cases h0:S2=[]
  ·subst h0;rw[if_pos rfl];dsimp only;rw[ZIO,cond_true,ZnF,ZnB];exact⟨Zyk (by rw[ZL3];simp only[List.length_nil,Nat.add_zero]at hll;omega),rfl⟩
  ·rw[if_neg h0];dsimp only;rw[ZLN,cond_false,ZnB]
theorem ZIN {k:Str} {q:Rat} {R:List (Str×Rat)} (hR:∀r∈R,Sz 80 r.2) (hq:Sz 80 q) (hn:R.length≤60):ZpS (ZBR R) ⟨k,Zzl k,1,fOf q⟩=some (ZBR (R++[(k,q)])):=by
 by_cases h:k∈ZAJ R
 ·exact ZHk hR hq hn h
 ·exact ZHl hn h
theorem ZHh {key value:G_api_Column} (hK:Zzn key.Cells) (hV:Zzn value.Cells) (hn:key.Cells.length≤40) (hl:key.Cells.length=value.Cells.length):
  ZsQ key value=some (Zxb key.Cells value.Cells):=by
 refine Zqz ?_;unfold ZsQ;rw[ZnC];refine ZnK (Zzy Zzq key.Cells (by omega) (fun i (out:List ZnA)=>(key.Cells,(key.Cells.length:Int),i,value,out)) (fun k out=>out=ZBR (ZwG (key.Cells.take k) (value.Cells.take k))) (Q:=fun x=>x=Zxb key.Cells value.Cells) [] rfl ?_ ?_) ?_
 ·rintro rec k out hk rfl ih;have hkv:k < value.Cells.length:=by omega
  have hrl:(ZwG (key.Cells.take k) (value.Cells.take k)).length≤k:=by unfold ZwG;refine ZMe (ZL0 _ _) ?_;rw[ZL5,ZL4];omega
  have hsz:∀r∈ZwG (key.Cells.take k) (value.Cells.take k),Sz 80 r.2:=ZCU;have hstep:ZwG (key.Cells.take (k+1)) (value.Cells.take (k+1))=ZwG (key.Cells.take k) (value.Cells.take k)++(ZAX (key.Cells[k],value.Cells[k])).toList:=by unfold ZwG;rw[ZMc hk,ZMc hkv,List.zip_append (by rw[ZL4,ZL4];omega),List.filterMap_append];congr 1
  rw[hstep]at ih;unfold Zuz ZsC Ztn Ztm;dsimp only;rw[decide_eq_true (show (k:Int) < (key.Cells.length:Int) by omega),cond_true,ZwV hk,ZMg,ZwV hkv,ZMg,ZDg (hV _ (ZLX hkv)),ZMg];have skip:ZAX (key.Cells[k],value.Cells[k])=none→wp (chk (inK .i64 ((k:Int)+1)) <| rec (key.Cells,(key.Cells.length:Int),(k:Int)+1,value,ZBR (ZwG (key.Cells.take k) (value.Cells.take k)))) (fun x=>x=Zxb key.Cells value.Cells):=by intro hr;rw[ZnF];exact⟨ZnJ (by omega),ih _ (by rw[hr];simp)⟩
  cases hnull:key.Cells[k].Null with
  |true=>
   have hr:ZAX (key.Cells[k],value.Cells[k])=none:=by unfold ZAX;rw[if_pos hnull]
   cases ZCu value.Cells[k]with
   |none=>dsimp only;rw[cond_true,cond_true];exact skip hr
   |some q=>dsimp only;rw[cond_true,cond_true];exact skip hr
  |false=>
   cases hv:ZCu value.Cells[k]with
   |none=>
    dsimp only;rw[cond_false,ZIO,cond_true];exact skip (by unfold ZAX;dsimp only;rw[hv];split<;>rfl)
   |some q=>
    have hr:ZAX (key.Cells[k],value.Cells[k])=some (key.Cells[k].Text,q):=by unfold ZAX;rw[if_neg (by simp[hnull])];dsimp only;rw[hv];rfl
    dsimp only;rw[cond_false,ZLN,cond_false,ZCz (hK _ (ZLX hk)),ZMg,ZIN hsz (ZC2 hv) (by omega),ZMg,ZnF];exact⟨ZnJ (by omega),ih _ (by rw[hr];rfl)⟩
 ·rintro rec out rfl;unfold Zuz ZsC;dsimp only;rw[decide_eq_false (show ¬(key.Cells.length:Int) < (key.Cells.length:Int) by omega),cond_false,ZnB,ZMa,hl,ZMa];rfl
 ·rintro _ rfl;unfold Zvt;rw[ZnB]
theorem ZE2 {key value:G_api_Column} (hK:Zzn key.Cells) (hV:Zzn value.Cells) (hn:key.Cells.length≤40) (k:Int):
  ∃s e,ZvK key value k=some (s,e)∧ZsR key value k=some (s,e)∧Zqr s s=some true:=by
 have hnil:∀m:Int,Zqr ⟨m,false,[]⟩ ⟨m,false,[]⟩=some true:=fun m=>ZDZ rfl rfl rfl (fun e he=>by cases he) (by simp)
 unfold ZvK Zw5 Zw4 ZsR Ztp Zto
 by_cases h1:k < 1
 ·rw[decide_eq_true h1,cond_true,cond_true,cond_true,cond_true];exact⟨_,_,rfl,rfl,hnil 0⟩
 rw[decide_eq_false h1,cond_false,cond_false]
 by_cases h2:k > 256
 ·rw[decide_eq_true h2,cond_true,cond_true];exact⟨_,_,rfl,rfl,hnil 0⟩
 rw[decide_eq_false h2,cond_false,cond_false]
 by_cases h3:key.Cells.length=value.Cells.length
 ·rw[show ((key.Cells.length:Int) != (value.Cells.length:Int))=false by rw[h3];simp,cond_false,cond_false,decide_eq_false (show ¬(key.Cells.length:Int) > 4096 by omega),cond_false,cond_false,ZE6 hK hV hn h3,ZHh hK hV hn h3,ZMg];have hlen:(Zxb key.Cells value.Cells).length≤key.Cells.length:=ZE7;rw[ZsO (by split<;>omega),chk_true];refine⟨_,_,rfl,rfl,ZDZ rfl rfl rfl (fun e he=>ZCC (V:=value.Cells) hK hn e ?_) ?_⟩
  ·dsimp only at he;exact List.mem_of_mem_drop (List.mem_of_mem_take he)
  ·dsimp only;rw[ZL4,List.length_drop];omega
 ·rw[show ((key.Cells.length:Int) != (value.Cells.length:Int))=true by rw[bne_iff_ne];omega,cond_true,cond_true,cond_true,cond_true];exact⟨_,_,rfl,rfl,hnil 0⟩
end Go.Proofs
namespace Go.Proofs
open Go Eng
theorem ZEG {s:ZnM} (h:s.Entries.Pairwise Lt) (hg:∀e∈s.Entries,ZKx e) (hn:s.Entries.length≤100):
  wp (ZuV big s.Entries (s.Entries.length:Int) 0 s) (fun x=>x= .brk ()):=by
 refine Zzy ZBe s.Entries (by omega) (fun i (_:Unit)=>(s.Entries,(s.Entries.length:Int),i,s)) (fun _ _=>True) (Q:=fun x=>x= .brk ()) () trivial ?_ ?_
 ·rintro rec k _ hk _ ih;obtain⟨h1,⟨h2,_⟩,h3,q,hq,hs⟩:=hg _ (ZLX hk);unfold ZyC ZwN ZtN;dsimp only;rw[decide_eq_true (show (k:Int) < (s.Entries.length:Int) by omega),cond_true,ZwV hk,ZnC,ZnB,ZCZ h3,ZnC,ZnB,←h1,show (s.Entries[k].Hash != s.Entries[k].Hash)=false by simp,cond_false,decide_eq_false (show ¬s.Entries[k].Count < 1 by omega),cond_false,hq,ZCK q (hs.wq (by omega)),ZnC,ZnB,ZLN,cond_false,Zog];refine⟨fun h0=> ?_,fun _=> ?_⟩
  ·have h0':0 < k:=by have:=of_decide_eq_true h0;omega
   have hl:=ZF2 h (show k - 1 < k by omega) hk;rw[ZnF,show (k:Int) - 1=((k - 1:Nat):Int) by omega,ZwV (show k - 1 < s.Entries.length by omega),ZnC,ZnB,ZwU,ZnC,ZnB,decide_eq_false (show ¬ZuQ s.Entries[k - 1] s.Entries[k]≥0 by omega),cond_false,ZnF];exact⟨ZnJ (by omega),ZnJ (by omega),ih () trivial⟩
  ·rw[cond_false,ZnF];exact⟨ZnJ (by omega),ih () trivial⟩
 ·rintro rec _ _;unfold ZyC ZwN;dsimp only;rw[decide_eq_false (show ¬(s.Entries.length:Int) < (s.Entries.length:Int) by omega),cond_false,ZnB]
def ZBT:List G_api_Cell:=[(G_api_Cell.mk false ([97]:Str)),(G_api_Cell.mk false ([97]:Str)),(G_api_Cell.mk false ([98]:Str))]
def ZBM:List G_api_Cell:=[(G_api_Cell.mk false ([49]:Str)),(G_api_Cell.mk false ([50]:Str)),(G_api_Cell.mk false ([53]:Str))]
theorem ZIK:ZwG ZBT ZBM=[([97],((1:Int):Rat)),([97],((2:Int):Rat)),([98],((5:Int):Rat))]:=by decide+kernel
theorem ZE8:Zzn ZBT:=by intro c hc;simp only[ZBT,ZL6,ZL8,or_false]at hc;rcases hc with rfl |rfl |rfl<;>decide
theorem ZG5:Zzn ZBM:=by intro c hc;simp only[ZBM,ZL6,ZL8,or_false]at hc;rcases hc with rfl |rfl |rfl<;>decide
theorem ksA:ZAJ (ZwG ZBT ZBM)=[[97],[98]]:=by rw[ZIK];simp[ZAJ,ZAa]
theorem lenA:(Zxb ZBT ZBM).length=2:=by unfold Zxb;rw[ZAz];unfold Zmg;rw[ZL1,ksA];rfl
theorem EnA:En (ZwG ZBT ZBM) [97]=⟨[97],Zzl [97],2,fOf ((3:Int):Rat)⟩:=by
 unfold En;rw[ZIK];have h1:cnt [([97],((1:Int):Rat)),([97],((2:Int):Rat)),([98],((5:Int):Rat))] [97]=2:=by simp[cnt]
 have h2:sm [([97],((1:Int):Rat)),([97],((2:Int):Rat)),([98],((5:Int):Rat))] [97]=((3:Int):Rat):=by simp only[sm,ZAT,List.foldl_cons,List.foldl_nil];rw[if_neg (by decide),if_pos trivial,if_pos trivial,Rat.zero_add,←Rat.intCast_add];rfl
 rw[h1,h2];rfl
theorem ZFo:ZqV=some true:=by
 have hlen:=lenA;have hg:=ZCC (V:=ZBM) ZE8 (by decide);have ht:(Zxb ZBT ZBM).take 10=Zxb ZBT ZBM:=ZMb (by omega);have hm:=ZHx (key:=G_api_Column.mk [] ZBT) (value:=G_api_Column.mk [] ZBM) ZE8 ZG5 (by decide) (by decide) (m:=10) (by decide) (by decide);have hS:mkS ZBT ZBM 10=⟨10,true,Zxb ZBT ZBM⟩:=by unfold mkS;rw[ht,decide_eq_true (show (Zxb ZBT ZBM).length≤10 by omega)];rfl
 dsimp only at hm;rw[hS,show ((10:Nat):Int)=10 from rfl]at hm;unfold ZBT ZBM at hm;refine Zqz ?_;unfold ZqV;rw[hm,ZnC,ZnB];dsimp only;rw[show ((0:Int) != 0)=false from rfl,cond_false,ZLN,cond_false];show wp (bif ((Zxb ZBT ZBM).length:Int) != 2 then _ else _) _;rw[hlen,show (((2:Nat):Int) != 2)=false from rfl,cond_false,ZnC];show wp (Zxd ⟨10,true,Zxb ZBT ZBM⟩) _;have hv:wp (Zxd ⟨10,true,Zxb ZBT ZBM⟩) (fun x=>x=true):=by unfold Zxd ZtO;dsimp only;rw[hlen,show decide ((10:Int) < 1)=false from rfl,cond_false,show decide ((10:Int) > 256)=false from rfl,cond_false,show decide (((2:Nat):Int) > 10)=false from rfl,cond_false,ZLN,cond_false,cond_false,ZnC];have:=ZEG (s:=⟨10,true,Zxb ZBT ZBM⟩) (ZF8 _ _) hg (by dsimp only;omega);dsimp only at this;rw[hlen]at this;refine ZnK this ?_;rintro _ rfl;unfold Zy0;rw[ZnB]
 refine ZnK hv ?_;rintro _ rfl;unfold Zp3;rw[ZLN,cond_false,ZnC];show wp (Zp2 big (Zxb ZBT ZBM) ((Zxb ZBT ZBM).length:Int) 0) _;refine ZnK (Zzy Zzb (Zxb ZBT ZBM) (by omega) (fun i (_:Unit)=>(Zxb ZBT ZBM,((Zxb ZBT ZBM).length:Int),i)) (fun _ _=>True) (Q:=fun x=>x= .brk ()) () trivial ?_ ?_) ?_
 ·rintro rec k _ hk _ ih;unfold Zup Zr8 Zq6;dsimp only;obtain⟨k',_,he⟩:=ZDq.1 (ZLX hk);rw[decide_eq_true (show (k:Int) < ((Zxb ZBT ZBM).length:Int) by omega),cond_true,ZwV hk,ZnC,ZnB,Zog];refine⟨fun hc=> ?_,fun _=> ?_⟩
  ·have hk':k'=[97]:=by rw[←he]at hc;exact eq_of_beq hc
   rw[hk',EnA]at he;rw[←he];dsimp only;have hz:Sz 5 ((3:Int):Rat):=by rw[←ZCE];exact ZB5 (k:=5) (by decide) (by decide) (by decide)
   rw[show ((2:Int) != 2)=false from rfl,cond_false,ZGa 3 (by decide) (by decide),ZnC,ZnB,ZDf _ _ (hz.wq (by omega)) (hz.wq (by omega)),ZnC,ZnB,decide_eq_true rfl,ZLN,cond_false,ZnF];exact⟨ZnJ (by omega),ih () trivial⟩
  ·rw[cond_false,ZnF];exact⟨ZnJ (by omega),ih () trivial⟩
 ·rintro rec _ _;unfold Zup Zr8;dsimp only;rw[decide_eq_false (show ¬((Zxb ZBT ZBM).length:Int) < ((Zxb ZBT ZBM).length:Int) by omega),cond_false,ZnB]
 ·rintro _ rfl;unfold Zu8;dsimp only;rw[ZCZ (by decide),ZnC,ZnB,ZnB];rfl
end Go.Proofs
namespace Go.Proofs
open Go Eng
theorem ZCJ {d:ZnI} (hd:ZAe d) {l:List Str} (h0:1≤l.length) (h1:l.length≤1000):wp (Zo2 d l) (fun r=>r.1∈l∧ZAe r.2):=by
 unfold Zo2;rw[ZnC];refine ZnK (ZBE hd (by omega)) fun⟨q,d1⟩ ⟨hq,hd1⟩=> ?_
 dsimp only at hq hd1⊢
 rw[ZnC,ZGp];refine⟨hq.1,by omega, ?_⟩;rw[ZnB];exact⟨ZLX _,hd1⟩
def ZC6 (c:G_api_Cell):Prop:=c.Text.length≤10
theorem ZDe:([([97]:Str),([98]:Str),([99]:Str),([49]:Str),([50]:Str),([51]:Str),([49,48]:Str),([120]:Str),([45,49,46,53]:Str),([50]:Str),[100],[],([49,46,50,46,51]:Str),([49,46,53,48]:Str)]:List Str).all (fun s=>decide (s.length≤10))=true:=by kernel_rfl
theorem ZCw:(((List.range 12).map fun i:Nat=>Lib.itoa ((i:Int) - 3))++(List.range 14).map fun i:Nat=>([107]:Str)++Lib.itoa (i:Int)).all (fun s=>decide (s.length≤10))=true:=by kernel_rfl
theorem ZHN {d:ZnI} (hd:ZAe d):wp (Zue d) (fun r=>ZC6 r.1∧ZAe r.2):=by
 unfold Zue;rw[ZnC];refine ZnK (ZBE hd (by omega)) fun⟨q,d1⟩ ⟨hq,hd1⟩=> ?_
 dsimp only at hq hd1⊢
 rw[Zog];refine⟨fun _=> ?_,fun _=> ?_⟩
 ·rw[ZnB];exact⟨ZMf _,hd1⟩
 ·rw[ZnC];refine ZnK (ZCJ hd1 (by decide) (by decide)) fun⟨s,d2⟩ ⟨hs,hd2⟩=> ?_
  dsimp only at hs hd2⊢
  rw[ZnB];refine⟨show s.length≤10 from of_decide_eq_true (ZLQ.1 ZDe s ?_),hd2⟩;simp only[ZL6,ZL8,or_false]at hs⊢
  rcases hs with h |h |h |h |h |h |h |h |h |h<;>simp[h]
theorem ZEt {n:Int} (h: -3≤n∧n≤8):(Lib.itoa n).length≤10:=by refine of_decide_eq_true <| ZLQ.1 ZCw _ (List.mem_append_left _ (ZL7.2 ⟨(n+3).toNat,List.mem_range.2 (by omega), ?_⟩));rw[show (((n+3).toNat:Nat):Int) - 3=n by omega]
theorem ZHA {n:Int} (h:0≤n∧n < 14):(([107]:Str)++Lib.itoa n).length≤10:=by refine of_decide_eq_true <| ZLQ.1 ZCw _ (List.mem_append_right _ (ZL7.2 ⟨n.toNat,List.mem_range.2 (by omega), ?_⟩));rw[show ((n.toNat:Nat):Int)=n by omega]
theorem ZEW {d:ZnI} (hd:ZAe d):wp (Zs8 d) (fun r=>ZC6 r.1∧ZAe r.2):=by
 unfold Zs8;rw[ZnC];refine ZnK (ZBE hd (by omega)) fun⟨q,d1⟩ ⟨hq,hd1⟩=> ?_
 dsimp only at hq hd1⊢
 rw[Zog];refine⟨fun _=> ?_,fun _=> ?_⟩
 ·rw[ZnB];exact⟨ZMf _,hd1⟩
 rw[Zog];refine⟨fun _=> ?_,fun _=> ?_⟩
 ·rw[ZnC];refine ZnK (ZCJ hd1 (by decide) (by decide)) fun⟨s,d2⟩ ⟨hs,hd2⟩=> ?_
  dsimp only at hs hd2⊢
  rw[ZnB];refine⟨show s.length≤10 from of_decide_eq_true (ZLQ.1 ZDe s ?_),hd2⟩;simp only[ZL6,ZL8,or_false]at hs⊢
  rcases hs with h |h |h |h<;>simp[h]
 ·rw[ZnC];refine ZnK (ZBE hd1 (by omega)) fun⟨q,d2⟩ ⟨hq,hd2⟩=> ?_
  dsimp only at hq hd2⊢
  unfold Zxc;rw[ZnF,ZnC,ZnB,ZnB];exact⟨ZnJ (by omega),ZEt (by omega),hd2⟩
theorem abcd:([([97]:Str),([98]:Str),([99]:Str),([100]:Str)]:List Str).all (fun s=>decide (s.length≤10))=true:=by kernel_rfl
theorem ZEu {n:Int} (h:0≤n∧n < 14):(Lib.itoa n).length≤2:=by
 have h1:((List.range 14).all fun i:Nat=>decide ((Lib.itoa (i:Int)).length≤2))=true:=by kernel_rfl
 have:=of_decide_eq_true (ZLQ.1 h1 n.toNat (List.mem_range.2 (by omega)))
 rwa [show ((n.toNat:Nat):Int)=n by omega]at this
theorem ZDK:(([([105,100]:Str),([110,97,109,101]:Str),([85,110,105,116,32,80,114,105,99,101]:Str),([99,105,116,121]:Str),([117,110,105,116]:Str),([112,114,105,99,101]:Str),([105,100,50]:Str),([]:Str)]:List Str).all fun s=>decide (s.length≤10))=true:=by kernel_rfl
theorem ZDw {d:ZnI} (hd:ZAe d) (rows:Nat) (hr:rows≤14):
  wp (Zrn d (rows:Int)) (fun r=>(r.1.Name.length≤10∧r.1.Cells.length=rows∧∀c∈r.1.Cells,ZC6 c)∧ZAe r.2):=by
 unfold Zrn;rw[ZnC];refine ZnK (ZCJ hd (by decide) (by decide)) fun⟨nm,d1⟩ ⟨hnm0,hd1⟩=> ?_
 dsimp only at hd1 hnm0⊢
 have hnm:nm.length≤10:=of_decide_eq_true (ZLQ.1 ZDK nm hnm0);rw[ZnC];refine ZnK (ZBE hd1 (by omega)) fun⟨kind,d2⟩ ⟨_,hd2⟩=> ?_
 dsimp only at hd2⊢
 rw[ZnC];refine ZnK (Zug Zzv rows (by omega) (fun i (t:ZnI×List G_api_Cell)=>(kind,(rows:Int),i,t.1,([]:Str),nm,([]:List G_api_Cell),t.2))
  (fun k t=>ZAe t.1∧t.2.length=k∧∀c∈t.2,ZC6 c) (Q:=fun x=>x.2.2.1=nm∧ZAe x.1∧x.2.2.2.2.length=rows∧∀c∈x.2.2.2.2,ZC6 c) (d2,[]) ⟨hd2,rfl,fun c hc=>absurd hc (by simp)⟩ ?_ ?_) ?_
 ·rintro rec k ⟨d,cs⟩ hk ⟨hd,hlen,hcs⟩ ih;dsimp only at hd hlen hcs ih;have next:∀(x:G_api_Cell) (d':ZnI),ZC6 x→ZAe d'→wp (Zpx (fun kind t15 i d t4 c t4_1 c_1=>rec (kind,t15,i,d,t4,c,t4_1,c_1)) kind (rows:Int) (k:Int) d' [] nm x [] cs) (fun x=>x.2.2.1=nm∧ZAe x.1∧x.2.2.2.2.length=rows∧∀c∈x.2.2.2.2,ZC6 c):=by
   intro x d' hx hd';unfold Zpx;rw[ZnF,ZnF];refine⟨Zyk (by rw[ZL3];omega),ZnJ (by omega),ih (d',cs++[x]) ⟨hd',by dsimp only;rw[ZLY,ZL3];omega,fun c hc=> ?_⟩⟩;rcases List.mem_append.1 hc with hc |hc
   ·exact hcs c hc
   ·obtain rfl:=List.mem_singleton.1 hc;exact hx
  unfold ZuK ZsL;dsimp only;rw[decide_eq_true (show (k:Int) < (rows:Int) by omega),cond_true,ZnC];refine ZnK (ZHN hd) fun⟨x,d3⟩ ⟨hx,hd3⟩=> ?_
  dsimp only at hx hd3⊢
  rw[Zog];refine⟨fun _=> ?_,fun _=> ?_⟩
  ·rw[ZnC];exact ZnK (ZEW hd3) fun⟨y,d4⟩ ⟨hy,hd4⟩=>next y d4 hy hd4
  rw[Zog];refine⟨fun _=> ?_,fun _=> ?_⟩
  ·unfold Zxc;have:=ZEu (n:=(k:Int)) (by omega);rw[ZnC,ZnB,ZnF];exact⟨decide_eq_true (by rw[ZL3];unfold Zq;omega),next _ d3 (ZHA (by omega)) hd3⟩
  rw[Zog];refine⟨fun _=> ?_,fun _=> ?_⟩
  ·rw[ZnC];exact ZnK (ZCJ hd3 (by decide) (by decide)) fun⟨s,d4⟩ ⟨hs,hd4⟩=>next _ d4 (show s.length≤10 from of_decide_eq_true (ZLQ.1 abcd s hs)) hd4
  ·exact next x d3 hx hd3
 ·rintro rec ⟨d,cs⟩ ⟨hd,hlen,hcs⟩;unfold ZuK ZsL;dsimp only at hd hlen hcs⊢
  rw[decide_eq_false (show ¬(rows:Int) < (rows:Int) by omega),cond_false,ZnB];exact⟨rfl,hd,hlen,hcs⟩
 ·rintro⟨d,_,nm',_,cs⟩ ⟨h0,h1,h2,h3⟩;unfold ZvE;dsimp only at h0 h1 h2 h3⊢
  subst h0;rw[ZnB];exact⟨⟨hnm,h2,h3⟩,h1⟩
end Go.Proofs
namespace Go.Proofs
open Go Eng
structure ZGo (a:G_api_Column):Prop where
 rows:a.Cells.length≤40
 cells:Zzn a.Cells
theorem ZFZ {p:ZnH} (h0:ZGo p.e0) (h1:ZGo p.e1) (k:Int) (s:Str) (t67 t68:Int) (t66:List ZnH) {M:List Int} (hM:M.length≤10):
  wp (ZoR big k s t67 t68 (M.length:Int) 0 p t66 M) (fun x=>x= .brk (k,s,t67,t68,t66)):=by
 refine Zzy Zyr M (by omega) (fun i (_:Unit)=>(k,s,t67,t68,(M.length:Int),i,p,t66,M)) (fun _ _=>True) () trivial ?_ ?_
 ·rintro rec i _ hi _ ih;unfold Zsl Zqt ZqN;dsimp only;obtain⟨S,e,m1,m2,m3⟩:=ZE2 h0.cells h1.cells h0.rows M[i];rw[decide_eq_true (show (i:Int) < (M.length:Int) by omega),cond_true,Zop hi,chk_true,ZLP,ZLV hi,ZMg,show inR 0 2=true from rfl,show inR 1 2=true from rfl];simp only[chk_true];rw[m1,ZMg];dsimp only;rw[m2,ZMg];dsimp only;rw[m3,ZMg,ZLN,cond_false,show (e != e)=false by simp,cond_false,ZnF];exact⟨ZnJ (by omega),ih () trivial⟩
 ·rintro rec _ _;unfold Zsl Zqt;dsimp only;rw[decide_eq_false (show ¬(M.length:Int) < (M.length:Int) by omega),cond_false,ZnB]
theorem ZF0 {L:List ZnH} (hL:∀p∈L,ZGo p.e0∧ZGo p.e1) (hlen:L.length≤100) (k:Int) (s:Str):
  wp (ZoS big k s (L.length:Int) 0 L) (fun x=>x= .brk s):=by
 refine Zzy Zys L (by omega) (fun i (_:Unit)=>(k,s,(L.length:Int),i,L)) (fun _ _=>True) () trivial ?_ ?_
 ·rintro rec i _ hi _ ih;unfold Zsm Zqu;dsimp only;obtain⟨h0,h1⟩:=hL _ (ZLX hi);rw[decide_eq_true (show (i:Int) < (L.length:Int) by omega),cond_true,Zop hi,chk_true,ZLP,ZLV hi,ZMg,ZnC];refine ZnK (ZEZ k (m:=6) (by omega)) fun q hq=> ?_
  rw[ZnC];refine ZnK (ZEZ k (m:=2) (by omega)) fun q1 hq1=> ?_
  rw[ZnF,ZnC];refine⟨ZnJ (by omega),ZnK (ZFZ h0 h1 k s _ _ _ (M:=[k,q,256+q1]) (show (3:Nat)≤10 by omega)) ?_⟩;rintro _ rfl;dsimp only;unfold Zs7;rw[ZnF];exact⟨ZnJ (by omega),ih () trivial⟩
 ·rintro rec _ _;unfold Zsm Zqu;dsimp only;rw[decide_eq_false (show ¬(L.length:Int) < (L.length:Int) by omega),cond_false,ZnB]
theorem ZBX {a b:G_api_Column} {t:List Int} {k:Int} {s:Str} {q:Bool} (h:q=false→ZGo a∧ZGo b∧t.length≤500∧s.length≤500):Zot t k s q a b=some true:=by
 unfold Zot;cases q with
 |true=>rw[cond_true,ZFo];rfl
 |false=>
  obtain⟨h1,h2,h3,h4⟩:=h rfl;refine Zqz ?_;unfold ZvJ;rw[cond_false,ZnC,ZnB,ZnC];have mk:∀(c:G_api_Column) (n:Nat),n≤14→(c.Name.length≤10∧c.Cells.length=n∧∀x∈c.Cells,ZC6 x)→ZGo c:=fun c n hn ⟨h1,h2,h3⟩=>⟨by omega,fun x hx=>by have:=h3 x hx;unfold ZC6 at this;omega⟩
  refine ZnK (ZBE (d:=⟨t,0⟩) ⟨by simp,by simp,by simp only;omega⟩ (n:=12) (by omega)) ?_;rintro⟨q1,d2⟩ ⟨hq1,hd2⟩;dsimp only at hq1 hd2⊢
  obtain⟨m,rfl⟩:∃m:Nat,q1=(m:Int):=⟨q1.toNat,by omega⟩;rw[ZnC];refine ZnK (ZDw hd2 m (by omega)) ?_;rintro⟨x,d3⟩ ⟨hx,hd3⟩;dsimp only at hx hd3⊢
  rw[ZnC];refine ZnK (ZDw hd3 m (by omega)) ?_;rintro⟨y,d4⟩ ⟨hy,hd4⟩;dsimp only at hy hd4⊢
  have ox:=mk x m (by omega) hx;have oy:=mk y m (by omega) hy;obtain⟨L,hL⟩:∃L:List ZnH,L=[ZnH.mk a b,ZnH.mk x y,ZnH.mk y x,ZnH.mk x a]:=⟨_,rfl⟩;rw[←hL];have hall:∀p∈L,ZGo p.e0∧ZGo p.e1:=by
   intro p hp;rw[hL]at hp;simp only[ZL6,ZL8,or_false]at hp;rcases hp with rfl |rfl |rfl |rfl
   ·exact⟨h1,h2⟩
   ·exact⟨ox,oy⟩
   ·exact⟨oy,ox⟩
   ·exact⟨ox,h1⟩
  rw[ZnC];refine ZnK (ZF0 hall (by rw[hL];show (4:Nat)≤100;omega) k s) ?_;rintro _ rfl;dsimp only;unfold Zs6 ZqM;rw[ZCZ (by omega),ZMg,ZCz (by omega),ZMg,show (Zzl s == Zzl s)=true by simp,cond_true,ZFo,ZMg,ZnB]
theorem sketchMakes_law (a b:G_api_Column) (t:List Int) (k:Int) (s:Str) (ha:Zzn a.Cells) (hb:Zzn b.Cells):ZrE a b t k s=some true:=by
 unfold ZrE Zvn
 by_cases h1:(a.Cells.length:Int) > 40
 ·rw[decide_eq_true h1,cond_true];exact ZBX (by simp)
 rw[decide_eq_false h1,cond_false]
 by_cases h2:(b.Cells.length:Int) > 40
 ·rw[decide_eq_true h2,cond_true];exact ZBX (by simp)
 rw[decide_eq_false h2,cond_false]
 by_cases h3:(s.length:Int) > 500
 ·rw[decide_eq_true h3,cond_true];exact ZBX (by simp)
 rw[decide_eq_false h3,cond_false,ZMg];refine ZBX fun h=> ?_
 simp only[Bool.not_eq_false',decide_eq_true_eq]at h;exact⟨⟨by omega,ha⟩,⟨by omega,hb⟩,by omega,by omega⟩
end Go.Proofs
namespace Eng
open Go Go.Lib
theorem globOk_one {Pg:Program} {w:World} {n:String} {g:Nat} {t e:TypeId} {k:IntKind} {z:Int} (hn:Pg.globalNamed n=some g) (hty:(Pg.globals[g]?).map (·.type)=some t)
  (ht:Pg.underlying t=some (.slice e)) (he:Pg.underlying e=some (.int k)) (hce:Pg.cellsOf e=1) (hz:k.min≤z∧z≤k.max)
  (h:VarReads Pg w n (.slice [.lit (.int k z)] [])):Zej w (fun b=>b < w.heap.size) g [P.sl 1 [.int k z]]:=by
 obtain⟨g',t',cs,fuel,p,hg,hty',hvar,hd⟩:=h;obtain rfl:=ZMh (hn.symm.trans hg);obtain rfl:=ZMh (hty.symm.trans hty');rcases DataW.trod_slice ht hd with ⟨_,hx⟩ |⟨a,len,cap,elems,rest,m,_,hcs,hx,_,hl,hcap,hlen,hel,_,_⟩
 ·cases congrArg Prod.fst hx
 ·have e0:=congrArg Prod.fst hx;simp only[DataW.slice.injEq]at e0;obtain⟨e1,_⟩:=e0
  match elems,e1 with
  | [(d,q)],e1=>
   simp only[List.map_cons,List.map_nil,List.cons.injEq,and_true]at e1;subst e1;have hlen1:len=1:=by simpa using hlen.symm
   subst hlen1;obtain⟨ci,hci,htr⟩:=Option.bind_eq_some_iff.1 (hel 0 (by decide));obtain⟨z',hc,hxx,_⟩:=DataW.trod_int he htr;have hzz:z'=z:=by have:=congrArg Prod.fst hxx;simpa using this.symm
   subst hzz;subst hc;rw[hce,Nat.zero_mul]at hci;obtain⟨_,_,hc2⟩:=World.cells?_some hci;have h0:=hc2 0 (by decide);have hb:w.cell? a=some (.int k z'):=by simpa[Addr.add]using h0
   have hspot:a.spot=none:=by
    unfold World.cell? at hb;cases hs:a.spot with
    |none=>rfl
    |some s=>rw[hs]at hb;split at hb<;>simp at hb
   have ha:a=⟨a.block,a.off,none⟩:=by cases a;simp at hspot;subst hspot;rfl
   have hlt:a.block < w.heap.size:=ZjV (by rw[ha]at hb;exact hb);have hcs1:cs.size=1:=by have:=congrArg List.length hcs;simpa using this
   refine ZA5 (t:=0) (fr:= #[]) (ZB3 hn hvar) _ (by rw[hcs1];rfl) fun j v p hv hp=> ?_
   have hj:j=0:=by have:=(Array.getElem?_eq_some_iff.1 hv).1;omega
   subst hj;simp only[ZLU,Option.some.injEq]at hp;subst hp;rw[←Array.getElem?_toList,hcs]at hv;simp only[ZLU,Option.some.injEq]at hv;subst hv;refine⟨.sl (some a) 1 cap _ _ (fun _=> .int k z') rfl (by decide) hl (fun i hi=>rfl) (fun i hi=> ?_) (fun i x hx=> ?_),rfl⟩
   ·have hi0:i=0:=by omega
    subst hi0;refine⟨a.block,a.off,by rw[←ha],hlt,fun j v hv=> ?_⟩;have hj:=(Array.getElem?_eq_some_iff.1 hv).1;have hj0:j=0:=by have:(Value.int k z').cells.size=1:=rfl;omega
    subst hj0;have hvv:v= .int k z':=by have:(Value.int k z').cells[0]? =some (.int k z'):=rfl;exact ZMh (hv.symm.trans this)
    subst hvv;rw[ha]at hb;simpa using hb
   ·have hi0:i=0:=by have:=(ZLW.1 hx).1;simp at this;omega
    subst hi0;simp only[ZLU,Option.some.injEq]at hx;subst hx;exact .int k z' hz.1 hz.2
end Eng
namespace Eng
open Go
inductive ZEB (s:List UInt8):P→Prop
 |str:ZEB s (.str s)
 |agg {cs:List P} {c:P} (h:c∈cs) (h':ZEB s c):ZEB s (.agg cs)
 |sl {sz:Nat} {es:List P} {e:P} (h:e∈es) (h':ZEB s e):ZEB s (.sl sz es)
theorem RelP.strs {w:World} {S:Nat→Prop} {s:List UInt8} {x:P} (hs:ZEB s x):∀{v:Value},RelP w S v x→s.length≤Zq:=by
 induction hs with
 |str=>intro v h;cases h;assumption
 |agg hm _ ih=>
  intro v h;cases h with
  |agg vs cs hl h1 h=>
   obtain⟨i,hi,he⟩:=List.mem_iff_getElem.1 hm;have hlt:i < vs.size:=by rw[hl];exact hi
   exact ih (h i vs[i] _ (Array.getElem?_eq_getElem hlt) (by rw[ZLV hi,he]))
 |sl hm _ ih=>
  intro v h;cases h with
  |sl a len cap sz es evs hl hmx hc hsz hcell h=>
   obtain⟨i,hi,he⟩:=List.mem_iff_getElem.1 hm;exact ih (h i _ (by rw[ZLV hi,he]))
inductive ZFq (k:IntKind) (n:Int):P→Prop
 |int:ZFq k n (.int k n)
 |agg {cs:List P} {c:P} (h:c∈cs) (h':ZFq k n c):ZFq k n (.agg cs)
 |sl {sz:Nat} {es:List P} {e:P} (h:e∈es) (h':ZFq k n e):ZFq k n (.sl sz es)
theorem RelP.lens {w:World} {S:Nat→Prop} {sz:Nat} {es:List P} {v:Value} (h:RelP w S v (.sl sz es)):es.length≤281474976710656:=by
 cases h with
 |sl a len cap sz es evs hl hmx hc hsz hcell h=>unfold Zag at hmx;omega
end Eng
namespace Go.Proofs
open Go Eng
theorem ZGH {w:World} {S:Nat→Prop} {v:Value} {y:G_api_Column} (h:RelP w S v (U.encE (.st 1) y)):Zzn y.Cells:=by
 have hm:Zq=9223372036854775807:=by decide
 have h':RelP w S v (Zzz y):=h;unfold Zzz at h';intro x hx;rw[←hm];exact h'.strs (.agg (c:= .sl 2 (y.Cells.map Zyx)) (by simp) (.sl (ZL7.2 ⟨x,hx,rfl⟩) (.agg (by simp) .str)))
end Go.Proofs
