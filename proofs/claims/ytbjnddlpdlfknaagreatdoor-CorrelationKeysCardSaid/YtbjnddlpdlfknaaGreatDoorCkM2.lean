/- Plain laws over the specs, part 2. -/
import Derived.Test.YtbjnddlpdlfknaaGreatDoorCkM1
import Derived.Test.YtbjnddlpdlfknaaGreatDoorQ
set_option linter.unusedVariables false
set_option linter.unusedSimpArgs false
set_option linter.unusedSectionVars false
open Bool renaming not_true→ZEN
open Int renaming toNat_natCast→ZHM
open List renaming length_map→ZHY, length_cons→ZHW, length_append→ZHV, all_eq_true→ZHN, getElem_mem→ZHU, length_take→ZH1, take_succ_eq_append_getElem→ZH5, getElem?_map→ZHT, take_length→ZH4, eq_nil_of_length_eq_zero→ZHP, drop_eq_getElem_cons→ZHO, mem_cons_of_mem→ZH3, map_cons→ZH2, length_singleton→ZH0, length_set→ZHZ, length_filterMap_le→ZHX, getElem?_eq_some_iff→ZHS, getElem?_eq_getElem→ZHR, getElem?_cons_zero→ZHQ
open Nat renaming le_trans→ZH7, le_refl→ZH6
open Option renaming bind_some→ZH8, some.inj→ZH9
namespace Go.Proofs
open Go Eng
def Zmg (R:List (Str×Rat)):List ZnA:=(Zx7 R).map (En R)
theorem ZAb:(Zy8.all fun s=>decide (s.length≤100))=true:=by kernel_rfl
theorem Zzn {c:ZnF} (h:Zw9 c):c.Text.length≤1000000:=by
 rcases h with rfl |⟨s,hs,rfl⟩
 ·simp
 ·have:=of_decide_eq_true (ZHN.1 ZAb s hs);dsimp only;omega
theorem ZBv {K V:List ZnF} (hK:∀c∈K,Zw9 c) (hV:∀c∈V,Zw9 c) (hn:K.length≤20) (hl:K.length=V.length) (nm:Str):
  wp (ZqG big K (K.length:Int) 0 (ZnE.mk nm V) [] []) (fun x=>x=Zmg (ZtP K V)):=by
 refine Zyl Zyg K (by omega) (fun i (t:List (Str×Int)×List ZnA)=>(K,(K.length:Int),i,ZnE.mk nm V,t.1,t.2))
  (fun k t=>t.1=mpo 0 (Zx7 (ZtP (K.take k) (V.take k)))∧t.2=Zmg (ZtP (K.take k) (V.take k))) (Q:=fun x=>x=Zmg (ZtP K V)) ([],[]) ⟨rfl,rfl⟩ ?_ ?_
 ·rintro rec k ⟨at_,out⟩ hk ⟨ha,ho⟩ ih;dsimp only at ha ho ih;subst ha ho;have hkv:k < V.length:=by omega
  have hrl:(ZtP (K.take k) (V.take k)).length≤k:=by unfold ZtP;refine ZH7 (ZHX _ _) ?_;rw[List.length_zip,ZH1];omega
  have hsz:∀r∈ZtP (K.take k) (V.take k),Sz 4 r.2:=ZAu;have hstep:ZtP (K.take (k+1)) (V.take (k+1))=ZtP (K.take k) (V.take k)++(ZxN (K[k],V[k])).toList:=by unfold ZtP;rw[ZH5 hk,ZH5 hkv,List.zip_append (by rw[ZH1,ZH1];omega),List.filterMap_append];congr 1
  unfold ZvD Zuc;dsimp only;rw[decide_eq_true (show (k:Int) < (K.length:Int) by omega),cond_true,Zxo hk,ZnI,ZnG,Zxo hkv,ZnI,ZnG,ZnI];generalize hR:ZtP (K.take k) (V.take k)=R at*
  have skip:∀(v:ZnC),ZxN (K[k],V[k])=none→wp (Zrz (fun t15 t16 i value at_ out=>rec (t15,t16,i,value,at_,out)) K (K.length:Int) (k:Int) true (ZnE.mk nm V) (mpo 0 (Zx7 R)) (Zmg R) K[k] v) (fun x=>x=Zmg (ZtP K V)):=by intro v hr;unfold Zrz ZtU;rw[cond_true,ZnJ];refine⟨ZnL (by omega),ih (mpo 0 (Zx7 R),Zmg R) ?_⟩;rw[hstep,hr];simp
  have take1:∀(q:Rat),Sz 4 q→ZxN (K[k],V[k])=some (K[k].Text,q)→wp (Zrz (fun t15 t16 i value at_ out=>rec (t15,t16,i,value,at_,out)) K (K.length:Int) (k:Int) false (ZnE.mk nm V) (mpo 0 (Zx7 R)) (Zmg R) K[k] (fOf q)) (fun x=>x=Zmg (ZtP K V)):=by
   intro q hq hr;have hnew:ZtP (K.take (k+1)) (V.take (k+1))=R++[(K[k].Text,q)]:=by rw[hstep,hr];rfl
   have hkl:=Zzx R;have hkl':=Zzx (R++[(K[k].Text,q)]);rw[ZHV,ZH0]at hkl';have upd:∀(j:Nat) (ks:List Str),ks=Zx7 (R++[(K[k].Text,q)])→ks[j]? =some K[k].Text→
     wp (ZtV (fun t15 t16 i value at_ out=>rec (t15,t16,i,value,at_,out)) (j:Int) K (K.length:Int) (k:Int) (ZnE.mk nm V) (mpo 0 ks) (ks.map (En R)) (fOf q)) (fun x=>x=Zmg (ZtP K V)):=by
    intro j ks hks hj;have hjl:j < ks.length:=(ZHS.1 hj).1;have hjm:j < (ks.map (En R)).length:=by rw[ZHY];exact hjl
    have hkj:ks[j]=K[k].Text:=(ZHS.1 hj).2;have hg:(ks.map (En R))[j]? =some (En R K[k].Text):=by rw[ZHT,hj];rfl
    have hc:cnt R K[k].Text≤R.length:=List.countP_le_length;have hs:=ZCv hsz K[k].Text;unfold ZtV ZtU;rw[ZnJ,ZHM,hg,ZnI,ZnG,ZnJ,ZnJ,ZnI,ZnG,ZnJ,List.getElem?_set_self hjm,ZnI,ZnG];dsimp only[En];rw[Zxv hs hq (by omega),ZnI,ZnG,ZnJ,ZnI,ZnG,ZnJ];dsimp only;refine⟨ZBB hjm,ZnL (by omega),ZBB hjm,Zqd ⟨by omega,by rw[ZHZ];omega⟩,Zqd ⟨by omega,by rw[ZHZ];omega⟩,ZnL (by omega), ?_⟩;rw[List.set_set];refine ih (_,_) ⟨?_, ?_⟩
    ·dsimp only;rw[hnew,hks]
    ·dsimp only;rw[hnew];unfold Zmg;rw[←hks];have he:ZnA.mk K[k].Text (Zz2 K[k].Text) ((cnt R K[k].Text:Int)+1) (fOf (sm R K[k].Text+q))=En (R++[(K[k].Text,q)]) K[k].Text:=by unfold En;rw[ZAL,ZBe,if_pos rfl];unfold ZyH;rw[if_pos rfl];congr 1
     rw[he];refine ZBh (En R) (En (R++[(K[k].Text,q)])) (by rw[hks];exact Zzh _) hj fun x hx=> ?_
     unfold En;rw[ZAL,ZBe,if_neg (fun e=>hx e.symm)];unfold ZyH;rw[if_neg (fun e=>hx e.symm),Nat.add_zero]
   unfold Zrz;rw[cond_false]
   by_cases hin:K[k].Text∈Zx7 R
   ·obtain⟨j,h1,h2⟩:=ZBu (Zx7 R) 0 K[k].Text hin;rw[Int.zero_add]at h1;rw[h1,show (some (j:Int)).isSome=true from rfl,ZEN,cond_false,show ((some (j:Int)).getD (0:Int))=(j:Int)from rfl];have hks:Zx7 R=Zx7 (R++[(K[k].Text,q)]):=by rw[ZyW];unfold Zxh;rw[if_pos hin]
    exact upd j _ hks h2
   ·rw[ZAG _ _ _ hin,show (none:Option Int).isSome=false from rfl,Bool.not_false,cond_true,ZDC (Zzn (hK _ (ZHU hk))),ZnI,ZnG,Zyx,ZnI,ZnG,ZnJ];refine⟨ZwZ (by unfold Zmg;rw[ZHY,ZH0];omega), ?_⟩;have hks:Zx7 R++[K[k].Text]=Zx7 (R++[(K[k].Text,q)]):=by rw[ZyW];unfold Zxh;rw[if_neg hin]
    have hl1:((Zmg R).length:Int)=((Zx7 R).length:Int):=by unfold Zmg;rw[ZHY]
    have ho1:Zmg R++[ZnA.mk K[k].Text (Zz2 K[k].Text) 0 (fOf 0)]=(Zx7 R++[K[k].Text]).map (En R):=by unfold Zmg;rw[List.map_append];congr 1;have:=ZFw hin;show [_]=[En R K[k].Text];unfold En;rw[this.1,this.2];rfl
    rw[hl1,ZDf hin,ho1];exact upd (Zx7 R).length _ hks (by simp)
  rcases ZAp (hV _ (ZHU hkv))with ⟨q,hv,hq⟩ |⟨f,hv⟩
  ·rw[hv,ZnG];dsimp only;cases hnull:K[k].Null with
   |true=>
    rw[cond_true];exact skip _ (by unfold ZxN;rw[if_pos hnull])
   |false=>
    rw[cond_false,ZEN];cases hnv:nv V[k]with
    |none=>
     obtain⟨f,hf⟩:=ZDo (hV _ (ZHU hkv)) hnv;rw[hv]at hf;simp at hf
    |some q'=>
     have:=(Zyz hnv).1;rw[hv]at this;have he:fOf q=fOf q':=(Prod.mk.inj (ZH9 this)).1;rw[he];exact take1 q' (Zyz hnv).2 (by unfold ZxN;rw[if_neg (by simp[hnull])];dsimp only;rw[hnv];rfl)
  ·rw[hv,ZnG];dsimp only;have hnv:nv V[k]=none:=by
    cases hnv:nv V[k]with
    |none=>rfl
    |some q=>
     have:=(Zyz hnv).1;rw[hv]at this;simp at this
   have hrow:ZxN (K[k],V[k])=none:=by unfold ZxN;dsimp only;rw[hnv];split<;>rfl
   cases hnull:K[k].Null with
   |true=>rw[cond_true];exact skip _ hrow
   |false=>rw[cond_false,Bool.not_false];exact skip _ hrow
 ·rintro rec ⟨at_,out⟩ ⟨ha,ho⟩;dsimp only at ha ho;subst ha ho;unfold ZvD Zuc;dsimp only;rw[decide_eq_false (show ¬(K.length:Int) < (K.length:Int) by omega),cond_false,ZnG,ZH4,hl,ZH4]
theorem ZBz (b i0:Int) {A0 C0:List ZnA} {x:ZnA} (hlen:(A0++x::C0).length≤1000):
  wp (ZnP big 0 b i0 (A0.length:Int) (A0++x::C0)) (fun y=>y=(0,b,i0,Zy9 ltE x A0++C0)):=by
 refine Zxr Zr9 (fun(s:List ZnA×List ZnA)=>((0:Int),b,i0,(s.1.length:Int),s.1++x::s.2)) (fun s=>Zy9 ltE x s.1++s.2=Zy9 ltE x A0++C0∧(s.1++x::s.2).length≤1000) (fun s=>s.1.length)
  (Q:=fun y=>y=(0,b,i0,Zy9 ltE x A0++C0)) (A0,C0) ⟨rfl,hlen⟩ (by dsimp only;simp only[ZHV]at hlen;omega) ?_
 rintro rec ⟨A,C⟩ ⟨hR,hl⟩ ih;dsimp only at hR hl ih⊢
 unfold ZpB Zos Zn4;dsimp only;rcases List.eq_nil_or_concat A with rfl |⟨A,p,rfl⟩
 ·rw[Zn9];refine⟨fun h=>by simp at h,fun _=> ?_⟩;rw[cond_false,ZnG];rw[ZAJ]at hR;rw[←hR];rfl
 ·rw[List.concat_eq_append]at*
  simp only[ZHV,ZHW,List.length_nil]at hl;have e0:(A++[p])++x::C=A++p::x::C:=by simp
  have ei:((A++[p]).length:Int)=((A.length+1:Nat):Int):=by simp
  have ej:(((A++[p]).length:Int) - 1)=(A.length:Int):=by rw[ei];omega
  have g1:(A++p::x::C)[A.length+1]? =some x:=by simp
  have g0:(A++p::x::C)[A.length]? =some p:=by simp
  rw[Zn9];refine⟨fun _=> ?_,fun h=>by simp only[decide_eq_false_iff_not,ei]at h;omega⟩;rw[ej,ei,e0];simp only[ZHM,g1,g0,ZH8];have ll:(A++p::x::C).length=A.length+2+C.length:=by simp only[ZHV,ZHW];omega
  have lx:inR ((A.length+1:Nat):Int) ((A++p::x::C).length:Int)=true:=Zqd ⟨by omega,by omega⟩;have lp:inR (A.length:Int) ((A++p::x::C).length:Int)=true:=Zqd ⟨by omega,by omega⟩;have lp':inR (A.length:Int) (((A++p::x::C).set (A.length+1) p).length:Int)=true:=by rw[ZHZ];exact lp
  have ki:inK .i64 (A.length:Int)=true:=ZnL (by omega);rw[lx,lp,lp',ki];simp only[chk_true];rw[ZCb,ZnI,ZnG];rw[ZzZ]at hR;have hlt:ltE x p=decide (ZGv x p < 0):=rfl;rw[Zn9];refine⟨fun hc=> ?_,fun hc=> ?_⟩
  ·rw[hlt,if_pos hc]at hR;rw[ZzK];exact ih (A,p::C) ⟨by rw[←hR];simp,by simp only[ZHV,ZHW];omega⟩ (by simp)
  ·rw[hlt,if_neg (by rw[hc];simp)]at hR;rw[ZnG,←hR];simp
theorem ZDB {D:List ZnA} (hl:D.length≤1000):
  Zn7 D 0 (D.length:Int)=some (Zvt ltE D):=by
 have key:Zob D 0 (D.length:Int)=some (Zvt ltE D):=by
  refine ZqS ?_;unfold Zob ZoH;rw[ZnJ,ZnI];refine⟨ZnL (by omega), ?_⟩;have out:∀(k f:Nat),k+1≤D.length→D.length - (k+1) < f→wp (ZnU f 0 (D.length:Int) ((k+1:Nat):Int) (Zvt ltE (D.take (k+1))++D.drop (k+1))) (fun y=>y=Zvt ltE D):=by
   intro k f
   induction f generalizing k with
   |zero=>intro _ h;omega
   |succ f ih=>
    intro hk hf;show wp (Zot _ _ _ _ _) _;unfold Zot ZoI;rw[Zn9];refine⟨fun hc=> ?_,fun hc=> ?_⟩
    ·simp only[decide_eq_true_eq]at hc;have hk2:k+1 < D.length:=by omega
     have hlen:(Zvt ltE (D.take (k+1))).length=k+1:=by rw[ZsS,ZH1];omega
     have e:D.drop (k+1)=D[k+1]::D.drop (k+2):=ZHO hk2;rw[e];have:=ZBz (D.length:Int) ((k+1:Nat):Int) (A0:=Zvt ltE (D.take (k+1))) (C0:=D.drop (k+2)) (x:=D[k+1]) (by simp only[ZHV,ZHW,hlen,List.length_drop];omega);rw[hlen]at this;rw[ZnI];refine Zn6 this ?_;rintro y rfl;dsimp only;rw[ZnJ];refine⟨ZnL (by omega), ?_⟩;have e2:Zy9 ltE D[k+1] (Zvt ltE (D.take (k+1)))=Zvt ltE (D.take (k+2)):=by rw[ZH5 hk2,Zzi]
     rw[e2];have:=ih (k+1) (by omega) (by omega);rw[show ((k+1:Nat):Int)+1=((k+1+1:Nat):Int) by omega];exact this
    ·simp only[decide_eq_false_iff_not]at hc;have:k+1=D.length:=by omega
     rw[ZnG,this,ZH4,List.drop_of_length_le (ZH6 _),List.append_nil]
  by_cases h0:D.length=0
  ·have:D=[]:=ZHP h0;subst this;exact⟨[],rfl,ZnG.2 rfl⟩
  ·have:=out 0 big (by omega) (by rw[big_eq];omega);have e:Zvt ltE (D.take (0+1))++D.drop (0+1)=D:=by
    cases D with
    |nil=>simp at h0
    |cons x D=>rfl
   rw[e]at this;refine Zn6 this ?_;rintro y rfl;rw[ZnG]
 unfold Zn7;rw[key,ZH8,ZsS,decide_eq_true rfl];rfl
theorem ZzU:((List.range 13).all fun n:Nat=>(Zus (IntKind.wrap .u64 (n:Int))).isSome)=true:=by kernel_rfl
theorem ZB4 {D:List ZnA} (hl:D.length≤12):Zn1 D=some (Zvt ltE D):=by
 have h1:Zoq D 0 (D.length:Int)=fun _=>some (Zvt ltE D):=by funext lim;obtain⟨k,hk⟩:=ZzB 1 (by omega);unfold Zoq Zpy;rw[hk];show ((Zo0 _ _ _ _ _ _ _).bind _).bind _=_;unfold Zo0;rw[ZnL (by omega),chk_true,decide_eq_true (show (D.length:Int) - 0≤12 by omega),cond_true,ZDB (by omega),ZH8,ZH8];dsimp only;rw[ZH8,ZsS,decide_eq_true rfl];rfl
 have h2:=ZHN.1 ZzU D.length (List.mem_range.2 (by omega));obtain⟨n,hn⟩:=Option.isSome_iff_exists.1 h2;unfold Zn1 Zoy;rw[hn,ZH8,h1,ZH8,ZH8,ZsS,decide_eq_true rfl];rfl
noncomputable def ZzV (K V:List ZnF):List ZnA:=Zvt ltE (Zmg (ZtP K V))
theorem ZAy {K V:List ZnF}:(Zmg (ZtP K V)).length≤K.length:=by unfold Zmg;rw[ZHY];refine ZH7 (Zzx _) (ZH7 (ZHX _ _) ?_);rw[List.length_zip];omega
theorem ZDw {key value:ZnE} (hK:∀c∈key.Cells,Zw9 c) (hV:∀c∈value.Cells,Zw9 c) (hn:key.Cells.length≤12) (hl:key.Cells.length=value.Cells.length):
  ZvE key value=some (ZzV key.Cells value.Cells):=by
 refine ZqS ?_;unfold ZvE;rw[ZnI];refine Zn6 (ZBv hK hV (by omega) hl value.Name) ?_;rintro _ rfl;unfold Zwl;rw[ZB4 (ZH7 ZAy hn),ZnI,ZnG,ZnG];rfl
theorem Zys {K V:List ZnF}:(ZzV K V).length≤K.length:=by unfold ZzV;rw[ZsS];exact ZAy
end Go.Proofs
namespace Go.Proofs
open Go Eng
theorem ZBx {K V:List ZnF} {e:ZnA}:e∈ZzV K V↔∃k∈Zx7 (ZtP K V),En (ZtP K V) k=e:=by unfold ZzV;rw[(Zxx _).mem_iff];unfold Zmg;rw[List.mem_map]
def ZCG (e:ZnA):Prop:=ZFx e∧(1≤e.Count∧e.Count≤20)∧e.Key.length≤1000000∧∃q,e.Sum=fOf q∧Sz 110 q
theorem ZAU {K V:List ZnF} (hK:∀c∈K,Zw9 c) (hn:K.length≤20):∀e∈ZzV K V,ZCG e:=by
 intro e he;obtain⟨k,hk,rfl⟩:=ZBx.1 he;have hR:(ZtP K V).length≤20:=by refine ZH7 (ZHX _ _) ?_;rw[List.length_zip];omega
 obtain⟨r,hr,e1⟩:=ZAE.1 hk;have hc:cnt (ZtP K V) k≤(ZtP K V).length:=List.countP_le_length;have hp:0 < cnt (ZtP K V) k:=List.countP_pos_iff.2 ⟨r,hr,by simp[e1]⟩;refine⟨rfl,⟨?_, ?_⟩, ?_,⟨_,rfl,(ZCv ZAu k).mono (by omega)⟩⟩
 ·show (1:Int)≤(cnt (ZtP K V) k:Int);omega
 ·show (cnt (ZtP K V) k:Int)≤20;omega
 ·obtain⟨p,hp2,hp3⟩:=List.mem_filterMap.1 hr;unfold ZxN at hp3;split at hp3
  ·simp at hp3
  ·obtain⟨q,_,rfl⟩:=Option.map_eq_some_iff.1 hp3;show k.length≤1000000;rw[e1];exact Zzn (hK _ (List.of_mem_zip hp2).1)
end Go.Proofs
namespace Go.Proofs
open Go Eng
def ltK (a b:ZnA):Bool:=decide (Lib.compareBytes a.Key b.Key < 0)
theorem ZBy (a b:ZnA):ZrE a b=some (Lib.compareBytes a.Key b.Key):=by unfold ZrE ZrX ZoK;rfl
theorem ZAZ (b i0:Int) {A0 C0:List ZnA} {x:ZnA} (hlen:(A0++x::C0).length≤1000):
  wp (ZnN big 0 b i0 (A0.length:Int) (A0++x::C0)) (fun y=>y=(0,b,i0,Zy9 ltK x A0++C0)):=by
 refine Zxr ZrS (fun(s:List ZnA×List ZnA)=>((0:Int),b,i0,(s.1.length:Int),s.1++x::s.2)) (fun s=>Zy9 ltK x s.1++s.2=Zy9 ltK x A0++C0∧(s.1++x::s.2).length≤1000) (fun s=>s.1.length)
  (Q:=fun y=>y=(0,b,i0,Zy9 ltK x A0++C0)) (A0,C0) ⟨rfl,hlen⟩ (by dsimp only;simp only[ZHV]at hlen;omega) ?_
 rintro rec ⟨A,C⟩ ⟨hR,hl⟩ ih;dsimp only at hR hl ih⊢
 unfold Zpm Zol Zn2;dsimp only;rcases List.eq_nil_or_concat A with rfl |⟨A,p,rfl⟩
 ·rw[Zn9];refine⟨fun h=>by simp at h,fun _=> ?_⟩;rw[cond_false,ZnG];rw[ZAJ]at hR;rw[←hR];rfl
 ·rw[List.concat_eq_append]at*
  simp only[ZHV,ZHW,List.length_nil]at hl;have e0:(A++[p])++x::C=A++p::x::C:=by simp
  have ei:((A++[p]).length:Int)=((A.length+1:Nat):Int):=by simp
  have ej:(((A++[p]).length:Int) - 1)=(A.length:Int):=by rw[ei];omega
  have g1:(A++p::x::C)[A.length+1]? =some x:=by simp
  have g0:(A++p::x::C)[A.length]? =some p:=by simp
  rw[Zn9];refine⟨fun _=> ?_,fun h=>by simp only[decide_eq_false_iff_not,ei]at h;omega⟩;rw[ej,ei,e0];simp only[ZHM,g1,g0,ZH8];have ll:(A++p::x::C).length=A.length+2+C.length:=by simp only[ZHV,ZHW];omega
  have lx:inR ((A.length+1:Nat):Int) ((A++p::x::C).length:Int)=true:=Zqd ⟨by omega,by omega⟩;have lp:inR (A.length:Int) ((A++p::x::C).length:Int)=true:=Zqd ⟨by omega,by omega⟩;have lp':inR (A.length:Int) (((A++p::x::C).set (A.length+1) p).length:Int)=true:=by rw[ZHZ];exact lp
  have ki:inK .i64 (A.length:Int)=true:=ZnL (by omega);rw[lx,lp,lp',ki];simp only[chk_true];rw[ZBy,ZnI,ZnG];rw[ZzZ]at hR;have hlt:ltK x p=decide (Lib.compareBytes x.Key p.Key < 0):=rfl;rw[Zn9];refine⟨fun hc=> ?_,fun hc=> ?_⟩
  ·rw[hlt,if_pos hc]at hR;rw[ZzK];exact ih (A,p::C) ⟨by rw[←hR];simp,by simp only[ZHV,ZHW];omega⟩ (by simp)
  ·rw[hlt,if_neg (by rw[hc];simp)]at hR;rw[ZnG,←hR];simp
theorem ZDA {D:List ZnA} (hl:D.length≤1000):
  Zn3 D 0 (D.length:Int)=some (Zvt ltK D):=by
 have key:Zn8 D 0 (D.length:Int)=some (Zvt ltK D):=by
  refine ZqS ?_;unfold Zn8 Zou;rw[ZnJ,ZnI];refine⟨ZnL (by omega), ?_⟩;have out:∀(k f:Nat),k+1≤D.length→D.length - (k+1) < f→wp (ZnQ f 0 (D.length:Int) ((k+1:Nat):Int) (Zvt ltK (D.take (k+1))++D.drop (k+1))) (fun y=>y=Zvt ltK D):=by
   intro k f
   induction f generalizing k with
   |zero=>intro _ h;omega
   |succ f ih=>
    intro hk hf;show wp (Zom _ _ _ _ _) _;unfold Zom Zov;rw[Zn9];refine⟨fun hc=> ?_,fun hc=> ?_⟩
    ·simp only[decide_eq_true_eq]at hc;have hk2:k+1 < D.length:=by omega
     have hlen:(Zvt ltK (D.take (k+1))).length=k+1:=by rw[ZsS,ZH1];omega
     have e:D.drop (k+1)=D[k+1]::D.drop (k+2):=ZHO hk2;rw[e];have:=ZAZ (D.length:Int) ((k+1:Nat):Int) (A0:=Zvt ltK (D.take (k+1))) (C0:=D.drop (k+2)) (x:=D[k+1]) (by simp only[ZHV,ZHW,hlen,List.length_drop];omega);rw[hlen]at this;rw[ZnI];refine Zn6 this ?_;rintro y rfl;dsimp only;rw[ZnJ];refine⟨ZnL (by omega), ?_⟩;have e2:Zy9 ltK D[k+1] (Zvt ltK (D.take (k+1)))=Zvt ltK (D.take (k+2)):=by rw[ZH5 hk2,Zzi]
     rw[e2];have:=ih (k+1) (by omega) (by omega);rw[show ((k+1:Nat):Int)+1=((k+1+1:Nat):Int) by omega];exact this
    ·simp only[decide_eq_false_iff_not]at hc;have:k+1=D.length:=by omega
     rw[ZnG,this,ZH4,List.drop_of_length_le (ZH6 _),List.append_nil]
  by_cases h0:D.length=0
  ·have:D=[]:=ZHP h0;subst this;exact⟨[],rfl,ZnG.2 rfl⟩
  ·have:=out 0 big (by omega) (by rw[big_eq];omega);have e:Zvt ltK (D.take (0+1))++D.drop (0+1)=D:=by
    cases D with
    |nil=>simp at h0
    |cons x D=>rfl
   rw[e]at this;refine Zn6 this ?_;rintro y rfl;rw[ZnG]
 unfold Zn3;rw[key,ZH8,ZsS,decide_eq_true rfl];rfl
theorem ZB3 {D:List ZnA} (hl:D.length≤12):ZnX D=some (Zvt ltK D):=by
 have h1:Zoh D 0 (D.length:Int)=fun _=>some (Zvt ltK D):=by funext lim;obtain⟨k,hk⟩:=ZzB 1 (by omega);unfold Zoh Zpd;rw[hk];show ((ZoL _ _ _ _ _ _ _).bind _).bind _=_;unfold ZoL;rw[ZnL (by omega),chk_true,decide_eq_true (show (D.length:Int) - 0≤12 by omega),cond_true,ZDA (by omega),ZH8,ZH8];dsimp only;rw[ZH8,ZsS,decide_eq_true rfl];rfl
 have h2:=ZHN.1 ZzU D.length (List.mem_range.2 (by omega));obtain⟨n,hn⟩:=Option.isSome_iff_exists.1 h2;unfold ZnX Zon;rw[hn,ZH8,h1,ZH8,ZH8,ZsS,decide_eq_true rfl];rfl
end Go.Proofs
namespace Go.Proofs
open Go Eng
theorem ZB7:(([48]::(ZEy.map (·.1)++ZA0.map (·.1))).all fun s=>match Zo7 (ZnF.mk false s)with |some (_,true)=>true |_=>false)=true:=by kernel_rfl
theorem ZDi:(noT.all fun s=>match Zo7 (ZnF.mk false s)with |some (_,false)=>true |_=>false)=true:=by kernel_rfl
theorem ZDI {p q:Rat} (hp:Sz 110 p) (hq:Sz 110 q) (h:fOf p=fOf q):p=q:=by have h1:=Zxt p q (hp.wq (by omega)) (hq.wq (by omega));have h2:=Zxt p p (hp.wq (by omega)) (hp.wq (by omega));rw[h]at h1 h2;rw[h1]at h2;have:=ZH9 h2;rw[decide_eq_true rfl]at this;exact of_decide_eq_true this
theorem ZEU {c:ZnF} {q:Rat} (h:Zpe c=some (fOf q,true)) (hq:Sz 4 q):nv c=some q:=by have hx:∃q,Zpe c=some (fOf q,true)∧Sz 4 q:=⟨q,h,hq⟩;unfold nv;rw[dif_pos hx];have h2:=hx.choose_spec.2;have he:=(Prod.mk.inj (ZH9 (h.symm.trans hx.choose_spec.1))).1;rw[ZDI (hq.mono (by omega)) (h2.mono (by omega)) he]
theorem ZET {s:Str} (h:s∈[48]::(ZEy.map (·.1)++ZA0.map (·.1))):(nv (ZnF.mk false s)).isSome=true:=by
 have key:∃q,Zpe (ZnF.mk false s)=some (fOf q,true)∧Sz 4 q:=by
  rcases List.mem_cons.1 h with rfl |h
  ·exact⟨_,valZ,Zx1 (by decide) (by decide) (by decide)⟩
  ·rcases List.mem_append.1 h with h |h
   ·obtain⟨p,hp,rfl⟩:=List.mem_map.1 h;have h1:=of_decide_eq_true (ZHN.1 ZBp p hp);have h2:=ZHN.1 ZCC p hp;simp only[Bool.and_eq_true,decide_eq_true_eq]at h2;rw[h2.1]at h1;exact⟨_,h1,Zx1 (by decide) h2.2 (by decide)⟩
   ·obtain⟨p,hp,rfl⟩:=List.mem_map.1 h;have h1:=of_decide_eq_true (ZHN.1 ZAK p hp);have h2:=ZHN.1 ZBF p hp;simp only[Bool.and_eq_true,decide_eq_true_eq]at h2;rw[h2.1]at h1;exact⟨_,h1,Zx1 (by decide) h2.2 (by decide)⟩
 obtain⟨q,h1,h2⟩:=key;rw[ZEU h1 h2];rfl
theorem ZGN {s:Str} (h:s∈noT):(nv (ZnF.mk false s)).isSome=false:=by
 have h1:=ZHN.1 ZCx s h;split at h1;rotate_left;simp at h1;rename_i f hf;cases hn:nv (ZnF.mk false s)with
 |none=>rfl
 |some q=>
  have:=(Zyz hn).1;rw[hf]at this;simp at this
theorem ZAQ {c:ZnF} (h:Zw9 c):∃f,Zo7 c=some (f,(nv c).isSome):=by
 rcases h with rfl |⟨s,hs,rfl⟩
 ·refine⟨ZnC.mk (ZnD.mk false ([]:(List Int))) (ZnD.mk false ([]:(List Int))), ?_⟩
  ·have:nv (ZnF.mk true [])=none:=by
    cases hn:nv (ZnF.mk true [])with
    |none=>rfl
    |some q=>
     have h1:=(Zyz hn).1;unfold Zpe at h1;dsimp only at h1;rw[cond_true,Zyx]at h1;simp at h1
   rw[this];rfl
 ·have hs':s∈[48]::(ZEy.map (·.1)++ZA0.map (·.1))∨s∈noT:=by
   rcases List.mem_cons.1 hs with rfl |hs
   ·exact .inl (by simp)
   ·rcases List.mem_append.1 hs with hs |hs
    ·exact .inl (ZH3 _ hs)
    ·exact .inr hs
  rcases hs' with hs' |hs'
  ·have h1:=ZHN.1 ZB7 s hs';split at h1;rotate_left;simp at h1;rename_i f hf;exact⟨f,by rw[hf,ZET hs']⟩
  ·have h1:=ZHN.1 ZDi s hs';split at h1;rotate_left;simp at h1;rename_i f hf;exact⟨f,by rw[hf,ZGN hs']⟩
def mpb:List Str→List (Str×Bool)
 | []=>[]
 |k::r=>(k,true)::mpb r
theorem ZBs:∀ks:List Str,(mpb ks).length=ks.length
 | []=>rfl
 |k::r=>by unfold mpb;rw[ZHW,ZHW,ZBs r]
theorem ZAC:∀(ks:List Str) (s:Str),mpb (ks++[s])=mpb ks++[(s,true)]
 | [],_=>rfl
 |k::r,s=>by rw[List.cons_append];unfold mpb;rw[ZAC r,List.cons_append]
theorem anyb:∀(ks:List Str) (s:Str),(mpb ks).any (fun e=>ZlP (car:=Zvy) .str s e.1)=decide (s∈ks)
 | [],_=>rfl
 |k::r,s=>by
  unfold mpb;rw[List.any_cons,anyb r s];show ((s == k)||decide (s∈r))=_
  by_cases h:s=k
  ·subst h;simp
  ·rw[show (s == k)=false by simpa using h];simp[h]
theorem ZBt:∀(ks:List Str) (s:Str),(mpb ks).map (fun e=>if ZlP (car:=Zvy) .str s e.1=true then (e.1,true)else e)=mpb ks
 | [],_=>rfl
 |k::r,s=>by unfold mpb;rw[ZH2,ZBt r s];congr 1;split<;>rfl
theorem ZBg (ks:List Str) (r:Str×Rat):setB (k:= .str) (v:= .bool) (car:=Zvy) (mpb ks) r.1 true=mpb (Zxh ks r):=by
 unfold setB Zxh;rw[anyb]
 by_cases h:r.1∈ks
 ·rw[if_pos (decide_eq_true h),if_pos h];exact ZBt ks r.1
 ·rw[decide_eq_false h,if_neg (by simp),if_neg h,ZAC]
end Go.Proofs
namespace Go.Proofs
open Go Eng
theorem ZFt:∀x y:List UInt8,Op.bytesLess x y=decide (Lib.compareBytes x y < 0)
 | [],[]=>by simp[Op.bytesLess,Lib.compareBytes]
 |_::_,[]=>by simp[Op.bytesLess,Lib.compareBytes]
 | [],_::_=>by simp[Op.bytesLess,Lib.compareBytes]
 |a::x,b::y=>by
  unfold Op.bytesLess Lib.compareBytes;rw[ZFt x y]
  by_cases h1:a < b
  ·rw[if_pos h1,decide_eq_true h1];rfl
  ·rw[if_neg h1,decide_eq_false h1,Bool.false_or]
   by_cases h2:b < a
   ·rw[if_pos h2];have:a≠b:=by rintro rfl;exact h1 h2
    rw[show (a == b)=false by simpa using this];rfl
   ·rw[if_neg h2];have:a=b:=UInt8.le_antisymm (UInt8.not_lt.1 h2) (UInt8.not_lt.1 h1);rw[show (a == b)=true by simpa using this,Bool.true_and]
abbrev Ent:=ZnA
def kc (a b:Ent):Int:=Lib.compareBytes a.Key b.Key
def LtK (a b:Ent):Prop:=kc a b < 0
def ZuL:List Ent→List Ent→List (Ent×Ent)
 | [],_=>[]
 |_,[]=>[]
 |e::a,f::b=>if kc f e < 0 then ZuL (e::a) b else if kc f e=0 then (e,f)::ZuL a b else ZuL a (f::b)
 termination_by a b=>a.length+b.length
theorem ZvN (b:List Ent):ZuL [] b=[]:=by unfold ZuL;rfl
theorem Zxw (a:List Ent):ZuL a []=[]:=by cases a<;>unfold ZuL<;>rfl
theorem Zwf (e:Ent) (a:List Ent) (f:Ent) (b:List Ent):ZuL (e::a) (f::b)=if kc f e < 0 then ZuL (e::a) b else if kc f e=0 then (e,f)::ZuL a b else ZuL a (f::b):=by
 conv=>lhs;unfold ZuL
theorem ZCA (a b:Ent):kc b a= - kc a b:=ZCE _ _
theorem ZzW (n:Nat):∀a b:List Ent,a.length+b.length≤n→ZuL b a=(ZuL a b).map Prod.swap:=by
 induction n with
 |zero=>
  intro a b h;have h1:a=[]:=ZHP (by omega);have h2:b=[]:=ZHP (by omega);subst h1 h2;rw[ZvN];rfl
 |succ n ih=>
  intro a b h;cases a with
  |nil=>rw[ZvN,Zxw];rfl
  |cons e a=>
   cases b with
   |nil=>rw[ZvN,Zxw];rfl
   |cons f b=>
    simp only[ZHW]at h;rw[Zwf,Zwf];have hn:=ZCA e f
    by_cases h1:kc f e < 0
    ·rw[if_pos h1,if_neg (by omega),if_neg (by omega),ih (e::a) b (by simp only[ZHW];omega)]
    ·by_cases h2:kc f e=0
     ·rw[if_neg h1,if_pos h2,if_neg (by omega),if_pos (by omega),ZH2,ih a b (by omega)];rfl
     ·rw[if_neg h1,if_neg h2,if_pos (by omega),ih a (f::b) (by simp only[ZHW];omega)]
theorem ZAI (n:Nat):∀a b:List Ent,a.length+b.length≤n→(ZuL a b).length≤a.length:=by
 induction n with
 |zero=>
  intro a b h;have h1:a=[]:=ZHP (by omega);subst h1;rw[ZvN];exact ZH6 _
 |succ n ih=>
  intro a b h;cases a with
  |nil=>rw[ZvN];exact ZH6 _
  |cons e a=>
   cases b with
   |nil=>rw[Zxw];exact Nat.zero_le _
   |cons f b=>
    simp only[ZHW]at h;rw[Zwf];split
    ·exact ih (e::a) b (by simp only[ZHW];omega)
    ·split
     ·rw[ZHW,ZHW];have:=ih a b (by omega);omega
     ·have:=ih a (f::b) (by simp only[ZHW];omega);rw[ZHW];omega
theorem ZyX:∀a:List Ent,ZuL a a=a.map fun e=>(e,e)
 | []=>by rw[ZvN];rfl
 |e::a=>by rw[Zwf,if_neg (by have:=ZzA e.Key;unfold kc;omega),if_pos (show kc e e=0 from ZzA e.Key),ZyX a,ZH2]
theorem ZCj (n:Nat):∀a b:List Ent,a.length+b.length≤n→∀p∈ZuL a b,p.1∈a∧p.2∈b:=by
 induction n with
 |zero=>
  intro a b h p hp;have h1:a=[]:=ZHP (by omega);subst h1;rw[ZvN]at hp;simp at hp
 |succ n ih=>
  intro a b h p hp;cases a with
  |nil=>rw[ZvN]at hp;simp at hp
  |cons e a=>
   cases b with
   |nil=>rw[Zxw]at hp;simp at hp
   |cons f b=>
    simp only[ZHW]at h;rw[Zwf]at hp;split at hp
    ·have:=ih (e::a) b (by simp only[ZHW];omega) p hp;exact⟨this.1,ZH3 _ this.2⟩
    ·split at hp
     ·rcases List.mem_cons.1 hp with rfl |hp
      ·exact⟨by simp,by simp⟩
      ·have:=ih a b (by omega) p hp;exact⟨ZH3 _ this.1,ZH3 _ this.2⟩
     ·have:=ih a (f::b) (by simp only[ZHW];omega) p hp;exact⟨ZH3 _ this.1,this.2⟩
theorem ZAW {e:Ent} {a:List Ent} {f:Ent} {b:List Ent} (hs:(e::a).Pairwise LtK) (h:kc f e=0):ZuL a (f::b)=ZuL a b:=by
 cases a with
 |nil=>rw[ZvN,ZvN]
 |cons e' a=>
  have h1:kc e e' < 0:=(List.pairwise_cons.1 hs).1 e' (by simp);have h2:f.Key=e.Key:=ZyF h;rw[Zwf,if_pos (by unfold kc at h1⊢;rw[h2];exact h1)]
open Classical in
noncomputable def qOf (e:Ent):Rat:=if h:∃q,e.Sum=fOf q∧Sz 110 q then h.choose / Rat.divInt e.Count 1 else 0
theorem ZAk {e:Ent} (h:ZCG e):(∃c,Zxe e.Count 1=some c∧Zv3 e.Sum c=some (fOf (qOf e)))∧Wq 256 (qOf e):=by
 obtain⟨_,⟨h1,h2⟩,_,hx⟩:=h;have hc:Rat.divInt e.Count 1≠0:=by rw[ZyD];intro h0;have h3:((e.Count:Int):Rat)=((0:Int):Rat):=h0;have:=Rat.intCast_inj.1 h3;omega
 have hz:Sz 5 (Rat.divInt e.Count 1):=Zxs (k:=5) (by decide) (by omega) (by decide);have hq:=hx.choose_spec;unfold qOf;rw[dif_pos hx];refine⟨⟨_,ZAA _ 1 (by decide) (by omega) (by omega) (by decide) (by decide), ?_⟩,(Sz.div hc hq.2 hz).wq (by omega)⟩;have:=ZzR hc hq.2 hz (by omega);rw[←hq.1]at this;exact this
noncomputable def ZyM (p:Ent×Ent):ZnB:=⟨fOf (qOf p.1),fOf (qOf p.2)⟩
theorem ZDg {b:List Ent} (hn:b.length≤100) {e:Ent} {a:List Ent} {k0:Nat} (hk0:k0≤b.length) (L:List Ent) (n i:Int) (o:List ZnB):
  wp (ZpQ big b (k0:Int) L n i o e) (fun x=>∃k:Nat,x=(b,(k:Int),L,n,i,o,e)∧k≤b.length∧ZuL (e::a) (b.drop k0)=ZuL (e::a) (b.drop k)∧∀h:k < b.length,¬kc b[k] e < 0):=by
 refine Zxr Zxm (fun k:Nat=>(b,(k:Int),L,n,i,o,e)) (fun k=>k≤b.length∧ZuL (e::a) (b.drop k0)=ZuL (e::a) (b.drop k)) (fun k=>b.length - k)
  (Q:=fun x=>∃k:Nat,x=(b,(k:Int),L,n,i,o,e)∧k≤b.length∧ZuL (e::a) (b.drop k0)=ZuL (e::a) (b.drop k)∧∀h:k < b.length,¬kc b[k] e < 0) k0 ⟨hk0,rfl⟩ (by omega) ?_
 rintro rec k ⟨hk,hj⟩ ih;unfold Zvv Ztz Zsp;dsimp only
 by_cases hlt:k < b.length
 ·rw[decide_eq_true (show (k:Int) < (b.length:Int) by omega),cond_true,Zxo hlt,ZnI,ZnG,ZFt]
  by_cases hc:kc b[k] e < 0
  ·rw[show decide (Lib.compareBytes b[k].Key e.Key < 0)=true from decide_eq_true hc,cond_true,ZnJ];refine⟨ZnL (by omega),ih (k+1) ⟨by omega, ?_⟩ (by omega)⟩;rw[hj,ZHO hlt,Zwf,if_pos hc]
  ·rw[show decide (Lib.compareBytes b[k].Key e.Key < 0)=false from decide_eq_false hc,cond_false,ZnG];exact⟨k,rfl,hk,hj,fun _=>hc⟩
 ·rw[decide_eq_false (show ¬(k:Int) < (b.length:Int) by omega),cond_false,cond_false,ZnG];exact⟨k,rfl,hk,hj,fun h=>absurd h hlt⟩
theorem Zy3 {a b:List Ent} (ha:a.Pairwise LtK) (hga:∀e∈a,ZCG e) (hgb:∀e∈b,ZCG e) (hna:a.length≤100) (hnb:b.length≤100):
  Zsi a b=some ((ZuL a b).map ZyM):=by
 refine ZqS ?_;unfold Zsi Zt4;rw[ZnI];refine Zn6 (Zyl Zxn a (by omega) (fun i (t:Nat×List ZnB)=>(b,(t.1:Int),a,(a.length:Int),i,t.2))
  (fun i t=>t.1≤b.length∧t.2.length≤i∧t.2++(ZuL (a.drop i) (b.drop t.1)).map ZyM=(ZuL a b).map ZyM) (Q:=fun x=>x=(ZuL a b).map ZyM) (0,[]) ⟨Nat.zero_le _,ZH6 _,rfl⟩ ?_ ?_) fun x hx=>by rw[ZnG];exact hx
 ·rintro rec i ⟨k0,o⟩ hi ⟨hk0,hol,hP⟩ ih;dsimp only at hk0 hol hP ih;have hd:a.drop i=a[i]::a.drop (i+1):=ZHO hi;have hge:=hga _ (ZHU hi);rw[hd]at hP;unfold ZtA Zrs;dsimp only;rw[decide_eq_true (show (i:Int) < (a.length:Int) by omega),cond_true,Zxo hi,ZnI,ZnG,ZnI];refine Zn6 (ZDg hnb (e:=a[i]) (a:=a.drop (i+1)) hk0 a (a.length:Int) (i:Int) o) ?_;rintro _ ⟨k,rfl,hk,hj,hnl⟩;rw[hj]at hP;unfold Zt5 Zso Zsn;dsimp only
  by_cases hlt:k < b.length
  ·have hgb':=hgb _ (ZHU hlt);have hdb:b.drop k=b[k]::b.drop (k+1):=ZHO hlt;rw[hdb,Zwf,if_neg (hnl hlt)]at hP;rw[decide_eq_true (show (k:Int) < (b.length:Int) by omega),cond_true,Zxo hlt,ZnI,ZnG]
   by_cases hc:kc b[k] a[i]=0
   ·have hke:b[k].Key=a[i].Key:=ZyF hc;obtain⟨⟨c1,n1,d1⟩,_⟩:=ZAk hge;obtain⟨⟨c2,n2,d2⟩,_⟩:=ZAk hgb';rw[show (b[k].Key == a[i].Key)=true by rw[hke];simp,cond_true,n1,ZnI,ZnG,d1,ZnI,ZnG,ZnI,ZnG,ZnI,ZnG,n2,ZnI,ZnG,d2,ZnI,ZnG,ZnJ,ZnJ];rw[if_pos hc]at hP;refine⟨ZwZ (by rw[ZH0];omega),ZnL (by omega),ih (k,_) ⟨hk,by dsimp only;rw[ZHV,ZH0];omega, ?_⟩⟩;dsimp only;rw[hdb,ZAW (hd▸ha.sublist (List.drop_sublist i a)) hc,←hP,ZH2,List.append_assoc,List.singleton_append];rfl
   ·have hke:¬b[k].Key=a[i].Key:=by intro h;apply hc;unfold kc;rw[h,ZzA]
    rw[show (b[k].Key == a[i].Key)=false by simpa using hke,cond_false,ZnJ];rw[if_neg hc]at hP;refine⟨ZnL (by omega),ih (k,o) ⟨hk,by dsimp only;omega, ?_⟩⟩;dsimp only;rw[hdb];exact hP
  ·have hkb:k=b.length:=by omega
   rw[hkb,List.drop_length,Zxw]at hP;rw[decide_eq_false (show ¬(k:Int) < (b.length:Int) by omega),cond_false,cond_false,ZnJ];refine⟨ZnL (by omega),ih (k,o) ⟨hk,by dsimp only;omega, ?_⟩⟩;dsimp only;rw[hkb,List.drop_length,Zxw];exact hP
 ·rintro rec ⟨k0,o⟩ ⟨hk0,hol,hP⟩;dsimp only at hP;unfold ZtA Zrs;dsimp only;rw[List.drop_length,ZvN]at hP;rw[decide_eq_false (show ¬(a.length:Int) < (a.length:Int) by omega),cond_false,ZnG,←hP];simp
end Go.Proofs
namespace Go.Proofs
open Go Eng
noncomputable def ZvM (K V:List ZnF):List Ent:=Zvt ltK (ZzV K V)
theorem ZAH {key value:ZnE} (hK:∀c∈key.Cells,Zw9 c) (hV:∀c∈value.Cells,Zw9 c) (hn:key.Cells.length≤12) (hl:key.Cells.length=value.Cells.length):
  Zrt key value=some (ZvM key.Cells value.Cells):=by
 unfold Zrt;rw[ZDw hK hV hn hl,ZH8,ZB3 (ZH7 Zys hn),ZH8];rfl
theorem ZyA {K V:List ZnF} (hK:∀c∈K,Zw9 c) (hn:K.length≤20):∀e∈ZvM K V,ZCG e:=fun e he=>ZAU hK hn e ((Zxx _).mem_iff.1 he)
theorem ZBw {K V:List ZnF}:(ZvM K V).length=(Zx7 (ZtP K V)).length:=by unfold ZvM ZzV;rw[ZsS,ZsS];unfold Zmg;rw[ZHY]
theorem Zzy (K V:List ZnF):(ZvM K V).Pairwise LtK:=by
 have h1:(ZvM K V).Pairwise fun a b=>kc a b≤0:=by
  refine ZzY (fun _=>True) (fun a b=>kc a b≤0) (fun x p _ _ h=> ?_) (fun x p _ _ h=> ?_) (fun a b c _ _ _ h1 h2=> ?_) _ fun _ _=>trivial
  ·have:kc x p < 0:=of_decide_eq_true h;omega
  ·have:¬kc x p < 0:=of_decide_eq_false h;have:=ZCA x p;omega
  ·by_cases e1:kc a b=0
   ·have:a.Key=b.Key:=ZyF e1;unfold kc at h2⊢
    rw[this];exact h2
   ·by_cases e2:kc b c=0
    ·have:b.Key=c.Key:=ZyF e2;unfold kc at h1⊢
     rw[←this];exact h1
    ·have:kc a c < 0:=ZAM (show kc a b < 0 by omega) (show kc b c < 0 by omega);omega
 have h2:((ZvM K V).map (·.Key)).Nodup:=by have hp:((ZvM K V).map (·.Key)).Perm ((Zmg (ZtP K V)).map (·.Key)):=((Zxx _).trans (Zxx _)).map _;rw[hp.nodup_iff];unfold Zmg;rw[List.map_map];have:((fun e:ZnA=>e.Key)∘En (ZtP K V))=id:=rfl;rw[this,List.map_id];exact Zzh _
 rw[List.Nodup,List.pairwise_map]at h2;refine(h1.and h2).imp ?_;rintro a b ⟨h3,h4⟩;unfold LtK;rcases Int.lt_or_eq_of_le h3 with h |h
 ·exact h
 ·exact absurd (ZyF h) h4
theorem ZGT {K V:List ZnF} (hV:∀c∈V,Zw9 c) (hn:K.length≤20) (hl:K.length=V.length) (nm:Str) (self:List ZnB):
  wp (ZnT big K (K.length:Int) 0 (ZnE.mk nm V) self []) (fun y=>y=(self,mpb (Zx7 (ZtP K V)))):=by
 refine Zyl Zuh K (by omega) (fun i (t:List (Str×Bool))=>(K,(K.length:Int),i,ZnE.mk nm V,self,t))
  (fun k t=>t=mpb (Zx7 (ZtP (K.take k) (V.take k)))) (Q:=fun y=>y=(self,mpb (Zx7 (ZtP K V)))) [] rfl ?_ ?_
 ·rintro rec k keys hk rfl ih;have hkv:k < V.length:=by omega
  have hstep:ZtP (K.take (k+1)) (V.take (k+1))=ZtP (K.take k) (V.take k)++(ZxN (K[k],V[k])).toList:=by unfold ZtP;rw[ZH5 hk,ZH5 hkv,List.zip_append (by rw[ZH1,ZH1];omega),List.filterMap_append];congr 1
  obtain⟨f,hf⟩:=ZAQ (hV _ (ZHU hkv));unfold Zpv ZoD;dsimp only;rw[decide_eq_true (show (k:Int) < (K.length:Int) by omega),cond_true,Zxo hk,ZnI,ZnG,Zxo hkv,ZnI,ZnG,hf,ZnI,ZnG];dsimp only;unfold ZoT ZoS;have none_row:ZxN (K[k],V[k])=none→wp (rec (K,(K.length:Int),(k:Int)+1,ZnE.mk nm V,self,mpb (Zx7 (ZtP (K.take k) (V.take k))))) (fun y=>y=(self,mpb (Zx7 (ZtP K V)))):=by intro h;refine ih _ ?_;rw[hstep,h];simp
  cases hnv:nv V[k]with
  |none=>
   have hrow:ZxN (K[k],V[k])=none:=by unfold ZxN;dsimp only;rw[hnv];split<;>rfl
   rw[show (none:Option Rat).isSome=false from rfl,cond_false,cond_false,ZnJ];exact⟨ZnL (by omega),none_row hrow⟩
  |some q=>
   rw[show (some q).isSome=true from rfl,cond_true];cases hnull:K[k].Null with
   |true=>
    have hrow:ZxN (K[k],V[k])=none:=by unfold ZxN;rw[if_pos hnull]
    rw[ZEN,cond_false,ZnJ];exact⟨ZnL (by omega),none_row hrow⟩
   |false=>
    have hrow:ZxN (K[k],V[k])=some (K[k].Text,q):=by unfold ZxN;rw[if_neg (by simp[hnull])];dsimp only;rw[hnv];rfl
    rw[Bool.not_false,cond_true,ZnJ];refine⟨ZnL (by omega),ih _ ?_⟩;rw[hstep,hrow];show _=mpb (Zx7 (ZtP (K.take k) (V.take k)++[(K[k].Text,q)]));rw[ZyW];exact ZBg _ (K[k].Text,q)
 ·rintro rec keys rfl;unfold Zpv ZoD;dsimp only;rw[decide_eq_false (show ¬(K.length:Int) < (K.length:Int) by omega),cond_false,ZnG,ZH4,hl,ZH4]
theorem ZCi {ka va:ZnE} {a b:List Ent} (hk:∀c∈ka.Cells,Zw9 c) (hv:∀c∈va.Cells,Zw9 c) (hn:ka.Cells.length≤12) (hl:ka.Cells.length=va.Cells.length) (hea:a=ZvM ka.Cells va.Cells) (hgb:∀e∈b,ZCG e) (hnb:b.length≤100):
  Zof false ka va ((ZuL a b).map ZyM) ((ZuL b a).map ZyM) ((ZuL a a).map ZyM)=some true:=by
 have hga:∀e∈a,ZCG e:=by rw[hea];exact ZyA hk (by omega)
 have hna:a.length≤12:=by rw[hea];unfold ZvM;rw[ZsS];exact ZH7 Zys hn
 have hjl:(ZuL a b).length≤12:=ZH7 (ZAI _ a b (ZH6 _)) hna;have hsw:ZuL b a=(ZuL a b).map Prod.swap:=ZzW _ a b (ZH6 _);have hjm:=ZCj _ a b (ZH6 _);refine ZqS ?_;unfold Zof;rw[cond_false,ZnI,ZHY];have hmean:∀e:Ent,ZCG e→Wq 256 (qOf e):=fun e he=>(ZAk he).2
 refine Zn6 (Zyl Zuj (ZuL a b) (by omega) (fun i (_:Unit)=>(((ZuL a b).length:Int),i,ka,va,(ZuL b a).map ZyM,(ZuL a a).map ZyM,(ZuL a b).map ZyM)) (fun _ _=>True) (Q:=fun x=>x= .brk (ka,va,(ZuL a a).map ZyM)) () trivial ?_ ?_) ?_
 ·rintro rec i _ hi _ ih;have hp:=hjm _ (ZHU hi);have h1:=hmean _ (hga _ hp.1);have h2:=hmean _ (hgb _ hp.2);have g1:((ZuL a b).map ZyM)[i]? =some (ZyM (ZuL a b)[i]):=by rw[ZHT,ZHR hi];rfl
  have g2:((ZuL b a).map ZyM)[i]? =some (ZyM (ZuL a b)[i].swap):=by rw[hsw,ZHT,ZHT,ZHR hi];rfl
  have hl2:((ZuL b a).map ZyM).length=(ZuL a b).length:=by rw[ZHY,hsw,ZHY]
  unfold Zpx ZoF ZoU;dsimp only;rw[decide_eq_true (show (i:Int) < ((ZuL a b).length:Int) by omega),cond_true,ZnJ,ZHM,g1,ZnI,ZnG,ZnJ,ZnJ,ZnJ,g2,ZnI,ZnG];show _∧_∧_∧_∧wp ((ZnZ (fOf (qOf (ZuL a b)[i].1)) (fOf (qOf (ZuL a b)[i].1))).bind _) _;rw[Zxt _ _ h1 h1,ZnI,ZnG,decide_eq_true rfl,ZEN,cond_false,ZnJ,ZnJ,ZnJ,ZnI,ZnG];refine⟨Zqd ⟨by omega,by rw[ZHY];omega⟩,rfl,Zqd ⟨by omega,by rw[hl2];omega⟩,rfl,rfl,Zqd ⟨by omega,by rw[hl2];omega⟩,rfl, ?_⟩;show wp ((ZnZ (fOf (qOf (ZuL a b)[i].2)) (fOf (qOf (ZuL a b)[i].2))).bind _) _;rw[Zxt _ _ h2 h2,ZnI,ZnG,decide_eq_true rfl,ZEN,cond_false,ZnJ];exact⟨ZnL (by omega),ih () trivial⟩
 ·rintro rec _ _;unfold Zpx ZoF;dsimp only;rw[decide_eq_false (show ¬((ZuL a b).length:Int) < ((ZuL a b).length:Int) by omega),cond_false,ZnG]
 rintro _ rfl;dsimp only;unfold ZpM;rw[ZnI,ZHY];have hself:ZuL a a=a.map fun e=>(e,e):=ZyX a
 refine Zn6 (Zyl Zui a (by omega) (fun i (_:Unit)=>(((ZuL a a).length:Int),i,ka,va,(ZuL a a).map ZyM)) (fun _ _=>True) (Q:=fun x=>x= .brk (ka,va,(ZuL a a).map ZyM)) () trivial ?_ ?_) ?_
 ·rintro rec i _ hi _ ih;have h1:=hmean _ (hga _ (ZHU hi));have g1:((ZuL a a).map ZyM)[i]? =some (ZyM (a[i],a[i])):=by rw[hself,ZHT,ZHT,ZHR hi];rfl
  have hl2:(ZuL a a).length=a.length:=by rw[hself,ZHY]
  unfold Zpw ZoE;dsimp only;rw[decide_eq_true (show (i:Int) < ((ZuL a a).length:Int) by omega),cond_true,ZnJ,ZHM,g1,ZnI,ZnG,ZnJ,ZnJ];show _∧_∧_∧wp ((ZnZ (fOf (qOf a[i])) (fOf (qOf a[i]))).bind _) _;rw[Zxt _ _ h1 h1,ZnI,ZnG,decide_eq_true rfl,ZEN,cond_false,ZnJ];exact⟨Zqd ⟨by omega,by rw[ZHY,hl2];omega⟩,rfl,rfl,ZnL (by omega),ih () trivial⟩
 ·rintro rec _ _;have hl2:(ZuL a a).length=a.length:=by rw[hself,ZHY]
  unfold Zpw ZoE;dsimp only;rw[decide_eq_false (show ¬(a.length:Int) < ((ZuL a a).length:Int) by omega),cond_false,ZnG]
 rintro _ rfl;dsimp only;unfold ZpL;rw[ZnI];refine Zn6 (ZGT (K:=ka.Cells) (V:=va.Cells) hv (by omega) hl va.Name _) ?_;rintro _ rfl;unfold ZpK ZoR;dsimp only;have hlen:((ZuL a a).map ZyM).length=(mpb (Zx7 (ZtP ka.Cells va.Cells))).length:=by rw[ZHY,hself,ZHY,ZBs,hea,ZBw]
 rw[ZnJ,hlen,show ∀z:Int,(z == z)=true from fun z=>by simp,cond_true,ZBL,ZnI,ZnG,ZnG];exact⟨decide_eq_true (by rw[←hlen,ZHY,hself,ZHY];unfold Zq;omega),rfl⟩
theorem correlationKeys_law (t:List Int):Zo6 t=some true:=by
 refine ZqS ?_;unfold Zo6 Zsk;rw[ZnI,ZnG,Zn9];refine⟨fun _=>by rw[ZBL,ZnI,ZnG,ZnG],fun hl=> ?_⟩;simp only[Bool.not_eq_false',decide_eq_true_eq]at hl;unfold ZsJ;rw[ZnI,ZnG,ZnI];refine Zn6 (Zyj (d:=⟨t,0⟩) ⟨by simp,by simp,by simp only;omega⟩ (n:=8) (by omega)) ?_;rintro⟨n,d1⟩ ⟨hn,hd1⟩;dsimp only at hn hd1⊢
 obtain⟨n,rfl⟩:=Int.eq_ofNat_of_zero_le hn.1;rw[ZnI];refine Zn6 (Zyj hd1 (n:=8) (by omega)) ?_;rintro⟨m,d2⟩ ⟨hm,hd2⟩;dsimp only at hm hd2⊢
 obtain⟨m,rfl⟩:=Int.eq_ofNat_of_zero_le hm.1;rw[ZnI];refine Zn6 (Zyw hd2 n (by omega)) ?_;rintro⟨ka,d3⟩ ⟨⟨h1,hka⟩,hd3⟩;dsimp only at h1 hka hd3⊢
 rw[ZnI];refine Zn6 (Zyw hd3 n (by omega)) ?_;rintro⟨va,d4⟩ ⟨⟨h2,hva⟩,hd4⟩;dsimp only at h2 hva hd4⊢
 rw[ZnI];refine Zn6 (Zyw hd4 m (by omega)) ?_;rintro⟨kb,d5⟩ ⟨⟨h3,hkb⟩,hd5⟩;dsimp only at h3 hkb hd5⊢
 rw[ZnI];refine Zn6 (Zyw hd5 m (by omega)) ?_;rintro⟨vb,d6⟩ ⟨⟨h4,hvb⟩,hd6⟩;dsimp only at h4 hvb hd6⊢
 have ga:=ZyA (V:=va.Cells) hka (by omega);have gb:=ZyA (V:=vb.Cells) hkb (by omega);have la:(ZvM ka.Cells va.Cells).length≤12:=by unfold ZvM;rw[ZsS];exact ZH7 Zys (by omega)
 have lb:(ZvM kb.Cells vb.Cells).length≤12:=by unfold ZvM;rw[ZsS];exact ZH7 Zys (by omega)
 have e1:=ZAH hka hva (by omega) (by omega);have e2:=ZAH hkb hvb (by omega) (by omega);have p1:Zoo ka va kb vb=some ((ZuL (ZvM ka.Cells va.Cells) (ZvM kb.Cells vb.Cells)).map ZyM):=by unfold Zoo;rw[e1,ZH8,e2,ZH8,Zy3 (Zzy _ _) ga gb (by omega) (by omega),ZH8]
 have p2:Zoo kb vb ka va=some ((ZuL (ZvM kb.Cells vb.Cells) (ZvM ka.Cells va.Cells)).map ZyM):=by unfold Zoo;rw[e2,ZH8,e1,ZH8,Zy3 (Zzy _ _) gb ga (by omega) (by omega),ZH8]
 have p3:Zoo ka va ka va=some ((ZuL (ZvM ka.Cells va.Cells) (ZvM ka.Cells va.Cells)).map ZyM):=by unfold Zoo;rw[e1,ZH8,ZH8,Zy3 (Zzy _ _) ga ga (by omega) (by omega),ZH8]
 rw[p1,ZnI,ZnG,p2,ZnI,ZnG,p3,ZnI,ZnG];have hsw:(ZuL (ZvM kb.Cells vb.Cells) (ZvM ka.Cells va.Cells)).length=(ZuL (ZvM ka.Cells va.Cells) (ZvM kb.Cells vb.Cells)).length:=by rw[ZzW _ _ _ (ZH6 _),ZHY]
 have hself:(ZuL (ZvM ka.Cells va.Cells) (ZvM ka.Cells va.Cells)).length=(ZvM ka.Cells va.Cells).length:=by rw[ZyX,ZHY]
 have hle:=ZAI _ (ZvM ka.Cells va.Cells) (ZvM kb.Cells vb.Cells) (ZH6 _);rw[ZHY,ZHY,ZHY,hsw,show ∀z:Int,(z != z)=false from fun z=>by simp,cond_false,decide_eq_false (by omega),ZCi hka hva (by omega) (by omega) rfl gb (by omega),ZnG]
end Go.Proofs
namespace Eng
open Go Go.Lib
theorem globOk_one {Pg:Program} {w:World} {n:String} {g:Nat} {t e:TypeId} {k:IntKind} {z:Int} (hn:Pg.globalNamed n=some g) (hty:(Pg.globals[g]?).map (·.type)=some t)
  (ht:Pg.underlying t=some (.slice e)) (he:Pg.underlying e=some (.int k)) (hce:Pg.cellsOf e=1) (hz:k.min≤z∧z≤k.max)
  (h:VarReads Pg w n (.slice [.lit (.int k z)] [])):Zej w (fun b=>b < w.heap.size) g [P.sl 1 [.int k z]]:=by
 obtain⟨g',t',cs,fuel,p,hg,hty',hvar,hd⟩:=h;obtain rfl:=ZH9 (hn.symm.trans hg);obtain rfl:=ZH9 (hty.symm.trans hty');rcases DataW.trod_slice ht hd with ⟨_,hx⟩ |⟨a,len,cap,elems,rest,m,_,hcs,hx,_,hl,hcap,hlen,hel,_,_⟩
 ·cases congrArg Prod.fst hx
 ·have e0:=congrArg Prod.fst hx;simp only[DataW.slice.injEq]at e0;obtain⟨e1,_⟩:=e0
  match elems,e1 with
  | [(d,q)],e1=>
   simp only[ZH2,List.map_nil,List.cons.injEq,and_true]at e1;subst e1;have hlen1:len=1:=by simpa using hlen.symm
   subst hlen1;obtain⟨ci,hci,htr⟩:=Option.bind_eq_some_iff.1 (hel 0 (by decide));obtain⟨z',hc,hxx,_⟩:=DataW.trod_int he htr;have hzz:z'=z:=by have:=congrArg Prod.fst hxx;simpa using this.symm
   subst hzz;subst hc;rw[hce,Nat.zero_mul]at hci;obtain⟨_,_,hc2⟩:=World.cells?_some hci;have h0:=hc2 0 (by decide);have hb:w.cell? a=some (.int k z'):=by simpa[Addr.add]using h0
   have hspot:a.spot=none:=by
    unfold World.cell? at hb;cases hs:a.spot with
    |none=>rfl
    |some s=>rw[hs]at hb;split at hb<;>simp at hb
   have ha:a=⟨a.block,a.off,none⟩:=by cases a;simp at hspot;subst hspot;rfl
   have hlt:a.block < w.heap.size:=ZjV (by rw[ha]at hb;exact hb);have hcs1:cs.size=1:=by have:=congrArg List.length hcs;simpa using this
   refine ZxW (t:=0) (fr:= #[]) (ZyO hn hvar) _ (by rw[hcs1];rfl) fun j v p hv hp=> ?_
   have hj:j=0:=by have:=(Array.getElem?_eq_some_iff.1 hv).1;omega
   subst hj;simp only[ZHQ,Option.some.injEq]at hp;subst hp;rw[←Array.getElem?_toList,hcs]at hv;simp only[ZHQ,Option.some.injEq]at hv;subst hv;refine⟨.sl (some a) 1 cap _ _ (fun _=> .int k z') rfl (by decide) hl (fun i hi=>rfl) (fun i hi=> ?_) (fun i x hx=> ?_),rfl⟩
   ·have hi0:i=0:=by omega
    subst hi0;refine⟨a.block,a.off,by rw[←ha],hlt,fun j v hv=> ?_⟩;have hj:=(Array.getElem?_eq_some_iff.1 hv).1;have hj0:j=0:=by have:(Value.int k z').cells.size=1:=rfl;omega
    subst hj0;have hvv:v= .int k z':=by have:(Value.int k z').cells[0]? =some (.int k z'):=rfl;exact ZH9 (hv.symm.trans this)
    subst hvv;rw[ha]at hb;simpa using hb
   ·have hi0:i=0:=by have:=(ZHS.1 hx).1;simp at this;omega
    subst hi0;simp only[ZHQ,Option.some.injEq]at hx;subst hx;exact .int k z' hz.1 hz.2
end Eng
