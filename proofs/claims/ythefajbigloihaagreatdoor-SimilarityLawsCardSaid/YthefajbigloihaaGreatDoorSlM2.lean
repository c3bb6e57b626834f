/- Plain laws over the specs, part 2. -/
import Derived.Test.YthefajbigloihaaGreatDoorSlM1
import Derived.Test.YthefajbigloihaaGreatDoorQ
set_option linter.unusedVariables false
set_option linter.unusedSimpArgs false
set_option linter.unusedSectionVars false
open List renaming take_succ_eq_append_getElem→ZD6, getElem?_cons_zero→ZBO
open Option renaming bind_some→ZD7
namespace Go.Proofs
open Go Eng
theorem ZxB {a b:List Str} (ha:a.length≤1000000):ZoJ a b=some (decide (a=b)):=by
 unfold ZoJ
 by_cases hl:a.length=b.length
 ·rw[show ((a.length:Int) != (b.length:Int))=false by rw[hl];simp,cond_false];have key:wp (Zoo big b a (a.length:Int) 0) (fun x=>x=if a=b then .brk ()else .ret false):=by
   refine Zxk ZtD a (by omega) (fun i (_:Unit)=>(b,a,(a.length:Int),i)) (fun k _=>a.take k=b.take k) () (by simp) ?_ ?_
   ·rintro rec k _ hk he ih;unfold ZpD ZoI;dsimp only;have hkb:k < b.length:=by omega
    rw[decide_eq_true (show (k:Int) < (a.length:Int) by omega),cond_true,ZvD hk,ZD7,ZvD hkb,ZD7]
    by_cases h:b[k]=a[k]
    ·rw[show (b[k] == a[k])=true by simpa using h,Bool.not_true,cond_false,ZnH];refine⟨ZnJ (by omega),ih () ?_⟩;rw[ZD6 hk,ZD6 hkb,he,h]
    ·rw[show (b[k] == a[k])=false by simpa using h,Bool.not_false,cond_true,ZnD,if_neg];intro e;subst e;exact h rfl
   ·rintro rec _ he;unfold ZpD ZoI;dsimp only;rw[decide_eq_false (show ¬(a.length:Int) < (a.length:Int) by omega),cond_false,ZnD,if_pos];have h2:=he;rw[List.take_length,hl,List.take_length]at h2;exact h2
  obtain⟨x,hx,rfl⟩:=key;rw[hx,ZD7]
  by_cases h:a=b
  ·rw[if_pos h,decide_eq_true h];rfl
  ·rw[if_neg h,decide_eq_false h]
 ·rw[show ((a.length:Int) != (b.length:Int))=true by simp;omega,cond_true,decide_eq_false (fun e=>hl (by rw[e]))]
theorem Zzx {l r:List Str} (h1:r.Pairwise (fun a b=>a≤b)) (h2:r.Nodup) (h:∀x,x∈l↔x∈r):ZtU l=r:=
 Zvh (ZvL l) h1 (ZtT l) h2 fun x=>by rw[Ztr,h]
def ZxP:Str:=[85,110,105,116,32,80,114,105,99,101,95,50]
def ZvZ:ZnG:=⟨ZxP,[⟨false,[49]⟩,⟨false,[120]⟩]⟩
theorem Zyo:ZtS ZxP=[[50],[112,114,105,99,101],[117,110,105,116]]:=by
 have e:Zvq (ZxP++[32]) []=[[117,110,105,116],[112,114,105,99,101],[50]]:=by decide+kernel
 unfold ZtS;rw[e];exact Zzx (by decide+kernel) (by decide+kernel) (fun x=>by simp only[List.mem_cons,List.not_mem_nil,or_false];constructor<;>(rintro(h |h |h)<;>simp[h]))
theorem ZBj:ZwP ZvZ:=⟨by decide,by decide,fun x hx=>by
 simp only[ZvZ,List.mem_cons,List.not_mem_nil,or_false]at hx;rcases hx with rfl |rfl
 ·exact ZuV (by kernel_rfl)
 ·exact ZuV (by kernel_rfl)⟩
theorem Zzm:ZqR ZvZ.Cells≠[]:=by
 intro h;have:([49]:Str)∈ZqR ZvZ.Cells:=by unfold ZqR;rw[Ztr];decide+kernel
 rw[h]at this;simp at this
theorem ZA4:isN ⟨false,[49]⟩=true:=by
 unfold isN;cases h:nv ⟨false,[49]⟩with
 |some q=>rfl
 |none=>
  obtain⟨f,hf⟩:=Zy0 (ZuV (by kernel_rfl)) h;have h1:=of_decide_eq_true (List.all_eq_true.1 Zy2 ([49],1) (by decide+kernel));rw[hf]at h1;simp at h1
theorem ZDz:isN ⟨false,[120]⟩=false:=by
 unfold isN;cases h:nv ⟨false,[120]⟩with
 |none=>rfl
 |some q=>
  have hf:=(ZyZ h).1;have h1:=List.all_eq_true.1 Zz5 [120] (by decide+kernel);rw[hf]at h1;simp at h1
theorem ZzW:ZsG ZvZ.Cells=1 / 2:=by
 unfold ZsG ZzI Zwa;have e1:(ZvZ.Cells.filter fun x=> !x.Null&&isN x)=[⟨false,[49]⟩]:=by simp[ZvZ,ZA4,ZDz]
 have e2:(ZvZ.Cells.filter fun x=> !x.Null)=ZvZ.Cells:=by decide+kernel
 rw[e1,e2];decide+kernel
theorem Zx3:Zoa 1=some (fOf 1):=Zyl 1 (by decide) (by decide)
theorem ZxF:ZnV 1 2=some (fOf (1 / 2)):=by rw[Zwx 1 2 (by decide) (by decide) (by decide) (by decide) (by decide)];congr 2;decide+kernel
theorem Zxc:Sz 2 (1 / 2):=by unfold Sz;decide+kernel
theorem ZwM:ZnZ=some true:=by
 unfold ZnZ ZoV;show (Zoz ZxP).bind _=_;rw[Zwo (by decide),ZD7,Zyo,ZxB (by decide),ZD7,decide_eq_true rfl,cond_true];show (ZpP ZvZ ZvZ).bind _=_;have e:ZyI ZvZ ZvZ=1:=by rw[ZxL,if_neg (by rw[show ZvZ.Name=ZxP from rfl,Zyo];simp),if_neg Zzm]
 rw[Zyn ZBj ZBj,ZD7,e,Zx3,ZD7,Zt3 _ _ (Zwj.wq (by decide)) (Zwj.wq (by decide)),ZD7,decide_eq_true rfl,cond_true];show (Zo7 ZvZ).bind _=_;rw[Zxd ZBj.cells (by decide),ZD7,ZzW,ZxF,ZD7,Zt3 _ _ (Zxc.wq (by decide)) (Zxc.wq (by decide)),ZD7,decide_eq_true rfl]
end Go.Proofs
namespace Go.Proofs
open Go Eng
theorem ZyY:ZnV 3 4=some (fOf (3 / 4)):=by rw[Zwx 3 4 (by decide) (by decide) (by decide) (by decide) (by decide)];congr 2;decide+kernel
theorem ZBK:Sz 3 (3 / 4):=by unfold Sz;decide+kernel
theorem ZzS (l:List ZnC):(l.any fun c=> !c.Null)=decide (ZqR l≠[]):=by
 rw[Bool.eq_iff_iff,decide_eq_true_eq,List.any_eq_true];constructor
 ·rintro⟨c,hc,hn⟩ e;have:c.Text∈ZqR l:=by unfold ZqR ZxA;rw[Ztr];exact List.mem_map.2 ⟨c,List.mem_filter.2 ⟨hc,hn⟩,rfl⟩
  rw[e]at this;simp at this
 ·intro h;obtain⟨x,hx⟩:=List.exists_mem_of_ne_nil _ h;unfold ZqR ZxA at hx;rw[Ztr]at hx;obtain⟨c,hc,_⟩:=List.mem_map.1 hx;exact⟨c,(List.mem_filter.1 hc).1,(List.mem_filter.1 hc).2⟩
theorem ZAZ {a:ZnG} (ha:ZwP a):Zos (decide (ZqR a.Cells≠[])) a=some true:=by
 unfold Zos;have hn:=ha.name;rw[Zyn ha ha,ZD7,Zwo (by omega),ZD7,ZxL];unfold Zox Zow Zov Zou Zot
 by_cases h1:ZtS a.Name=[]
 ·rw[h1,show decide (((([]:List Str)).length:Int) > 0)=false from rfl,cond_false,cond_false,cond_false,if_pos rfl]
  by_cases h2:ZqR a.Cells=[]
  ·rw[if_pos h2,decide_eq_false (not_not_intro h2),cond_false,Zxp,ZD7,Zt3 _ _ (ZvS.wq (by decide)) (ZvS.wq (by decide)),ZD7,decide_eq_true rfl,cond_true,ZwM,ZD7]
  ·rw[if_neg h2,decide_eq_true h2,cond_true,ZyY,ZD7,Zt3 _ _ (ZBK.wq (by decide)) (ZBK.wq (by decide)),ZD7,decide_eq_true rfl,cond_true,ZwM,ZD7]
 ·have hl:0 < (ZtS a.Name).length:=List.length_pos_iff.2 h1;rw[decide_eq_true (show ((ZtS a.Name).length:Int) > 0 by omega),cond_true,if_neg h1]
  by_cases h2:ZqR a.Cells=[]
  ·rw[if_pos h2,decide_eq_false (not_not_intro h2),cond_false,cond_true,ZxF,ZD7,Zt3 _ _ (Zxc.wq (by decide)) (Zxc.wq (by decide)),ZD7,decide_eq_true rfl,cond_true,ZwM,ZD7]
  ·rw[if_neg h2,decide_eq_true h2,cond_true,Zx3,ZD7,Zt3 _ _ (Zwj.wq (by decide)) (Zwj.wq (by decide)),ZD7,decide_eq_true rfl,cond_true,ZwM,ZD7]
theorem ZA0 {a:ZnG} (ha:ZwP a):ZnO false a=some true:=by
 refine ZqZ ?_;unfold ZnO;have hr:=ha.rows;rw[cond_false,ZnF];refine Zn7 (Zxk ZsV a.Cells (by omega) (fun i (f:Bool)=>(f,a.Cells,(a.Cells.length:Int),i,a)) (fun k f=>f=(a.Cells.take k).any fun c=> !c.Null)
  (Q:=fun x=>x=(a.Cells.any (fun c=> !c.Null),a)) false (by simp) ?_ ?_) ?_
 ·rintro rec k f hk hf ih;unfold ZoZ Zoj Zoy;dsimp only;rw[decide_eq_true (show (k:Int) < (a.Cells.length:Int) by omega),cond_true,ZvD hk,ZD7];have hs:(a.Cells.take (k+1)).any (fun c=> !c.Null)=(f|| !a.Cells[k].Null):=by rw[ZD6 hk,List.any_append,←hf];simp
  cases f with
  |true=>rw[cond_true,ZnH];exact⟨ZnJ (by omega),ih true (by rw[hs];rfl)⟩
  |false=>rw[cond_false,ZnH];exact⟨ZnJ (by omega),ih _ (by rw[hs];rfl)⟩
 ·rintro rec f hf;unfold ZoZ Zoj;dsimp only;rw[decide_eq_false (show ¬(a.Cells.length:Int) < (a.Cells.length:Int) by omega),cond_false,ZnD,hf,List.take_length]
 ·rintro x rfl;dsimp only;rw[ZzS,ZAZ ha,ZnD]
theorem Zz9 {c:ZnG} {n:Nat} (h:c.Name.length≤10∧c.Cells.length=n∧∀x∈c.Cells,Zwh x) (hn:n≤14):ZwP c:=⟨by have:=h.1;omega,by have:=h.2.1;omega,h.2.2⟩
theorem similarityLaws_law (t:List Int):ZoK t=some true:=by
 refine ZqZ ?_;unfold ZoK Zrm;rw[ZnF,ZnD,ZnT];refine⟨fun _=>by rw[ZwM,ZnF,ZnD,ZnD],fun hl=> ?_⟩;simp only[Bool.not_eq_false',decide_eq_true_eq]at hl;unfold ZrA;rw[ZnF,ZnD,ZnF];refine Zn7 (ZvW (d:=⟨t,0⟩) ⟨by simp,by simp,by simp only;omega⟩ (n:=7) (by omega)) ?_;rintro⟨q2,d1⟩ ⟨hq2,hd1⟩;dsimp only at hq2 hd1⊢
 obtain⟨m,rfl⟩:∃m:Nat,q2=(m:Int):=⟨q2.toNat,by omega⟩;rw[ZnF];refine Zn7 (ZxK hd1 m (by omega)) ?_;rintro⟨a,d2⟩ ⟨ha0,hd2⟩;dsimp only at ha0 hd2⊢
 have ha:=Zz9 ha0 (by omega);rw[ZnF];refine Zn7 (ZvW hd2 (n:=7) (by omega)) ?_;rintro⟨q3,d3⟩ ⟨hq3,hd3⟩;dsimp only at hq3 hd3⊢
 obtain⟨m',rfl⟩:∃m':Nat,q3=(m':Int):=⟨q3.toNat,by omega⟩;rw[ZnF];refine Zn7 (ZxK hd3 m' (by omega)) ?_;rintro⟨b,d4⟩ ⟨hb0,hd4⟩;dsimp only at hb0 hd4⊢
 have hb:=Zz9 hb0 (by omega);have hz:=(ZBc ha hb).wq (by decide);have hb1:=Zx5 a b;have hn:=(Zxh ha.name hb.name).wq (by decide);rw[Zyn ha hb,ZD7,Zyn hb ha,ZD7,Zzh b a,Zt3 _ _ hz hz,ZD7,decide_eq_true rfl,Bool.not_true,cond_false,Zxp,ZD7,Zy6 hz (ZvS.wq (by decide)),ZD7,
  decide_eq_false (by grind),cond_false,Zx3,ZD7,Zzi hz (Zwj.wq (by decide)),ZD7,decide_eq_false (fun h=>absurd ((ZyW _ _).1 h) (by grind)),cond_false,Zxi ha.name hb.name,ZD7,Zxi hb.name ha.name,ZD7,
  ZvV (ZuD b.Name).2 (ZuD a.Name).2,Zt3 _ _ hn hn,ZD7,decide_eq_true rfl,Bool.not_true,ZA0 ha,ZnD]
end Go.Proofs
namespace Eng
open Go Go.Lib
theorem globOk_one {Pg:Program} {w:World} {n:String} {g:Nat} {t e:TypeId} {k:IntKind} {z:Int} (hn:Pg.globalNamed n=some g) (hty:(Pg.globals[g]?).map (·.type)=some t)
  (ht:Pg.underlying t=some (.slice e)) (he:Pg.underlying e=some (.int k)) (hce:Pg.cellsOf e=1) (hz:k.min≤z∧z≤k.max)
  (h:VarReads Pg w n (.slice [.lit (.int k z)] [])):Zej w (fun b=>b < w.heap.size) g [P.sl 1 [.int k z]]:=by
 obtain⟨g',t',cs,fuel,p,hg,hty',hvar,hd⟩:=h;obtain rfl:=Option.some.inj (hn.symm.trans hg);obtain rfl:=Option.some.inj (hty.symm.trans hty');rcases DataW.trod_slice ht hd with ⟨_,hx⟩ |⟨a,len,cap,elems,rest,m,_,hcs,hx,_,hl,hcap,hlen,hel,_,_⟩
 ·cases congrArg Prod.fst hx
 ·have e0:=congrArg Prod.fst hx;simp only[DataW.slice.injEq]at e0;obtain⟨e1,_⟩:=e0
  match elems,e1 with
  | [(d,q)],e1=>
   simp only[List.map_cons,List.map_nil,List.cons.injEq,and_true]at e1;subst e1;have hlen1:len=1:=by simpa using hlen.symm
   subst hlen1;obtain⟨ci,hci,htr⟩:=Option.bind_eq_some_iff.1 (hel 0 (by decide));obtain⟨z',hc,hxx,_⟩:=DataW.trod_int he htr;have hzz:z'=z:=by have:=congrArg Prod.fst hxx;simpa using this.symm
   subst hzz;subst hc;rw[hce,Nat.zero_mul]at hci;obtain⟨_,_,hc2⟩:=World.cells?_some hci;have h0:=hc2 0 (by decide);have hb:w.cell? a=some (.int k z'):=by simpa[Addr.add]using h0
   have hspot:a.spot=none:=by
    unfold World.cell? at hb;cases hs:a.spot with
    |none=>rfl
    |some s=>rw[hs]at hb;split at hb<;>simp at hb
   have ha:a=⟨a.block,a.off,none⟩:=by cases a;simp at hspot;subst hspot;rfl
   have hlt:a.block < w.heap.size:=ZjV (by rw[ha]at hb;exact hb);have hcs1:cs.size=1:=by have:=congrArg List.length hcs;simpa using this
   refine ZvF (t:=0) (fr:= #[]) (Zwt hn hvar) _ (by rw[hcs1];rfl) fun j v p hv hp=> ?_
   have hj:j=0:=by have:=(Array.getElem?_eq_some_iff.1 hv).1;omega
   subst hj;simp only[ZBO,Option.some.injEq]at hp;subst hp;rw[←Array.getElem?_toList,hcs]at hv;simp only[ZBO,Option.some.injEq]at hv;subst hv;refine⟨.sl (some a) 1 cap _ _ (fun _=> .int k z') rfl (by decide) hl (fun i hi=>rfl) (fun i hi=> ?_) (fun i x hx=> ?_),rfl⟩
   ·have hi0:i=0:=by omega
    subst hi0;refine⟨a.block,a.off,by rw[←ha],hlt,fun j v hv=> ?_⟩;have hj:=(Array.getElem?_eq_some_iff.1 hv).1;have hj0:j=0:=by have:(Value.int k z').cells.size=1:=rfl;omega
    subst hj0;have hvv:v= .int k z':=by have:(Value.int k z').cells[0]? =some (.int k z'):=rfl;exact Option.some.inj (hv.symm.trans this)
    subst hvv;rw[ha]at hb;simpa using hb
   ·have hi0:i=0:=by have:=(List.getElem?_eq_some_iff.1 hx).1;simp at this;omega
    subst hi0;simp only[ZBO,Option.some.injEq]at hx;subst hx;exact .int k z' hz.1 hz.2
end Eng
