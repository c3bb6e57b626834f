/- Plain laws over the specs, part 3. -/
import Derived.Test.YthefajbigloihaaGreatDoorQoM2
import Derived.Test.YthefajbigloihaaGreatDoorQoM1
import Derived.Test.YthefajbigloihaaGreatDoorQ
set_option linter.unusedVariables false
set_option linter.unusedSimpArgs false
set_option linter.unusedSectionVars false
open Bool renaming not_true→ZLj
open Int renaming toNat_natCast→ZOL
open List renaming getElem_mem→ZOO, length_singleton→ZOQ, length_append→ZOP, mem_singleton→ZOT, mem_append→ZOS, length_take→ZOR, getElem?_eq_getElem→ZON, take_of_length_le→ZOU, take_succ_eq_append_getElem→ZOV, getElem?_cons_zero→ZOM
open Nat renaming le_refl→ZOW
open Option renaming bind_some→ZOX, some.inj→ZOY
namespace Go.Proofs
open Go Eng
structure ZDO (t:ZnB):Prop where
 id:0≤t.ID∧t.ID≤1000
 name:t.Name∈ZB0
 cols:t.Columns.length≤3
 rows:∃n:Nat,n≤6∧∀c∈t.Columns,ZIl n c
def ZBV (t:ZnB):Int:=match t.Columns with | []=>0 |c::_=>c.Cells.length
theorem ZFY {t:ZnB} {n:Nat} (hc:∀c∈t.Columns,ZIl n c) (h:t.Columns≠[]):ZBV t=(n:Int):=by
 unfold ZBV;cases hcs:t.Columns with
 |nil=>exact absurd hcs h
 |cons c l=>rw[←(hc c (by rw[hcs];simp)).2.1]
theorem ZHM {t:ZnB} (h:ZDO t):0≤ZBV t∧ZBV t≤6:=by
 obtain⟨n,hn,hc⟩:=h.rows
 by_cases h0:t.Columns=[]
 ·unfold ZBV;rw[h0];decide
 ·rw[ZFY hc h0];omega
theorem ZFX (t:ZnB):Zrk t=some (ZBV t):=by
 unfold Zrk ZBV;cases t.Columns with
 |nil=>rfl
 |cons c l=>
  have:(((c::l).length:Int) == 0)=false:=by rw[List.length_cons,beq_eq_false_iff_ne];omega
  rw[this];rfl
theorem ZGS {s:Str} (h:s∈ZB0):Zrj s=some true:=by have:=(dok h).2;unfold Zrj ZtV Zq0;rw[(dok h).1,ZOX,ZOX,cond_true,decide_eq_true (show (s.length:Int)≤1024 by omega)]
theorem ZHN {x:ZnQ} (h:ZDo x):ZqQ x=some true:=by have h2:=dok (ZE1 h);unfold ZqQ Zo4 Zq0;rw[h2.1,ZOX,ZOX,cond_true,decide_eq_true (show (x.Text.length:Int)≤1024 by omega),cond_true];rcases h with rfl |⟨s,_,rfl⟩<;>rfl
theorem ZD3 {t:ZnB} (h:ZDO t):Zp0 t=some true:=by
 obtain⟨n,hn,hc⟩:=h.rows;have hcols:=h.cols;have hid:=h.id;refine ZrY ?_;unfold Zp0 ZpZ;rw[decide_eq_false (show ¬t.ID < 0 by omega),cond_false,decide_eq_false (show ¬t.ID > 1073741824 by omega),cond_false,ZGS h.name,ZOX,ZLj,cond_false,decide_eq_false (show ¬(t.Columns.length:Int) > 64 by omega),cond_false,ZnE];refine ZnM (Zxm ZAX t.Columns (by omega) (fun i (_:Unit)=>(t.Columns,(t.Columns.length:Int),i,t)) (fun _ _=>True) (Q:=fun x=>x= .brk ()) () trivial ?_ ?_) ?_
 ·rintro rec k _ hk _ ih;have h1:=hc _ (ZOO hk);have h0:0 < t.Columns.length:=by omega
  have h2:=(hc _ (ZOO h0)).2.1;have h3:=h1.2.1;unfold Zvf Zsz Zq7;dsimp only;rw[decide_eq_true (show (k:Int) < (t.Columns.length:Int) by omega),cond_true,ZsQ hk,ZOX,ZGS h1.1,ZOX,ZLj,cond_false,decide_eq_false (show ¬(t.Columns[k].Cells.length:Int) > 4096 by omega),cond_false,show idx t.Columns 0=some t.Columns[0]from ZsQ h0,ZOX,h2,h3,show ((n:Int) != (n:Int))=false by simp,cond_false,←h3,ZnE];have hx:=h1.2.2;generalize t.Columns[k].Cells=l at hx h3;refine ZnM (Zxm ZAW l (by omega) (fun i (_:Unit)=>(t.Columns,(t.Columns.length:Int),(k:Int),l,(l.length:Int),i,t)) (fun _ _=>True) (Q:=fun x=>x= .brk (t.Columns,(t.Columns.length:Int),(k:Int),t)) () trivial ?_ ?_) ?_
  ·rintro rec2 j _ hj _ ih2;unfold Zve Zsy;dsimp only;rw[decide_eq_true (show (j:Int) < (l.length:Int) by omega),cond_true,ZsQ hj,ZOX,ZHN (hx _ (ZOO hj)),ZOX,ZLj,cond_false,ZnH];exact⟨ZnI (by omega),ih2 () trivial⟩
  ·rintro rec2 _ _;unfold Zve Zsy;dsimp only;rw[decide_eq_false (show ¬(l.length:Int) < (l.length:Int) by omega),cond_false,ZnD]
  ·rintro _ rfl;dsimp only;unfold Zv0;rw[ZnH];exact⟨ZnI (by omega),ih () trivial⟩
 ·rintro rec _ _;unfold Zvf Zsz;dsimp only;rw[decide_eq_false (show ¬(t.Columns.length:Int) < (t.Columns.length:Int) by omega),cond_false,ZnD]
 ·rintro _ rfl;dsimp only;unfold ZvZ;rw[ZnD]
theorem ZHH {d:ZnA} (hd:ZsF d) {id:Int} (hid:0≤id∧id≤1000):wp (Zt9 d id) (fun r=>(ZDO r.1∧r.1.ID=id)∧ZsF r.2):=by
 unfold Zt9;rw[ZnE];refine ZnM (ZDD hd (by decide) (by decide)) ?_;rintro⟨nm,d1⟩ ⟨hnm0,hd1⟩;dsimp only at hnm0 hd1⊢
 have hnm:nm∈ZB0:=ZI5 (by decide+kernel) hnm0;rw[ZnE];refine ZnM (Zx7 hd1 (n:=7) (by omega)) ?_;rintro⟨q,d2⟩ ⟨hq,hd2⟩;dsimp only at hq hd2⊢
 obtain⟨n,rfl⟩:∃n:Nat,q=(n:Int):=⟨q.toNat,by omega⟩;rw[ZnE];refine ZnM (Zx7 hd2 (n:=3) (by omega)) ?_;rintro⟨q,d3⟩ ⟨hq3,hd3⟩;dsimp only at hq3 hd3⊢
 obtain⟨m,hm⟩:∃m:Nat,1+q=(m:Int):=⟨(1+q).toNat,by omega⟩;rw[hm,ZnH,ZnE];refine⟨ZnI (by omega),ZnM (ZoV ZBD (fun s:Nat×ZnA×List ZnO=>((n:Int),(s.1:Int),s.2.1,(0:Int),([]:Str),id,nm,([]:List ZnO),s.2.2))
  (fun s=>ZsF s.2.1∧s.2.2.length+s.1=m∧∀c∈s.2.2,ZIl n c) (fun s=>s.1)
  (Q:=fun x=>∃d cs,x=(d,(0:Int),([]:Str),id,nm,([]:List ZnO),cs)∧ZsF d∧cs.length≤3∧∀c∈cs,ZIl n c) (m,d3,[]) ⟨hd3,by simp,fun c hc=>absurd hc (by simp)⟩ (by dsimp only;omega) ?_) ?_⟩
 ·rintro rec ⟨k,d,cs⟩ ⟨h1,h2,h3⟩ ih;dsimp only at h1 h2 h3 ih;unfold ZyZ Zwa;dsimp only
  by_cases hk:0 < k
  ·rw[decide_eq_true (show (k:Int) > 0 by omega),cond_true,ZnE];refine ZnM (ZFq h1 n (by omega)) ?_;rintro⟨c,d'⟩ ⟨hc,hd'⟩;dsimp only at hc hd'⊢
   rw[ZnH,ZnH,show (k:Int) - 1=((k - 1:Nat):Int) by omega];refine⟨Zvm (by rw[ZOQ];omega),ZnI (by omega),ih (k - 1,d',cs++[c]) ⟨hd',by dsimp only;rw[ZOP,ZOQ];omega,fun x hx=> ?_⟩ (by dsimp only;omega)⟩;rcases ZOS.1 hx with hx |hx
   ·exact h3 x hx
   ·rw[ZOT.1 hx];exact hc
  ·rw[decide_eq_false (show ¬(k:Int) > 0 by omega),cond_false,ZnD];exact⟨d,cs,rfl,h1,by omega,h3⟩
 ·rintro _ ⟨d,cs,rfl,h1,h2,h3⟩;unfold Zxe ZuF;dsimp only;rw[ZnE];refine ZnM (Zx7 h1 (n:=15) (by omega)) ?_;rintro⟨q,d'⟩ ⟨_,hd'⟩;dsimp only at hd'⊢
  rw[ZnV];refine⟨fun _=> ?_,fun _=> ?_⟩
  ·rw[ZnD];exact⟨⟨⟨hid,hnm,by simp,0,by omega,fun c hc=>absurd hc (by simp)⟩,rfl⟩,hd'⟩
  ·rw[ZnD];exact⟨⟨⟨hid,hnm,h2,n,by omega,h3⟩,rfl⟩,hd'⟩
theorem ZG7 {t:ZnB} (h:ZDO t):Zrg t=some t:=by
 obtain⟨n,hn,hc⟩:=h.rows;have hl:=h.cols;refine ZrY ?_;unfold Zrg;rw[ZnE];refine ZnM (Zxm ZBf t.Columns (by omega) (fun i (cs:List ZnO)=>(t.Columns,(t.Columns.length:Int),i,(0:Int),([]:Str),t.ID,t.Name,([]:List ZnO),cs)) (fun k cs=>cs=t.Columns.take k)
  (Q:=fun x=>x=((0:Int),([]:Str),t.ID,t.Name,([]:List ZnO),t.Columns)) [] rfl ?_ ?_) ?_
 ·rintro rec k cs hk rfl ih;unfold ZvF ZsZ;dsimp only;have h1:=hc _ (ZOO hk);rw[decide_eq_true (show (k:Int) < (t.Columns.length:Int) by omega),cond_true,ZsQ hk,ZOX,ZnH,ZnH,ZnH];refine⟨Zvm (by rw[h1.2.1];omega),Zvm (by rw[ZOR,ZOQ];omega),ZnI (by omega),ih _ (ZOV hk).symm⟩
 ·rintro rec cs rfl;unfold ZvF ZsZ;dsimp only;rw[decide_eq_false (show ¬(t.Columns.length:Int) < (t.Columns.length:Int) by omega),cond_false,ZnD,List.take_length]
 ·rintro _ rfl;unfold ZwC;dsimp only;rw[ZnD]
theorem ZGi {t:ZnB} (h:ZDO t) {l:List Int} (hl:l.length≤3) (hk:∀k∈l,0≤k∧k < (t.Columns.length:Int)):wp (Zrx t l) (fun r=>ZDO r.1∧r.1.ID=t.ID):=by
 obtain⟨n,hn,hc⟩:=h.rows;have hcols:=h.cols;unfold Zrx;rw[ZD3 h,ZOX,ZLj,cond_false,ZnE];refine ZnM (Zxm ZAy l (by omega) (fun i (cs:List ZnO)=>(l,l,(l.length:Int),i,t,(0:Int),([]:Str),t.ID,t.Name,([]:List ZnO),cs)) (fun k cs=>cs.length=k∧∀c∈cs,ZIl n c)
  (Q:=fun x=>∃cs,x= .brk (l,(0:Int),([]:Str),t.ID,t.Name,([]:List ZnO),cs)∧cs.length≤3∧∀c∈cs,ZIl n c) [] ⟨rfl,fun c hc=>absurd hc (by simp)⟩ ?_ ?_) ?_
 ·rintro rec k cs hk' ⟨h1,h2⟩ ih;unfold Zum Zrl ZsA;dsimp only;have hb:=hk _ (ZOO hk');have hlt:(l[k]).toNat < t.Columns.length:=by omega
  rw[decide_eq_true (show (k:Int) < (l.length:Int) by omega),cond_true,ZsQ hk',ZOX,decide_eq_false (show ¬l[k] < 0 by omega),cond_false,decide_eq_false (show ¬l[k]≥(t.Columns.length:Int) by omega),cond_false,ZhP hb.1 hlt,ZOX,ZnH,ZnH];refine⟨Zvm (by rw[ZOQ];omega),ZnI (by omega),ih _ ⟨by rw[ZOP,ZOQ];omega,fun c hcm=> ?_⟩⟩;rcases ZOS.1 hcm with hcm |hcm
  ·exact h2 c hcm
  ·rw[ZOT.1 hcm];exact hc _ (ZOO _)
 ·rintro rec cs ⟨h1,h2⟩;unfold Zum Zrl;dsimp only;rw[decide_eq_false (show ¬(l.length:Int) < (l.length:Int) by omega),cond_false,ZnD];exact⟨cs,rfl,by omega,h2⟩
 ·rintro _ ⟨cs,rfl,h1,h2⟩;dsimp only;unfold Zvg;rw[decide_eq_false (show ¬(l.length:Int) > 64 by omega),cond_false,ZnD];exact⟨⟨h.id,h.name,h1,n,hn,h2⟩,rfl⟩
theorem ZGK {t:ZnB} (h:ZDO t) {l:List Int} (hl:l.length≤6) (hk:∀k∈l,0≤k∧k < ZBV t):wp (Zsa t l) (fun r=>ZDO r.1∧r.1.ID=t.ID):=by
 obtain⟨n,hn,hc⟩:=h.rows;have hcols:=h.cols;unfold Zsa;rw[ZD3 h,ZOX,ZLj,cond_false,ZnE];refine ZnM (Zxm ZAH l (by omega) (fun i (_:Unit)=>(l,l,(l.length:Int),i,t,(0:Int),([]:Str),([]:List ZnO))) (fun _ _=>True)
  (Q:=fun x=>x= .brk (l,t,(0:Int),([]:Str),([]:List ZnO))) () trivial ?_ ?_) ?_
 ·rintro rec k _ hk' _ ih;unfold ZuO ZrV Zs1;dsimp only;have hb:=hk _ (ZOO hk');rw[decide_eq_true (show (k:Int) < (l.length:Int) by omega),cond_true,ZsQ hk',ZOX,decide_eq_false (show ¬l[k] < 0 by omega),cond_false,ZFX,ZOX,decide_eq_false (show ¬l[k]≥ZBV t by omega),cond_false,ZnH];exact⟨ZnI (by omega),ih () trivial⟩
 ·rintro rec _ _;unfold ZuO ZrV;dsimp only;rw[decide_eq_false (show ¬(l.length:Int) < (l.length:Int) by omega),cond_false,ZnD]
 ·rintro _ rfl;dsimp only;unfold ZvI;rw[decide_eq_false (show ¬(l.length:Int) > 4096 by omega),cond_false,ZnE];have hin:∀c∈t.Columns,∀k∈l,∃hlt:k.toNat < c.Cells.length,0≤k:=fun c hcm k hkm=>by
   have:=hk k hkm;have hr:ZBV t=(n:Int):=by
    unfold ZBV;cases hcs:t.Columns with
    |nil=>rw[hcs]at hcm;cases hcm
    |cons c l=>rw[←(hc c (by rw[hcs];simp)).2.1]
   have h2:=(hc c hcm).2.1;exact⟨by omega,this.1⟩
  refine ZnM (Zxm ZAG t.Columns (by omega) (fun i (cs:List ZnO)=>(l,t.Columns,(t.Columns.length:Int),i,(0:Int),([]:Str),t.ID,t.Name,([]:List ZnO),cs)) (fun k cs=>cs.length=k∧∀c∈cs,ZIl l.length c)
   (Q:=fun x=>∃cs,x=((0:Int),([]:Str),t.ID,t.Name,([]:List ZnO),cs)∧cs.length≤3∧∀c∈cs,ZIl l.length c) [] ⟨rfl,fun c hc=>absurd hc (by simp)⟩ ?_ ?_) ?_
  ·rintro rec i cs hi ⟨h1,h2⟩ ih;unfold ZuN ZrU;dsimp only;obtain⟨c,hcdef⟩:∃c,c=t.Columns[i]:=⟨_,rfl⟩;have hcm:c∈t.Columns:=hcdef▸ZOO hi;have h3:=hc c hcm;rw[decide_eq_true (show (i:Int) < (t.Columns.length:Int) by omega),cond_true,ZsQ hi,ZOX,←hcdef,ZnE];refine ZnM (Zxm ZAF l (by omega) (fun j (xs:List ZnQ)=>(l,t.Columns,(t.Columns.length:Int),(i:Int),l,(l.length:Int),j,(0:Int),([]:Str),t.ID,t.Name,c,c.Name,([]:List ZnO),cs,xs)) (fun k xs=>xs.length=k∧∀x∈xs,ZDo x)
    (Q:=fun y=>∃xs,y=(l,t.Columns,(t.Columns.length:Int),(i:Int),(0:Int),([]:Str),t.ID,t.Name,c.Name,([]:List ZnO),cs,xs)∧xs.length=l.length∧∀x∈xs,ZDo x) [] ⟨rfl,fun c hc=>absurd hc (by simp)⟩ ?_ ?_) ?_
   ·rintro rec2 j xs hj ⟨g1,g2⟩ ih2;unfold ZuM ZrT;dsimp only;obtain⟨hlt,h0⟩:=hin c hcm _ (ZOO hj);rw[decide_eq_true (show (j:Int) < (l.length:Int) by omega),cond_true,ZsQ hj,ZOX,ZhP h0 hlt,ZOX,ZnH,ZnH];refine⟨Zvm (by rw[ZOQ];omega),ZnI (by omega),ih2 _ ⟨by rw[ZOP,ZOQ];omega,fun x hx=> ?_⟩⟩;rcases ZOS.1 hx with hx |hx
    ·exact g2 x hx
    ·rw[ZOT.1 hx];exact h3.2.2 _ (ZOO _)
   ·rintro rec2 xs ⟨g1,g2⟩;unfold ZuM ZrT;dsimp only;rw[decide_eq_false (show ¬(l.length:Int) < (l.length:Int) by omega),cond_false,ZnD];exact⟨xs,rfl,g1,g2⟩
   ·rintro _ ⟨xs,rfl,g1,g2⟩;unfold ZvH;dsimp only;rw[ZnH,ZnH];refine⟨Zvm (by rw[ZOQ];omega),ZnI (by omega),ih _ ⟨by rw[ZOP,ZOQ];omega,fun y hy=> ?_⟩⟩;rcases ZOS.1 hy with hy |hy
    ·exact h2 y hy
    ·rw[ZOT.1 hy];exact⟨h3.1,g1,g2⟩
  ·rintro rec cs ⟨h1,h2⟩;unfold ZuN ZrU;dsimp only;rw[decide_eq_false (show ¬(t.Columns.length:Int) < (t.Columns.length:Int) by omega),cond_false,ZnD];exact⟨cs,rfl,by omega,h2⟩
  ·rintro _ ⟨cs,rfl,h1,h2⟩;dsimp only;unfold ZvG;rw[ZnD];exact⟨⟨h.id,h.name,h1,l.length,hl,h2⟩,rfl⟩
end Go.Proofs
namespace Go.Proofs
open Go Eng
structure OpD (o:ZnP):Prop where
 cols:o.Columns.length≤3
 text:o.Text.length≤1024
def ZGv (t:ZnB) (k:Int):Prop:=0≤k∧k < (t.Columns.length:Int)
def ZE4 (t:ZnB) (o:ZnP):Prop:=((o.Kind=1∨o.Kind=2∨o.Kind=5)→ZGv t o.Column)∧(o.Kind=3→∀k∈o.Columns,ZGv t k)
theorem ZLZ {t:ZnB} {o:ZnP} (ho:OpD o):wp (Zt2 t o) (fun b=>b=true→ZE4 t o):=by
 have hl:=ho.cols;have mk:∀there:Bool,(there=true→ZGv t o.Column)→wp (Zr9 there t o) (fun b=>b=true→ZE4 t o):=by
  intro there ht;unfold Zr9 Zr8;have j3:∀q:Bool,(o.Kind≠1)→(q=true→o.Kind=2∨o.Kind=5)→(o.Kind=2∨o.Kind=5→q=true)→wp (Zr7 there o.Kind q t o) (fun b=>b=true→ZE4 t o):=by
   intro q h1 hq hq2;unfold Zr7 Zr6;cases q with
   |true=>
    rw[cond_true];cases there with
    |false=>rw[cond_false,ZnD];exact fun h=>by cases h
    |true=>
     rw[cond_true];have hk:=hq rfl;have done:∀b:Bool,b=true→ZE4 t o:=fun b _=>⟨fun _=>ht rfl,fun h3=>by omega⟩
     rw[ZnV];exact⟨fun _=>by rw[ZnD];exact done _,fun _=>by rw[ZnD];exact fun h=>by cases h⟩
   |false=>
    have n2:¬(o.Kind=2∨o.Kind=5):=fun h=>by have:=hq2 h;cases this
    rw[cond_false]
    by_cases h3:o.Kind=3
    ·rw[show (o.Kind == 3)=true by rw[h3];rfl,cond_true,ZnE];refine ZnM (Zxm ZBv o.Columns (by omega) (fun i (_:Unit)=>(o.Columns,(o.Columns.length:Int),i,t,o)) (fun k _=>∀j (h:j < o.Columns.length),j < k→ZGv t o.Columns[j])
      (Q:=fun x=>x= .ret false∨(x= .brk o∧∀k∈o.Columns,ZGv t k)) () (fun j _ h=>absurd h (Nat.not_lt_zero _)) ?_ ?_) ?_
     ·rintro rec k _ hk hp ih;unfold ZvX Zs8 Zuv;dsimp only;rw[decide_eq_true (show (k:Int) < (o.Columns.length:Int) by omega),cond_true,ZsQ hk,ZOX]
      by_cases hn:o.Columns[k] < 0
      ·rw[decide_eq_true hn,cond_true,cond_true,ZnD];exact .inl rfl
      ·rw[decide_eq_false hn,cond_false]
       by_cases hg:o.Columns[k]≥(t.Columns.length:Int)
       ·rw[decide_eq_true hg,cond_true,ZnD];exact .inl rfl
       ·rw[decide_eq_false hg,cond_false,ZnH];refine⟨ZnI (by omega),ih () fun j hj hjk=> ?_⟩
        by_cases e:j=k
        ·subst e;exact⟨by omega,by omega⟩
        ·exact hp j hj (by omega)
     ·rintro rec _ hp;unfold ZvX Zs8;dsimp only;rw[decide_eq_false (show ¬(o.Columns.length:Int) < (o.Columns.length:Int) by omega),cond_false,ZnD];refine .inr ⟨rfl,fun k hk=> ?_⟩;obtain⟨j,hj,rfl⟩:=List.getElem_of_mem hk;exact hp j hj hj
     ·rintro _ (rfl |⟨rfl,hp⟩)
      ·dsimp only;rw[ZnD];exact fun h=>by cases h
      ·dsimp only;unfold Zw1 Zr5;have done:∀b:Bool,b=true→ZE4 t o:=fun b _=>⟨fun h=>by omega,fun _=>hp⟩
       rw[ZnV];refine⟨fun _=> ?_,fun _=>by rw[ZnD];exact done _⟩;rw[ZnV];exact⟨fun _=>by rw[ZnD];exact done _,fun _=>by rw[ZnD];exact done _⟩
    ·rw[beq_eq_false_iff_ne.2 h3,cond_false];unfold ZqD;have done:∀b:Bool,b=true→ZE4 t o:=fun b _=>⟨fun h=>by omega,fun h=>absurd h h3⟩
     rw[ZnV];refine⟨fun _=> ?_,fun _=>by rw[ZnD];exact done _⟩;rw[ZnV];refine⟨fun _=> ?_,fun _=>by rw[ZnD];exact done _⟩;rw[ZnV];exact⟨fun _=>by rw[ZnD];exact done _,fun _=>by rw[ZnD];exact done _⟩
  by_cases h1:o.Kind=1
  ·rw[show (o.Kind == 1)=true by rw[h1];rfl,cond_true];cases there with
   |false=>rw[cond_false,ZnD];exact fun h=>by cases h
   |true=>
    rw[cond_true];have done:∀b:Bool,b=true→ZE4 t o:=fun b _=>⟨fun _=>ht rfl,fun h3=>by omega⟩
    rw[ZnV];exact⟨fun _=>by rw[ZnD];exact done _,fun _=>by rw[ZnD];exact done _⟩
  ·rw[beq_eq_false_iff_ne.2 h1,cond_false]
   by_cases h2:o.Kind=2
   ·rw[show (o.Kind == 2)=true by rw[h2];rfl,cond_true];exact j3 true h1 (fun _=> .inl h2) (fun _=>rfl)
   ·rw[beq_eq_false_iff_ne.2 h2,cond_false]
    by_cases h5:o.Kind=5
    ·rw[show (o.Kind == 5)=true by rw[h5];rfl];exact j3 true h1 (fun _=> .inr h5) (fun _=>rfl)
    ·rw[beq_eq_false_iff_ne.2 h5];exact j3 false h1 (fun h=>by cases h) (fun h=>h.elim (fun h=>absurd h h2) fun h=>absurd h h5)
 unfold Zt2
 by_cases h0:o.Column≥0
 ·rw[decide_eq_true h0,cond_true];exact mk _ fun h=>⟨h0,of_decide_eq_true h⟩
 ·rw[decide_eq_false h0,cond_false];exact mk false fun h=>by cases h
theorem ZH8 {t:ZnB} (h:ZDO t) {x y:Int} (hx:0≤x∧x < ZBV t) (hy:0≤y∧y < ZBV t):wp (ZsR t x y) (fun _=>True):=by
 obtain⟨n,hn,hc⟩:=h.rows;have hcols:=h.cols;unfold ZsR;rw[ZnE];refine ZnM (Zxm ZAV t.Columns (by omega) (fun i (_:Unit)=>(x,y,t.Columns,(t.Columns.length:Int),i)) (fun _ _=>True) (Q:=fun _=>True) () trivial ?_ ?_) ?_
 ·rintro rec k _ hk _ ih;unfold Zvc Zsv;dsimp only;have hr:ZBV t=(n:Int):=by
   unfold ZBV;cases hcs:t.Columns with
   |nil=>rw[hcs]at hk;simp at hk
   |cons c l=>rw[←(hc c (by rw[hcs];simp)).2.1]
  have h2:=(hc _ (ZOO hk)).2.1;rw[decide_eq_true (show (k:Int) < (t.Columns.length:Int) by omega),cond_true,ZsQ hk,ZOX,ZhP hx.1 (show x.toNat < t.Columns[k].Cells.length by omega),ZOX,ZhP hy.1 (show y.toNat < t.Columns[k].Cells.length by omega),ZOX,ZnV];refine⟨fun _=>by rw[ZnD];trivial,fun _=> ?_⟩;rw[ZnH];exact⟨ZnI (by omega),ih () trivial⟩
 ·rintro rec _ _;unfold Zvc Zsv;dsimp only;rw[decide_eq_false (show ¬(t.Columns.length:Int) < (t.Columns.length:Int) by omega),cond_false,ZnD];trivial
 ·rintro(_ |_) _
  ·dsimp only;unfold ZvW;rw[ZnD];trivial
  ·dsimp only;rw[ZnD];trivial
theorem ZJK (a b:ZnQ):wp (Zp1 a b) (fun _=>True):=by
 unfold Zp1;have j:∀q,wp (Zph q a b) (fun _=>True):=by intro q;unfold Zph;cases q<;>cases a.Null<;>cases b.Null<;>cases (Op.bytesLess a.Text b.Text)<;>cases (a.Text == b.Text)<;>exact⟨_,rfl,trivial⟩
 cases a.Null with
 |true=>rw[cond_true];exact j _
 |false=>rw[cond_false];exact j _
theorem ZJe {t:ZnB} (h:ZDO t) {o:ZnP} (hdo:ZE4 t o) (h3:o.Kind≠3):wp (Zs6 t o) (fun r=>r.length≤6∧∀k∈r,0≤k∧k < ZBV t):=by
 obtain⟨n,hn,hc⟩:=h.rows;have hcols:=h.cols;obtain⟨m,hm,hm6⟩:∃m:Nat,ZBV t=(m:Int)∧m≤6:=by
  unfold ZBV;cases hcs:t.Columns with
  |nil=>exact⟨0,rfl,by omega⟩
  |cons c l=>exact⟨n,by rw[←(hc c (by rw[hcs];simp)).2.1],hn⟩
 have hcol:∀k,ZGv t k→∃hk:k.toNat < t.Columns.length,0≤k∧(t.Columns[k.toNat]).Cells.length=m:=fun k hk=>by
  have hlt:k.toNat < t.Columns.length:=by have:=hk.1;have:=hk.2;omega
  refine⟨hlt,hk.1, ?_⟩;have h1:=(hc _ (ZOO hlt)).2.1;have h2:ZBV t=(n:Int):=by
   unfold ZBV;cases hcs:t.Columns with
   |nil=>rw[hcs]at hlt;simp at hlt
   |cons c l=>rw[←(hc c (by rw[hcs];simp)).2.1]
  omega
 unfold Zs6;rw[ZFX,ZOX,ZnE,hm];refine ZnM (Zwo ZBe m (by omega) (fun i (out:List Int)=>((m:Int),i,t,o,out)) (fun k out=>out.length≤k∧∀x∈out,0≤x∧x < (m:Int))
  (Q:=fun r=>r.length≤6∧∀k∈r,0≤k∧k < (m:Int)) [] ⟨ZOW _,fun c hc=>absurd hc (by simp)⟩ ?_ ?_) ?_
 ·rintro rec r out hr ⟨h1,h2⟩ ih;have put:∀(a:Nat) (keep:Bool),a≤out.length→wp (Zqg (fun t14 r_ t o out=>rec (t14,r_,t,o,out)) (r:Int) (a:Int) (m:Int) (r:Int) keep t o out) (fun r=>r.length≤6∧∀k∈r,0≤k∧k < (m:Int)):=by
   intro a keep ha;unfold Zqg ZtQ;cases keep with
   |false=>rw[cond_false,ZnH];exact⟨ZnI (by omega),ih out ⟨by omega,h2⟩⟩
   |true=>
    rw[cond_true,ZOL,ZOL,Nat.sub_zero,List.drop_zero,ZOU (l:=out.drop a) (by rw[List.length_drop];omega)];simp only[ZnH];refine⟨ZAT (by omega),Zvm (by rw[ZOR];omega),Zvm (by rw[ZOR,ZOQ];omega),ZAT (by omega),Zvm (by rw[ZOP,ZOR,List.length_drop,ZOQ];omega),ZnI (by omega),ih _ ⟨?_,fun x hx=> ?_⟩⟩
    ·rw[ZOP,ZOP,ZOR,List.length_drop,ZOQ];omega
    ·rcases ZOS.1 hx with hx |hx
     ·rcases ZOS.1 hx with hx |hx
      ·exact h2 x (List.mem_of_mem_take hx)
      ·rw[ZOT.1 hx];omega
     ·exact h2 x (List.mem_of_mem_drop hx)
  unfold ZvE ZsY Zqh ZwB ZwA;dsimp only;rw[decide_eq_true (show (r:Int) < (m:Int) by omega),cond_true]
  by_cases k1:o.Kind=1
  ·obtain⟨hk,h0,hlen⟩:=hcol _ (hdo.1 (.inl k1));rw[show (o.Kind == 1)=true by rw[k1];rfl,cond_true,ZhP h0 hk,ZOX,ZsQ (show r < (t.Columns[o.Column.toNat]).Cells.length by omega),ZOX,ZnV];exact⟨fun _=>put out.length _ (ZOW _),fun _=>put out.length _ (ZOW _)⟩
  rw[beq_eq_false_iff_ne.2 k1,cond_false]
  by_cases k2:o.Kind=2
  ·obtain⟨hk,h0,hlen⟩:=hcol _ (hdo.1 (.inr (.inl k2)));rw[show (o.Kind == 2)=true by rw[k2];rfl,cond_true,ZhP h0 hk,ZOX,ZsQ (show r < (t.Columns[o.Column.toNat]).Cells.length by omega),ZOX];exact put out.length _ (ZOW _)
  rw[beq_eq_false_iff_ne.2 k2,cond_false]
  by_cases k4:o.Kind=4
  ·rw[show (o.Kind == 4)=true by rw[k4];rfl,cond_true,ZnE];refine ZnM (Zxm ZBd out (by omega) (fun i (keep:Bool)=>((r:Int),(out.length:Int),keep,(m:Int),(r:Int),(out.length:Int),i,t,o,out)) (fun _ _=>True) (Q:=fun x=>∃keep,x=((r:Int),(out.length:Int),keep,(m:Int),(r:Int),t,o,out)) true trivial ?_ ?_) ?_
   ·rintro rec2 i keep hi _ ih2;unfold ZvD ZsX ZtS;dsimp only;rw[decide_eq_true (show (i:Int) < (out.length:Int) by omega),cond_true,Zoj hi,chk_true,ZOL,ZON hi,ZOX];cases keep with
    |false=>rw[cond_false,ZnH];exact⟨ZnI (by omega),ih2 false trivial⟩
    |true=>
     rw[cond_true,ZnE];refine ZnM (ZH8 h (x:=out[i]) (y:=(r:Int)) (by rw[hm];exact h2 _ (ZOO hi)) (by rw[hm];omega)) fun q _=> ?_
     rw[ZnH];exact⟨ZnI (by omega),ih2 (!q) trivial⟩
   ·rintro rec2 keep _;unfold ZvD ZsX;dsimp only;rw[decide_eq_false (show ¬(out.length:Int) < (out.length:Int) by omega),cond_false,ZnD];exact⟨keep,rfl⟩
   ·rintro _ ⟨keep,rfl⟩;exact put out.length _ (ZOW _)
  rw[beq_eq_false_iff_ne.2 k4,cond_false]
  by_cases k5:o.Kind=5
  ·obtain⟨hk,h0,hlen⟩:=hcol _ (hdo.1 (.inr (.inr k5)));rw[show (o.Kind == 5)=true by rw[k5];rfl,cond_true,ZhP h0 hk,ZOX];generalize (t.Columns[o.Column.toNat]).Cells=L at hlen;rw[ZnE];refine ZnM (ZoV ZBc (fun a:Nat=>((r:Int),(a:Int),true,L,(m:Int),(r:Int),t,o,out)) (fun a=>a≤out.length) (fun a=>a) (Q:=fun x=>∃a:Nat,x=((r:Int),(a:Int),true,(m:Int),(r:Int),t,o,out)∧a≤out.length) out.length (ZOW _) (by omega) ?_) ?_
   ·rintro rec2 a ha ih2;unfold Zyx ZvC ZtR;dsimp only
    by_cases h0a:0 < a
    ·have hi1:a - 1 < out.length:=by omega
     have hb:=h2 _ (ZOO hi1);rw[decide_eq_true (show (a:Int) > 0 by omega),cond_true,show (a:Int) - 1=((a - 1:Nat):Int) by omega,ZnH,ZnH,ZOL,ZON hi1,ZOX,ZhP hb.1 (show (out[a - 1]).toNat < L.length by omega),ZOX,ZsQ (show r < L.length by omega),ZOX,ZnE];refine⟨ZnI (by omega),Zoj hi1,ZnM (ZJK _ _) fun q _=> ?_⟩;rw[ZnV];refine⟨fun _=> ?_,fun _=> ?_⟩
     ·rw[ZnH];exact⟨ZnI (by omega),ih2 (a - 1) (by omega) (by omega)⟩
     ·rw[ZnD];exact⟨a,by rw[show ((a:Nat):Int)=(a:Int)from rfl],ha⟩
    ·rw[decide_eq_false (show ¬(a:Int) > 0 by omega),cond_false,cond_false,ZnD];exact⟨a,rfl,ha⟩
   ·rintro _ ⟨a,rfl,ha⟩;exact put a _ ha
  rw[beq_eq_false_iff_ne.2 k5,cond_false];exact put out.length _ (ZOW _)
 ·rintro rec out ⟨h1,h2⟩;unfold ZvE ZsY;dsimp only;rw[decide_eq_false (show ¬(m:Int) < (m:Int) by omega),cond_false,ZnD];exact⟨by omega,h2⟩
 ·rintro r hr;unfold Zwz;rw[ZnD];exact hr
theorem ZNH {t:ZnB} (h:ZDO t) {o:ZnP} (ho:OpD o) (hdo:ZE4 t o):wp (ZuL t o) (fun x=>ZDO x∧x.ID=t.ID):=by
 unfold ZuL
 by_cases h3:o.Kind=3
 ·rw[show (o.Kind == 3)=true by rw[h3];rfl,cond_true,ZnE];refine ZnM (ZGi h ho.cols (hdo.2 h3)) ?_;rintro⟨x,e⟩ hx;rw[ZnD];exact hx
 ·rw[beq_eq_false_iff_ne.2 h3,cond_false,ZnE];refine ZnM (ZJe h hdo h3) ?_;rintro r ⟨h1,h2⟩;rw[ZnE];refine ZnM (ZGK h h1 h2) ?_;rintro⟨x,e⟩ hx;rw[ZnD];exact hx
theorem ZLd {t:ZnB} (h:ZDO t) {o:ZnP} (ho:OpD o):wp (Zt3 t [o]) (fun r=>r.2=0→ZDO r.1):=by
 unfold Zt3;rw[show decide ((([o]:List ZnP).length:Int) > 5)=false from rfl,cond_false,ZD3 h,ZOX,ZLj,cond_false,ZnE];refine ZnM (Zxm ZBw [o] (by simp) (fun i (x:ZnB)=>([o],(([o]:List ZnP).length:Int),i,x,(0:Int),([]:Str),([]:List ZnO))) (fun _ x=>ZDO x)
  (Q:=fun y=>(∃e,y= .ret e∧e.2≠0)∨∃x,y= .brk (x,(0:Int),([]:Str),([]:List ZnO))∧ZDO x) t h ?_ ?_) ?_
 ·rintro rec k x hk hx ih;unfold ZvY Zs9;dsimp only;have hko:([o]:List ZnP)[k]=o:=by
   have:k=0:=by simp at hk;omega
   subst this;rfl
  rw[decide_eq_true (show (k:Int) < (([o]:List ZnP).length:Int) by omega),cond_true,ZsQ hk,ZOX,hko,ZnE];refine ZnM (ZLZ ho) fun b hb=> ?_
  cases b with
  |false=>rw[Bool.not_false,cond_true,ZnD];exact .inl ⟨_,rfl,by decide⟩
  |true=>
   rw[ZLj,cond_false,ZnE];refine ZnM (ZNH hx ho (hb rfl)) ?_;rintro x2 ⟨hx2,_⟩;rw[ZnH];exact⟨ZnI (by simp at hk;omega),ih x2 hx2⟩
 ·rintro rec x hx;unfold ZvY Zs9;dsimp only;rw[decide_eq_false (show ¬(([o]:List ZnP).length:Int) < (([o]:List ZnP).length:Int) by omega),cond_false,ZnD];exact .inr ⟨x,rfl,hx⟩
 ·rintro _ (⟨e,rfl,he⟩ |⟨x,rfl,hx⟩)
  ·dsimp only;rw[ZnD];exact fun h=>absurd h he
  ·dsimp only;unfold Zw2;rw[ZG7 hx,ZOX,ZnD];exact fun _=>hx
end Go.Proofs
namespace Go.Proofs
open Go Eng
theorem ZEW {d:ZnA} (hd:ZsF d) {n:Int} (hn:0≤n∧n≤1000000):wp (ZnL d n) (fun r=>(0≤r.1∧(r.1 < n∨n=0∧r.1=0))∧ZsF r.2):=by
 by_cases h0:n=0
 ·subst h0;unfold ZnL;have hd0:=hd;obtain⟨h0,h1,h2⟩:=hd0;rw[ZnV];refine⟨fun h=> ?_,fun h=> ?_⟩
  ·rw[ZnD];exact⟨⟨by simp,.inr ⟨rfl,rfl⟩⟩,hd⟩
  ·simp only[decide_eq_false_iff_not]at h;simp only[ZnH,ZnE,ZGz,ZnD];refine⟨ZnI (by omega),ZnI (by omega),by omega,by omega, ?_⟩;unfold ZtH;rw[show decide ((0:Int) < 1)=true from rfl,cond_true,ZnD];exact⟨⟨by simp,.inr (by simp)⟩,by simp only[ZsF];omega⟩
 ·refine ZnM (Zx7 hd (n:=n) (by omega)) ?_;rintro⟨q,d'⟩ ⟨h1,h2⟩;exact⟨⟨h1.1,.inl h1.2⟩,h2⟩
theorem ZNr {d:ZnA} (hd:ZsF d) {t:ZnB} (h:ZDO t):wp (Zwb d t) (fun r=>OpD r.1∧ZsF r.2):=by
 obtain⟨n,hn,hc⟩:=h.rows;have hcols:=h.cols;have j5:∀(d:ZnA) (k q:Int) (s:Str) (l:List Int),ZsF d→s.length≤1024→l.length≤3→wp (ZqI d 0 0 [] k q s [] l) (fun r=>OpD r.1∧ZsF r.2):=by intro d k q s l hd hs hl;unfold ZqI Zub;rw[ZnD];exact⟨⟨hl,hs⟩,hd⟩
 have j2:∀(k:Int) (b:Bool) (d:ZnA),ZsF d→wp (Zuc (t.Columns.length:Int) k b d 0 0 [] k 0 [] [] []) (fun r=>OpD r.1∧ZsF r.2):=by
  intro k b d hd;unfold Zuc;cases b with
  |true=>
   rw[cond_true,ZnE];refine ZnM (ZEW hd (n:=(t.Columns.length:Int)) (by omega)) ?_;rintro⟨q,d'⟩ ⟨_,hd'⟩;exact j5 d' k q [] [] hd' (by simp) (by simp)
  |false=>
   rw[cond_false,ZnV];refine⟨fun _=> ?_,fun _=>j5 d k 0 [] [] hd (by simp) (by simp)⟩;rw[ZnE];refine ZnM (Zx7 hd (n:=3) (by omega)) ?_;rintro⟨q,d2⟩ ⟨hq,hd2⟩;dsimp only at hq hd2⊢
   obtain⟨m,hm⟩:∃m:Nat,1+q=(m:Int):=⟨(1+q).toNat,by omega⟩;rw[hm,ZnH,ZnE];refine⟨ZnI (by omega),ZnM (ZoV ZCd (fun s:Nat×ZnA×List Int=>((t.Columns.length:Int),(s.1:Int),s.2.1,(0:Int),(0:Int),([]:Str),k,(0:Int),([]:Str),([]:List Int),s.2.2))
    (fun s=>ZsF s.2.1∧s.2.2.length+s.1=m) (fun s=>s.1) (Q:=fun x=>∃d l,x=(d,(0:Int),(0:Int),([]:Str),k,(0:Int),([]:Str),([]:List Int),l)∧ZsF d∧l.length≤3) (m,d2,[]) ⟨hd2,by simp⟩ (by dsimp only;omega) ?_) ?_⟩
   ·rintro rec ⟨k',d,l⟩ ⟨h1,h2⟩ ih;dsimp only at h1 h2 ih;unfold Zz7 ZxE Zwp;dsimp only
    by_cases hk:0 < k'
    ·rw[decide_eq_true (show (k':Int) > 0 by omega),cond_true,ZnV];refine⟨fun _=> ?_,fun _=> ?_⟩
     ·rw[ZnE];refine ZnM (ZEW h1 (n:=(t.Columns.length:Int)) (by omega)) ?_;rintro⟨q,d'⟩ ⟨_,hd'⟩;dsimp only at hd'⊢
      rw[ZnH,ZnH,show (k':Int) - 1=((k' - 1:Nat):Int) by omega];exact⟨Zvm (by rw[ZOQ];omega),ZnI (by omega),ih (k' - 1,d',l++[q]) ⟨hd',by dsimp only;rw[ZOP,ZOQ];omega⟩ (by dsimp only;omega)⟩
     ·rw[ZnD];exact⟨d,l,rfl,h1,by omega⟩
    ·rw[decide_eq_false (show ¬(k':Int) > 0 by omega),cond_false,cond_false,ZnD];exact⟨d,l,rfl,h1,by omega⟩
   ·rintro _ ⟨d,l,rfl,h1,h2⟩;unfold Zyr Zub;dsimp only;rw[ZnD];exact⟨⟨h2,by simp⟩,h1⟩
 unfold Zwb;rw[ZnE];refine ZnM (Zx7 hd (n:=5) (by omega)) ?_;rintro⟨q,d1⟩ ⟨hq,hd1⟩;dsimp only at hq hd1⊢
 rw[ZnH];refine⟨ZnI (by omega), ?_⟩;rw[ZnV];refine⟨fun _=> ?_,fun _=> ?_⟩
 ·rw[ZnE];refine ZnM (ZEW hd1 (n:=(t.Columns.length:Int)) (by omega)) ?_;rintro⟨q1,d2⟩ ⟨hq1,hd2⟩;dsimp only at hq1 hd2⊢
  rw[ZnE];refine ZnM (ZDD hd2 (l:=[([97]:Str),([98]:Str),([49]:Str),([50]:Str),([107,48]:Str),([]:Str)]) (by decide) (by decide)) ?_;rintro⟨s,d3⟩ ⟨hs,hd3⟩;dsimp only at hs hd3⊢
  have hsl:s.length≤1024:=by have:=(dok (ZI5 (l:=[([97]:Str),([98]:Str),([49]:Str),([50]:Str),([107,48]:Str),([]:Str)]) (by decide+kernel) hs)).2;omega
  have j1f:∀d',ZsF d'→wp (ZqJ false d' t 0 0 [] (1+q) q1 s [] []) (fun r=>OpD r.1∧ZsF r.2):=fun d' hd'=>by unfold ZqJ;rw[cond_false];exact j5 d' _ q1 s [] hd' hsl (by simp)
  by_cases h0:0 < t.Columns.length
  ·have hlt:q1.toNat < t.Columns.length:=by omega
   have hcc:=hc _ (ZOO hlt);rw[decide_eq_true (show (t.Columns.length:Int) > 0 by omega),cond_true,ZhP (by omega) hlt,ZOX,ZnV];refine⟨fun hpos=> ?_,fun _=>j1f d3 hd3⟩;have hpos:=of_decide_eq_true hpos;rw[ZnE];refine ZnM (Zx7 hd3 (n:=3) (by omega)) ?_;rintro⟨q3,d4⟩ ⟨_,hd4⟩;dsimp only at hd4⊢
   cases decide (q3 > 0)with
   |false=>exact j1f d4 hd4
   |true=>
    unfold ZqJ;have hl:=hcc.2.1;rw[cond_true,ZhP (by omega) hlt,ZOX,ZOX,ZnE];refine ZnM (Zx7 hd4 (n:=(t.Columns[q1.toNat].Cells.length:Int)) (by omega)) ?_;rintro⟨q5,d5⟩ ⟨hq5,hd5⟩;dsimp only at hq5 hd5⊢
    have hlt5:q5.toNat < (t.Columns[q1.toNat]).Cells.length:=by omega
    rw[ZhP hq5.1 hlt5,ZOX];refine j5 d5 _ q1 _ [] hd5 ?_ (by simp);have:=(dok (ZE1 (hcc.2.2 _ (ZOO hlt5)))).2;omega
  ·rw[decide_eq_false (show ¬(t.Columns.length:Int) > 0 by omega),cond_false];exact j1f d3 hd3
 ·rw[ZnV];exact⟨fun _=>j2 _ _ d1 hd1,fun _=>j2 _ _ d1 hd1⟩
theorem ZGt {d:ZnA} (hd:ZsF d) {t:ZnB} (h:ZDO t) {id:Int} (hid:0≤id∧id≤1000):wp (ZsS d t id) (fun r=>(ZDO r.1∧r.1.ID=id)∧ZsF r.2):=by
 unfold ZsS;rw[ZnE];refine ZnM (Zx7 hd (n:=3) (by omega)) ?_;rintro⟨q,d1⟩ ⟨hq,hd1⟩;dsimp only at hq hd1⊢
 obtain⟨m,rfl⟩:∃m:Nat,q=(m:Int):=⟨q.toNat,by omega⟩;rw[ZnE];refine ZnM (ZoV ZAZ (fun s:Nat×ZnA×ZnB=>(id,(s.1:Int),s.2.1,s.2.2,(0:Int),([]:Str),([]:List ZnO)))
  (fun s=>s.1≤m∧ZsF s.2.1∧ZDO s.2.2) (fun s=>s.1) (Q:=fun x=>∃d t,x=(id,d,t,(0:Int),([]:Str),([]:List ZnO))∧ZsF d∧ZDO t) (m,d1,t) ⟨ZOW _,hd1,h⟩ (by dsimp only;omega) ?_) ?_
 ·rintro rec ⟨k,d,t⟩ ⟨h0,h1,h2⟩ ih;dsimp only at h0 h1 h2 ih;unfold Zyi Zvi Ztm;dsimp only
  by_cases hk:0 < k
  ·rw[decide_eq_true (show (k:Int) > 0 by omega),cond_true,ZnE];refine ZnM (ZNr h1 h2) ?_;rintro⟨o,d'⟩ ⟨ho,hd'⟩;dsimp only at ho hd'⊢
   rw[ZnE];refine ZnM (ZLd h2 ho) ?_;rintro⟨x,e⟩ hx;dsimp only at hx⊢
   rw[show (k:Int) - 1=((k - 1:Nat):Int) by omega,ZnV];refine⟨fun he=> ?_,fun _=> ?_⟩
   ·rw[ZnH];exact⟨ZnI (by omega),ih (k - 1,d',x) ⟨by dsimp only;omega,hd',hx (eq_of_beq he)⟩ (by dsimp only;omega)⟩
   ·rw[ZnH];exact⟨ZnI (by omega),ih (k - 1,d',t) ⟨by dsimp only;omega,hd',h2⟩ (by dsimp only;omega)⟩
  ·rw[decide_eq_false (show ¬(k:Int) > 0 by omega),cond_false,ZnD];exact⟨d,t,rfl,h1,h2⟩
 ·rintro _ ⟨d,t,rfl,h1,h2⟩;unfold Zwc;dsimp only;rw[ZG7 h2,ZOX,ZnD];exact⟨⟨⟨hid,h2.name,h2.cols,h2.rows⟩,rfl⟩,h1⟩
structure ZEs (m:Nat) (b:Int) (l:List ZnB):Prop where
 len:l.length≤m
 ok:∀t∈l,ZDO t∧t.ID≤b
 up:l.Pairwise fun x y=>x.ID < y.ID
theorem ZEs.snoc {m:Nat} {b b':Int} {l:List ZnB} (h:ZEs m b l) {t:ZnB} (ht:ZDO t) (hid:t.ID=b') (hb:b < b'):ZEs (m+1) b' (l++[t]):=by
 refine⟨by rw[ZOP,ZOQ];have:=h.len;omega,fun x hx=> ?_, ?_⟩
 ·rcases ZOS.1 hx with hx |hx
  ·exact⟨(h.ok x hx).1,by have:=(h.ok x hx).2;omega⟩
  ·rw[ZOT.1 hx];exact⟨ht,by omega⟩
 ·rw[List.pairwise_append];refine⟨h.up,by simp,fun x hx y hy=> ?_⟩;rw[ZOT.1 hy];have:=(h.ok x hx).2;omega
theorem ZGF {d:ZnA} (hd:ZsF d) {most:Nat} (h1:1≤most) (h2:most≤10):wp (Ztk d (most:Int)) (fun r=>(ZEs most 50 r.1∧1≤r.1.length)∧ZsF r.2):=by
 unfold Ztk;rw[ZnE];refine ZnM (Zx7 hd (n:=2) (by omega)) ?_;rintro⟨id0,d1⟩ ⟨hid0,hd1⟩;dsimp only at hid0 hd1⊢
 rw[ZnE];refine ZnM (Zx7 hd1 (n:=(most:Int)) (by omega)) ?_;rintro⟨q,d2⟩ ⟨hq,hd2⟩;dsimp only at hq hd2⊢
 obtain⟨m,hm⟩:∃m:Nat,1+q=(m:Int):=⟨(1+q).toNat,by omega⟩;rw[hm,ZnH,ZnE];refine⟨ZnI (by omega),ZnM (ZoV ZBh (fun s:Int×Nat×ZnA×List ZnB=>(s.1,(s.2.1:Int),s.2.2.1,s.2.2.2))
  (fun s=>ZsF s.2.2.1∧s.2.2.2.length+s.2.1=m∧(0≤s.1∧s.1≤1+2*(s.2.2.2.length:Int))∧ZEs s.2.2.2.length s.1 s.2.2.2) (fun s=>s.2.1)
  (Q:=fun x=>ZsF x.1∧ZEs most 50 x.2∧1≤x.2.length) (id0,m,d2,[]) ⟨hd2,by simp,by dsimp only;simp;omega,⟨by simp,fun t ht=>absurd ht (by simp),by simp⟩⟩ (by dsimp only;omega) ?_) ?_⟩
 ·rintro rec ⟨id,k,d,l⟩ ⟨g1,g2,g3,g4⟩ ih;dsimp only at g1 g2 g3 g4 ih;unfold ZyE ZvK ZtX;dsimp only
  by_cases hk:0 < k
  ·rw[decide_eq_true (show (k:Int) > 0 by omega),cond_true,ZnE];refine ZnM (Zx7 g1 (n:=2) (by omega)) ?_;rintro⟨q,d3⟩ ⟨hq,hd3⟩;dsimp only at hq hd3⊢
   rw[ZnH,ZnH,ZnE];have hid:0≤id+(1+q)∧id+(1+q)≤1000:=by omega
   refine⟨ZnI (by omega),ZnI (by omega),ZnM (ZHH hd3 hid) ?_⟩;rintro⟨t,d4⟩ ⟨⟨ht,hti⟩,hd4⟩;dsimp only at ht hti hd4⊢
   have fin:∀(t:ZnB) (d':ZnA),ZDO t→t.ID=id+(1+q)→ZsF d'→wp (ZrA (fun id k d l=>rec (id,k,d,l)) (id+(1+q)) (k:Int) d' l t) (fun x=>ZsF x.1∧ZEs most 50 x.2∧1≤x.2.length):=by intro t d' ht hti hd';unfold ZrA;rw[ZnH,ZnH,show (k:Int) - 1=((k - 1:Nat):Int) by omega];refine⟨Zvm (by rw[ZOQ];omega),ZnI (by omega),ih (id+(1+q),k - 1,d',l++[t]) ⟨hd',by dsimp only;rw[ZOP,ZOQ];omega,by dsimp only;rw[ZOP,ZOQ];omega, ?_⟩ (by dsimp only;omega)⟩;dsimp only;rw[ZOP,ZOQ];exact g4.snoc ht hti (by omega)
   rw[ZnV];refine⟨fun hl0=> ?_,fun _=>by rw[cond_false];exact fin t d4 ht hti hd4⟩;have hl0:=of_decide_eq_true hl0;rw[ZnE];refine ZnM (Zx7 hd4 (n:=4) (by omega)) ?_;rintro⟨q4,d5⟩ ⟨_,hd5⟩;dsimp only at hd5⊢
   rw[ZnV];refine⟨fun _=> ?_,fun _=>fin t d5 ht hti hd5⟩;rw[ZnE];refine ZnM (Zx7 hd5 (n:=(l.length:Int)) (by omega)) ?_;rintro⟨q6,d6⟩ ⟨hq6,hd6⟩;dsimp only at hq6 hd6⊢
   have hlt:q6.toNat < l.length:=by omega
   rw[ZnH,ZON hlt,ZOX,ZnE];refine⟨Zo3 ⟨hq6.1,hq6.2⟩,ZnM (ZGt hd6 (g4.ok _ (ZOO hlt)).1 hid) ?_⟩;rintro⟨t2,d7⟩ ⟨⟨ht2,hti2⟩,hd7⟩;exact fin t2 d7 ht2 hti2 hd7
  ·rw[decide_eq_false (show ¬(k:Int) > 0 by omega),cond_false,ZnD];refine⟨g1,⟨by dsimp only;omega,fun t ht=> ?_,g4.up⟩,by dsimp only;omega⟩;have:=g4.ok t ht;exact⟨this.1,by omega⟩
 ·rintro⟨d,l⟩ ⟨g1,g2,g3⟩;unfold ZwF;dsimp only at g1 g2 g3⊢
  rw[ZnD];exact⟨⟨g2,g3⟩,g1⟩
end Go.Proofs
namespace Go.Proofs
open Go Eng
def zf:ZnC:=ZnC.mk (ZnK.mk false []) (ZnK.mk false [])
noncomputable def ZLW (A B:List Rat):Int:= @Classical.epsilon Int ⟨0⟩ (fun r=>DistR A B 0 0 0 r)
noncomputable def ZDI (A B:List Rat):Option Rat:=if A.length=0∨B.length=0 then none else some (Rat.divInt (ZLW A B) ((A.length*B.length:Nat):Int))
theorem ZGa {A B:List Rat} {r:Int} (h:DistR A B 0 0 0 r):ZLW A B=r:=by have:= @Classical.epsilon_spec Int (fun r=>DistR A B 0 0 0 r) ⟨r,h⟩;exact this.det h
theorem ZEp {m:Int} {n:Nat} (h0:0≤m) (h1:m≤(n:Int)) (h2:n≤40000) (h3:0 < n):Sz 20 (Rat.divInt m (n:Int)):=ZDZ (by omega) (by omega) (by omega)
theorem ZE0 {a b:List Rat} (ha:∀q∈a,Sz 400 q) (hb:∀q∈b,Sz 400 q) (hna:a.length≤200) (hnb:b.length≤200):
  Zpc (a.map fOf) (b.map fOf)=some (match ZDI a b with |some q=>(fOf q,0) |none=>(zf,5))∧∀q,ZDI a b=some q→Sz 20 q:=by
 have hle:a.length*b.length≤200*200:=Nat.mul_le_mul hna hnb;unfold ZDI
 by_cases h:a.length=0∨b.length=0
 ·rw[if_pos h];refine⟨?_,fun q hq=>by cases hq⟩;unfold Zpc Zui;rw[List.length_map,List.length_map]
  by_cases h1:a.length=0
  ·rw[h1];rfl
  ·rw[show b.length=0 by omega,beq_eq_false_iff_ne.2 (show (a.length:Int)≠0 by omega)];rfl
 ·rw[if_neg h];obtain⟨r,e1,hr⟩:=ZG5 ha hb (by omega) (by omega) (by omega) (by omega);have hbd:=hr.bound (Int.le_refl 0) (by omega);have hp:0 < a.length*b.length:=Nat.mul_pos (by omega) (by omega);rw[e1,ZGa hr];refine⟨rfl,fun q hq=> ?_⟩;obtain rfl:=ZOY hq;exact ZEp hbd.1 hbd.2 hle hp
theorem DistR.self':∀{a:List Rat} {i:Nat} {r:Int},DistR a a i i 0 r→r=0:=fun h=>h.self rfl rfl (Int.le_refl 0)
theorem ZGs {a:List Rat} (h:a.length≠0) (ha:∀q∈a,Sz 400 q) (hna:a.length≤200):ZDI a a=some 0:=by obtain⟨r,_,hr⟩:=ZG5 ha ha (by omega) (by omega) h h;unfold ZDI;rw[if_neg (by omega),ZGa hr,hr.self',Rat.zero_divInt]
structure ZIf (l:List ZnB):Prop where
 len:l.length≤10
 cols:∀t∈l,t.Columns.length≤6∧∀c∈t.Columns,c.Cells.length≤12∧ZEK c.Cells
noncomputable def ZGx (own:List Rat) (id:Int) (i:Nat) (c:ZnO):Option Zpm:=match ZDI own (ZCz c.Cells)with
 |some q=>if q < 1 then some ⟨⟨id,(i:Int)⟩,fOf (1 - q)⟩else none
 |none=>none
noncomputable def ZBZ (own:List Rat) (t:ZnB) (k:Nat):List Zpm:=(List.range k).filterMap fun i=>(t.Columns[i]?).bind (ZGx own t.ID i)
noncomputable def ZCL (own:List Rat) (l:List ZnB):List Zpm:=l.flatMap fun t=>ZBZ own t t.Columns.length
theorem ZEF (own:List Rat) (t:ZnB) (k:Nat) (hk:k < t.Columns.length):ZBZ own t (k+1)=ZBZ own t k++(ZGx own t.ID k t.Columns[k]).toList:=by unfold ZBZ;rw[List.range_succ,List.filterMap_append];congr 1;rw[List.filterMap_cons,ZON hk,ZOX];cases ZGx own t.ID k t.Columns[k]<;>rfl
theorem ZEf (own:List Rat) (t:ZnB) (k:Nat):(ZBZ own t k).length≤k:=Nat.le_trans (List.length_filterMap_le _ _) (by rw[List.length_range];omega)
theorem ZEE (own:List Rat) (l:List ZnB) (t:ZnB):ZCL own (l++[t])=ZCL own l++ZBZ own t t.Columns.length:=by unfold ZCL;rw[List.flatMap_append];simp
theorem ZC0 (own:List Rat):∀(l:List ZnB),(∀t∈l,t.Columns.length≤6)→(ZCL own l).length≤6*l.length
 | [],_=>by simp[ZCL]
 |t::l,h=>by
  have h1:=ZEf own t t.Columns.length;have h2:=h t (by simp);have h3:=ZC0 own l fun x hx=>h x (by simp[hx])
  show ((ZBZ own t t.Columns.length)++ZCL own l).length≤_;rw[ZOP,List.length_cons];omega
theorem ZD7:Sz 1 1:=by unfold Sz;decide
theorem ZGY {own:List Rat} (ho:∀q∈own,Sz 400 q) (hn:own.length≤200) {id:Int} {i:Nat} {c:ZnO} (hc:c.Cells.length≤12) {x:Zpm} (h:ZGx own id i c=some x):∃q,ZDI own (ZCz c.Cells)=some q∧q < 1∧x=⟨⟨id,(i:Int)⟩,fOf (1 - q)⟩∧Sz 20 q:=by
 have hl:=ZCV c.Cells;have hd:=ZE0 ho (ZDx (l:=c.Cells)) hn (by omega);unfold ZGx at h;cases hq:ZDI own (ZCz c.Cells)with
 |none=>rw[hq]at h;cases h
 |some q=>
  rw[hq]at h;dsimp only at h
  by_cases h1:q < 1
  ·rw[if_pos h1]at h;exact⟨q,rfl,h1,(ZOY h).symm,hd.2 q hq⟩
  ·rw[if_neg h1]at h;cases h
theorem ZJF {own:List Rat} (ho:∀q∈own,Sz 400 q) (hn:own.length≤200) {id:Int} {i:Nat} {c:ZnO} (hc:c.Cells.length≤12) {x:Zpm} (h:ZGx own id i c=some x):Gdm x:=by obtain⟨q,_,_,rfl,hz⟩:=ZGY ho hn hc h;exact⟨1 - q,rfl,(ZD7.sub hz).mono (by decide)⟩
theorem ZF9 {own:List Rat} (ho:∀q∈own,Sz 400 q) (hn:own.length≤200) {l:List ZnB} (hl:ZIf l):Gds (ZCL own l):=⟨fun x hx=>by
 obtain⟨t,ht,hx⟩:=List.mem_flatMap.1 hx;obtain⟨i,_,hi⟩:=List.mem_filterMap.1 hx;cases hc:t.Columns[i]? with
 |none=>rw[hc]at hi;cases hi
 |some c=>
  rw[hc,ZOX]at hi;exact ZJF ho hn ((hl.cols t ht).2 c (List.mem_of_getElem? hc)).1 hi⟩
theorem ZF6:ZCv 1 1=some (fOf 1):=by
 have:=ZF5 1 1 (by decide) (by decide) (by decide) (by decide) (by decide)
 rwa [show Rat.divInt 1 1=1 by decide+kernel]at this
theorem ZK6 (a:ZnC):ZBP a zf=some zf:=by unfold ZBP Zyp;rw[show Zrf zf=some false by kernel_rfl];rfl
theorem ZFH {q:Rat} (hq:Sz 100 q):Zyk (fOf q)=some (decide (0 < q)):=by
 unfold Zyk;rw[ZI8 (hq.wq (by decide)),ZOX];congr 1;rw[decide_eq_decide];have:=ZER q 0;have h2:=ZET 0 q;constructor
 ·intro h;exact h2.1 (by omega)
 ·intro h;have:=h2.2 h;omega
theorem ZK5 {own:List Rat} (ho:∀q∈own,Sz 400 q) (hn:own.length≤200) {t:ZnB} (ht:t.Columns.length≤6∧∀c∈t.Columns,c.Cells.length≤12∧ZEK c.Cells) (k:Int) (l:List ZnB) (n j:Int) {out:List Zpm} (hout:out.length≤1000):
  wp (Zun big k (own.map fOf) l n j t.Columns (t.Columns.length:Int) 0 out t) (fun x=>x=(k,own.map fOf,l,n,j,out++ZBZ own t t.Columns.length)):=by
 have hcl:=ht.1;refine Zxm ZDb t.Columns (by omega) (fun i (o:List Zpm)=>(k,own.map fOf,l,n,j,t.Columns,(t.Columns.length:Int),i,o,t)) (fun i o=>o=out++ZBZ own t i) out (by simp[ZBZ]) ?_ ?_
 ·rintro rec i o hi rfl ih;have hc:=ht.2 _ (ZOO hi);have hnl:=ZCV t.Columns[i].Cells;have hkl:=ZEf own t i;rw[ZEF own t i hi]at ih;unfold Zz1 Zx0 Zzx Zzw;dsimp only;obtain⟨hd,hz⟩:=ZE0 ho (ZDx (l:=t.Columns[i].Cells)) hn (by omega);have hroom:∀x:Zpm,ZiZ ((out++ZBZ own t i).length+[x].length) 80=true:=fun x=>Zvm (by rw[ZOP,ZOQ];omega)
  rw[decide_eq_true (show (i:Int) < (t.Columns.length:Int) by omega),cond_true,ZsQ hi,ZOX,ZCA hc.2 hc.1,ZOX,hd,ZOX];unfold ZGx at ih;cases hq:ZDI own (ZCz t.Columns[i].Cells)with
  |none=>
   rw[hq]at ih;dsimp only;rw[ZF6,ZOX,ZK6,ZOX,show ((5:Int) == 0)=false from rfl,cond_false,cond_false,ZnH];exact⟨ZnI (by omega),ih _ (by simp)⟩
  |some q=>
   rw[hq]at ih;dsimp only at ih⊢
   have hzq:=hz q hq;have hz1:Sz 22 (1 - q):=ZD7.sub hzq;rw[ZF6,ZOX,ZGR ZD7 hzq (by decide),ZOX,show ((0:Int) == 0)=true from rfl,cond_true,ZFH (hz1.mono (by decide)),ZOX]
   by_cases h1:q < 1
   ·rw[if_pos h1]at ih;rw[decide_eq_true (show 0 < 1 - q by grind),cond_true,hroom,chk_true,ZnH];exact⟨ZnI (by omega),ih _ (by simp)⟩
   ·rw[if_neg h1]at ih;rw[decide_eq_false (show ¬0 < 1 - q by grind),cond_false,ZnH];exact⟨ZnI (by omega),ih _ (by simp)⟩
 ·rintro rec o rfl;unfold Zz1 Zx0;dsimp only;rw[decide_eq_false (show ¬(t.Columns.length:Int) < (t.Columns.length:Int) by omega),cond_false,ZnD]
theorem ZK4 {l:List ZnB} (hl:ZIf l) (hp:ZvV l=some true) {c:ZnO} (hc:c.Cells.length≤12∧ZEK c.Cells) {k:Int} (h0:0≤k) (h1:k≤1024):
  wp (ZzV l c k) (fun r=>∃H:List Zpm,H.Perm (ZCL (ZCz c.Cells) l)∧H.Pairwise Le∧r=(H.take k.toNat,0)):=by
 have hll:=hl.len;have ho:∀q∈ZCz c.Cells,Sz 400 q:=ZDx;have hol:=ZCV c.Cells;have hco:=hc.1;unfold ZzV Zzz Zzy;rw[decide_eq_false (show ¬k < 0 by omega),cond_false,decide_eq_false (show ¬k > 1024 by omega),cond_false,hp,ZOX,ZLj,cond_false,decide_eq_false (show ¬(c.Cells.length:Int) > 4096 by omega),cond_false,ZCA hc.2 hc.1,ZOX,ZnE];generalize ZCz c.Cells=own at ho hol;refine ZnM (Zxm ZDc l (by omega) (fun i (o:List Zpm)=>(k,own.map fOf,l,(l.length:Int),i,o)) (fun i o=>o=ZCL own (l.take i)) (Q:=fun x=>x=(k,ZCL own l)) [] rfl ?_ ?_) ?_
 ·rintro rec i o hi rfl ih;have hsub:∀t∈l.take i,t.Columns.length≤6:=fun t ht=>(hl.cols t (List.mem_of_mem_take ht)).1
  have hlen:=ZC0 own (l.take i) hsub;rw[ZOR]at hlen;rw[ZOV hi,ZEE]at ih;unfold Zz2 Zx1 ZAJ;dsimp only;rw[decide_eq_true (show (i:Int) < (l.length:Int) by omega),cond_true,ZsQ hi,ZOX,ZnE];refine ZnM (ZK5 ho (by omega) (hl.cols _ (ZOO hi)) k l (l.length:Int) (i:Int) (by omega)) ?_;rintro _ rfl;dsimp only;rw[ZnH];exact⟨ZnI (by omega),ih _ rfl⟩
 ·rintro rec o rfl;unfold Zz2 Zx1;dsimp only;rw[decide_eq_false (show ¬(l.length:Int) < (l.length:Int) by omega),cond_false,ZnD,List.take_length]
 ·rintro _ rfl;dsimp only;have hlen:=ZC0 own l fun t ht=>(hl.cols t ht).1
  haveI:=ZF9 ho (by omega) hl;obtain⟨H,hH,hp,hs⟩:=ZHJ (D:=ZCL own l) (by omega);have hHl:=hp.length_eq;unfold ZAI Zx2 Zy7;rw[hH,ZOX,ZAT (by split<;>omega),chk_true,ZOX,hHl];rw[show (decide ((ZCL own l).length=(ZCL own l).length)&&true)=true by simp,chk_true,ZOX];dsimp only;rw[ZnD];refine⟨H,hp,hs, ?_⟩;rw[List.drop_zero,Nat.sub_zero];congr 1;split
  ·rename_i h;rw[ZOL,ZOU (by omega),ZOU (by omega)]
  ·rfl
end Go.Proofs
namespace Go.Proofs
open Go Eng
theorem ZEO {s:Str} (h:s∈ZB0):Zy0 s=some true:=by have:=(dok h).2;unfold Zy0 ZAj ZB5;rw[decide_eq_true (show (s.length:Int)≤1024 by omega),cond_true,(dok h).1];rfl
theorem ZHG {x:ZnQ} (h:ZDo x):ZxG x=some true:=by unfold ZxG Zvt;rw[ZEO (ZE1 h),ZOX,cond_true];rcases h with rfl |⟨s,_,rfl⟩<;>rfl
theorem ZFS (t:ZnB):Zz8 t=some (ZBV t):=by
 unfold Zz8 ZBV;cases t.Columns with
 |nil=>rfl
 |cons c l=>
  have:(((c::l).length:Int) == 0)=false:=by rw[List.length_cons,beq_eq_false_iff_ne];omega
  rw[this];rfl
theorem ZGE {l:List ZnQ} (hl:l.length≤1000) (h:∀x∈l,ZDo x):Zud l=some true:=by
 refine ZrY ?_;unfold Zud;rw[ZnE];refine ZnM (Zxm ZBE l (by omega) (fun i (_:Unit)=>(l,(l.length:Int),i)) (fun _ _=>True) (Q:=fun x=>x= .brk ()) () trivial ?_ ?_) ?_
 ·rintro rec k _ hk _ ih;unfold Zwd Zto;dsimp only;rw[decide_eq_true (show (k:Int) < (l.length:Int) by omega),cond_true,ZsQ hk,ZOX,ZHG (h _ (ZOO hk)),ZOX,ZLj,cond_false,ZnH];exact⟨ZnI (by omega),ih () trivial⟩
 ·rintro rec _ _;unfold Zwd Zto;dsimp only;rw[decide_eq_false (show ¬(l.length:Int) < (l.length:Int) by omega),cond_false,ZnD]
 ·rintro _ rfl;dsimp only;unfold Zxf;rw[ZnD]
theorem ZGD {t:ZnB} (h:ZDO t):ZAl t=some true:=by
 obtain⟨n,hn,hc⟩:=h.rows;have hcols:=h.cols;have hid:=h.id;have hr:=ZHM h;refine ZrY ?_;unfold ZAl Zvj ZoZ Zpp;rw[decide_eq_false (show ¬t.ID < 0 by omega),cond_false,decide_eq_false (show ¬t.ID > 1073741824 by omega),cond_false,ZEO h.name,ZOX,ZLj,cond_false,decide_eq_false (show ¬(t.Columns.length:Int) > 64 by omega),cond_false,ZFS,ZOX,decide_eq_false (show ¬ZBV t > 4096 by omega),cond_false,ZnE,ZnE,ZnE];refine ZnM (Zxm Zxo t.Columns (by omega) (fun i (_:Unit)=>(t.Columns,t,(t.Columns.length:Int),i)) (fun _ _=>True) (Q:=fun x=>x= .brk ()) () trivial ?_ ?_) ?_
 ·rintro rec k _ hk _ ih;have h1:=hc _ (ZOO hk);have h3:=h1.2.1;unfold Zp6 ZoP ZAk ZwP;dsimp only;rw[decide_eq_true (show (k:Int) < (t.Columns.length:Int) by omega),cond_true,ZsQ hk,ZOX,ZEO h1.1,ZOX,ZLj,cond_false,ZFS,ZOX,ZFY hc (List.ne_nil_of_mem (ZOO hk)),h3,show ((n:Int) != (n:Int))=false by simp,cond_false,ZGE (by omega) h1.2.2,ZOX,ZOX,ZLj,cond_false,ZnH];exact⟨ZnI (by omega),ih () trivial⟩
 ·rintro rec _ _;unfold Zp6 ZoP;dsimp only;rw[decide_eq_false (show ¬(t.Columns.length:Int) < (t.Columns.length:Int) by omega),cond_false,ZnD]
 ·rintro _ rfl;dsimp only;unfold Zqx;rw[ZnD,ZnD,ZnD];rfl
theorem ZFe {m:Nat} {b:Int} {l:List ZnB} (h:ZEs m b l) (hm:m≤20):ZvV l=some true:=by
 have hl:=h.len;have hup:=List.pairwise_iff_getElem.1 h.up;unfold ZvV
 suffices hv:ZxF l=some true by rw[hv];rfl
 refine ZrY ?_;unfold ZxF;rw[ZnE];refine ZnM (ZoV ZCt (fun i:Nat=>(l,(i:Int))) (fun i=>1≤i) (fun i=>l.length+1 - i) (Q:=fun x=>x= .brk l) 1 (ZOW _) (by omega) ?_) ?_
 ·rintro rec i hi ih;unfold ZAC Zys;dsimp only
  by_cases hc:i < l.length
  ·rw[decide_eq_true (show (i:Int) < (l.length:Int) by omega),cond_true,ZnH,show (i:Int) - 1=((i - 1:Nat):Int) by omega,ZsQ (show i - 1 < l.length by omega),ZOX,ZsQ hc,ZOX];have:=hup (i - 1) i (by omega) hc (by omega);rw[decide_eq_false (show ¬l[i - 1].ID≥l[i].ID by omega),cond_false,ZnH];exact⟨ZnI (by omega),ZnI (by omega),ih (i+1) (by omega) (by omega)⟩
  ·rw[decide_eq_false (show ¬(i:Int) < (l.length:Int) by omega),cond_false,ZnD]
 ·rintro _ rfl;dsimp only;unfold ZzK Zxq;rw[decide_eq_true (show (l.length:Int)≤1024 by omega),cond_true];have he:Ztn l=some true:=by
   refine ZrY ?_;unfold Ztn;rw[ZnE];refine ZnM (Zxm ZBj l (by omega) (fun i (_:Unit)=>(l,(l.length:Int),i)) (fun _ _=>True) (Q:=fun x=>x= .brk ()) () trivial ?_ ?_) ?_
   ·rintro rec k _ hk _ ih;unfold ZvM Zs5;dsimp only;rw[decide_eq_true (show (k:Int) < (l.length:Int) by omega),cond_true,ZsQ hk,ZOX,ZGD (h.ok _ (ZOO hk)).1,ZOX,ZLj,cond_false,ZnH];exact⟨ZnI (by omega),ih () trivial⟩
   ·rintro rec _ _;unfold ZvM Zs5;dsimp only;rw[decide_eq_false (show ¬(l.length:Int) < (l.length:Int) by omega),cond_false,ZnD]
   ·rintro _ rfl;dsimp only;unfold ZwH;rw[ZnD]
  rw[he,ZOX,ZnD]
end Go.Proofs
namespace Go.Proofs
open Go Eng
def ZGc:ZnC:=⟨⟨false,[3]⟩,⟨false,[1]⟩⟩
def nil0:ZnC:=⟨⟨false,[]⟩,⟨false,[]⟩⟩
def ZEI:List ZnQ:=[ZnQ.mk false ([51]:Str),ZnQ.mk true ([]:Str),ZnQ.mk false ([120]:Str)]
theorem val0:Zqy (ZnQ.mk false ([51]:Str))=some (ZGc,true):=by kernel_rfl
theorem val1:Zqy (ZnQ.mk true ([]:Str))=some (fOf 0,false):=by unfold Zqy;dsimp only;rw[cond_true,ZFA];rfl
theorem val2:Zqy (ZnQ.mk false ([120]:Str))=some (nil0,false):=by kernel_rfl
theorem ZNk:Zog [ZGc]=some [ZGc]:=by kernel_rfl
theorem ZHT:ZpC (ZnO.mk ([]:Str) ZEI)=some [ZGc]:=by
 refine ZrY ?_;unfold ZpC;rw[ZnE];refine ZnM (ZoV ZAa (fun k:Nat=>(ZEI,(3:Int),(k:Int),if k=0 then []else [ZGc])) (fun k=>k≤3) (fun k=>3 - k) (Q:=fun x=>x=[ZGc]) 0 (by omega) (by omega) ?_) ?_
 ·intro rec k hk ih;unfold ZvN Ztx ZuU;dsimp only;have h:k=0∨k=1∨k=2∨k=3:=by omega
  rcases h with rfl |rfl |rfl |rfl
  ·rw[show decide (((0:Nat):Int) < 3)=true from rfl,cond_true,show idx ZEI ((0:Nat):Int)=some (ZnQ.mk false ([51]:Str))from rfl,ZnE,ZnD,val0,ZnE,ZnD];dsimp only;rw[cond_true,ZnH,ZnH];exact⟨rfl,rfl,ih 1 (by omega) (by omega)⟩
  ·rw[show decide (((1:Nat):Int) < 3)=true from rfl,cond_true,show idx ZEI ((1:Nat):Int)=some (ZnQ.mk true ([]:Str))from rfl,ZnE,ZnD,val1,ZnE,ZnD];dsimp only;rw[cond_false,ZnH];exact⟨rfl,ih 2 (by omega) (by omega)⟩
  ·rw[show decide (((2:Nat):Int) < 3)=true from rfl,cond_true,show idx ZEI ((2:Nat):Int)=some (ZnQ.mk false ([120]:Str))from rfl,ZnE,ZnD,val2,ZnE,ZnD];dsimp only;rw[cond_false,ZnH];exact⟨rfl,ih 3 (by omega) (by omega)⟩
  ·rw[show decide (((3:Nat):Int) < 3)=false from rfl,cond_false,ZnD];rfl
 ·rintro x rfl;unfold ZwS;rw[ZNk,ZnE,ZnD,ZnD]
def fi (n:Int):ZnC:=⟨⟨false,[n]⟩,⟨false,[1]⟩⟩
def hlf:ZnC:=⟨⟨false,[1]⟩,⟨false,[2]⟩⟩
theorem ZHb:Zq2=some true:=by
 have i1:ZnR 1=some (fi 1):=by
  unfold ZnR;rw[ZCi]
  kernel_rfl
 have i2:ZnR 2=some (fi 2):=by
  unfold ZnR;rw[ZCi]
  kernel_rfl
 have i3:ZnR 3=some (fi 3):=by
  unfold ZnR;rw[ZCi]
  kernel_rfl
 have i4:ZnR 4=some (fi 4):=by
  unfold ZnR;rw[ZCi]
  kernel_rfl
 have ih:Zqk 1 2=some hlf:=by kernel_rfl
 have r4:ZAo [fi 1,fi 2,fi 3,fi 4] 1 2=some (fi 2,0):=by kernel_rfl
 have d4:Zpc (([fi 1,fi 2,fi 3,fi 4].drop 0).take (((2:Int)).toNat - 0)) (([fi 1,fi 2,fi 3,fi 4].drop (((1:Int)).toNat)).take (((3:Int)).toNat - ((1:Int)).toNat))=some (hlf,0):=by kernel_rfl
 have s2:ZoD (fi 2) (fi 2)=some true:=by kernel_rfl
 have sh:ZoD hlf hlf=some true:=by kernel_rfl
 have n3:=ZHT;unfold ZEI at n3;unfold Zq2 Zo7;rw[i1,ZOX,i2,ZOX,i3,ZOX,i4,ZOX,r4,ZOX];dsimp only;rw[d4,ZOX,ZOX];dsimp only;rw[show ((0:Int) == 0)=true from rfl,cond_true,cond_true,s2,ZOX,cond_true,ih,ZOX,sh,ZOX,cond_true,n3,ZOX];rfl
end Go.Proofs
namespace Go.Proofs
open Go Eng
theorem ZH6 {hits:List Zpm} [Gds hits] (hl:hits.length≤1000) {a:ZnB} {i:Int} {s:Rat} (hs:Sz 20 s) (hmem:(⟨⟨a.ID,i⟩,fOf (1 - s)⟩:Zpm)∈hits) (q:List ZnC) (e n:Int) (t46:List ZnB) (t47 t48:Int) (t53:List ZnO) (t54 i1:Int):
  wp (Zov big q hits e n i false t46 t47 t48 t53 t54 i1 hits (hits.length:Int) 0 a (fOf s)) (fun x=>x=(q,hits,e,n,true,t46,t47,t48,t53,t54,i1,a,fOf s)):=by
 obtain⟨p,hp,hpe⟩:=List.getElem_of_mem hmem;refine Zxm Zzq hits (by omega) (fun k (f:Bool)=>(q,hits,e,n,i,f,t46,t47,t48,t53,t54,i1,hits,(hits.length:Int),k,a,fOf s)) (fun k f=>p < k→f=true) false (fun h=>absurd h (Nat.not_lt_zero _)) ?_ ?_
 ·rintro rec k f hk hf ih;unfold ZrM ZpS;dsimp only;have j2:∀f':Bool,(p < k+1→f'=true)→wp (Zoy (fun q hits e n i found t46 t47 t48 t53 t54 i_1 t77 t78 t79 a s=>rec (q,hits,e,n,i,found,t46,t47,t48,t53,t54,i_1,t77,t78,t79,a,s)) q hits e n i f' t46 t47 t48 t53 t54 i1 hits (hits.length:Int) (k:Int) a (fOf s)) (fun x=>x=(q,hits,e,n,true,t46,t47,t48,t53,t54,i1,a,fOf s)):=by intro f' hf';unfold Zoy;rw[ZnH];exact⟨ZnI (by omega),ih f' hf'⟩
  rw[decide_eq_true (show (k:Int) < (hits.length:Int) by omega),cond_true,ZsQ hk,ZOX];cases f with
  |true=>rw[cond_true];exact j2 true fun _=>rfl
  |false=>
   rw[cond_false];have hpk:¬p < k:=fun h=>by have:=hf h;cases this
   haveI:Gdm hits[k]:=inferInstance;obtain⟨z,hz,hzs⟩:=(inferInstance:Gdm hits[k]).ok;have h1s:Sz 22 (1 - s):=ZD7.sub hs
   by_cases e1:p=k
   ·subst e1;rw[hpe];dsimp only;rw[show (a.ID == a.ID&&(i == i&&true))=true by simp,cond_true,ZDV 1 (by decide) (by decide),ZOX];rw[show ((1:Int):Rat)=1 from rfl,ZFW ZD7 hs (by decide),ZOX,ZD1 _ _ (h1s.wq (by decide)) (h1s.wq (by decide)),ZOX,decide_eq_true rfl];exact j2 true fun _=>rfl
   ·rw[ZnV];refine⟨fun _=> ?_,fun _=>j2 false fun h=>by omega⟩;rw[ZDV 1 (by decide) (by decide),ZOX,show ((1:Int):Rat)=1 from rfl,ZFW ZD7 hs (by decide),ZOX,hz,ZD1 _ _ (hzs.wq (by decide)) (h1s.wq (by decide)),ZOX];exact j2 _ fun h=>by omega
 ·rintro rec f hf;unfold ZrM ZpS;dsimp only;rw[decide_eq_false (show ¬(hits.length:Int) < (hits.length:Int) by omega),cond_false,ZnD,hf hp]
theorem ZHV {own:List Rat} (ho:∀q∈own,Sz 400 q) (hn:own.length≤200) {hits:List Zpm} [Gds hits] (hl:hits.length≤1000) {a:ZnB} (ht:a.Columns.length≤6∧∀c∈a.Columns,c.Cells.length≤12∧ZEK c.Cells)
  (hin:∀x∈ZBZ own a a.Columns.length,x∈hits) (h90:a.ID=90→∀c∈a.Columns,∀q,ZDI own (ZCz c.Cells)=some q→q=0) (e:Int) (n0:Nat) (hn0:n0≤1000) (L:List ZnB) (t47 t48:Int):
  wp (ZnW big (own.map fOf) hits e (n0:Int) L t47 t48 a.Columns (a.Columns.length:Int) 0 a) (fun x=>x= .brk (own.map fOf,hits,e,((n0+(ZBZ own a a.Columns.length).length:Nat):Int),L,t47,t48)):=by
 have hcl:=ht.1;refine Zxm Zzr a.Columns (by omega) (fun i (n:Nat)=>(own.map fOf,hits,e,(n:Int),L,t47,t48,a.Columns,(a.Columns.length:Int),i,a)) (fun i n=>n=n0+(ZBZ own a i).length) n0 (by simp[ZBZ]) ?_ ?_
 ·rintro rec i n hi rfl ih;have hc:=ht.2 _ (ZOO hi);have hnl:=ZCV a.Columns[i].Cells;have hkl:=ZEf own a i;have hsucc:=ZEF own a i hi;unfold ZrN ZpT Zqm Zpa;dsimp only;obtain⟨hd,hz⟩:=ZE0 ho (ZDx (l:=a.Columns[i].Cells)) hn (by omega);rw[decide_eq_true (show (i:Int) < (a.Columns.length:Int) by omega),cond_true,ZsQ hi,ZOX,ZCA hc.2 hc.1,ZOX,hd,ZOX];have skip:ZGx own a.ID i a.Columns[i]=none→wp (chk (inK .i64 ((i:Int)+1)) <| rec (own.map fOf,hits,e,((n0+(ZBZ own a i).length:Nat):Int),L,t47,t48,a.Columns,(a.Columns.length:Int),(i:Int)+1,a)) (fun x=>x= .brk (own.map fOf,hits,e,((n0+(ZBZ own a a.Columns.length).length:Nat):Int),L,t47,t48)):=by intro h;rw[ZnH];exact⟨ZnI (by omega),ih _ (by rw[hsucc,h];simp)⟩
  cases hq:ZDI own (ZCz a.Columns[i].Cells)with
  |none=>
   dsimp only;rw[show ((5:Int) != 0)=true from rfl,cond_true,cond_true];exact skip (by unfold ZGx;rw[hq])
  |some q=>
   have hzq:=hz q hq;dsimp only;rw[show ((0:Int) != 0)=false from rfl,cond_false,ZDV 1 (by decide) (by decide),ZOX,show ((1:Int):Rat)=1 from rfl,ZFk (hzq.wq (by decide)) (ZD7.wq (by decide)),ZOX]
   by_cases h1:q < 1
   ·rw[decide_eq_true h1,ZLj,cond_false,ZnH,ZnE];have hh:ZGx own a.ID i a.Columns[i]=some ⟨⟨a.ID,(i:Int)⟩,fOf (1 - q)⟩:=by unfold ZGx;rw[hq];dsimp only;rw[if_pos h1]
    have hm:(⟨⟨a.ID,(i:Int)⟩,fOf (1 - q)⟩:Zpm)∈hits:=hin _ (by
     unfold ZBZ;exact List.mem_filterMap.2 ⟨i,List.mem_range.2 hi,by rw[ZON hi,ZOX,hh]⟩)
    refine⟨ZnI (by omega),ZnM (ZH6 hl hzq hm _ _ _ _ _ _ _ _ _) ?_⟩;rintro _ rfl;have nxt:wp (Zox (fun q hits e n t46 t47 t48 t53 t54 i a=>rec (q,hits,e,n,t46,t47,t48,t53,t54,i,a)) (own.map fOf) hits e (((n0+(ZBZ own a i).length:Nat):Int)+1) L t47 t48 a.Columns (a.Columns.length:Int) (i:Int) false a) (fun x=>x= .brk (own.map fOf,hits,e,((n0+(ZBZ own a a.Columns.length).length:Nat):Int),L,t47,t48)):=by unfold Zox Zpa;rw[cond_false,ZnH];have:=ih (n0+(ZBZ own a (i+1)).length) rfl;rw[hsucc,hh,Option.toList_some,ZOP,ZOQ]at this;rw[show ((n0+(ZBZ own a i).length:Nat):Int)+1=((n0+((ZBZ own a i).length+1):Nat):Int) by omega];exact⟨ZnI (by omega),this⟩
    unfold ZsJ;dsimp only;rw[ZLj,cond_false]
    by_cases h90':a.ID=90
    ·have hq0:=h90 h90' _ (ZOO hi) q hq;rw[show (a.ID == 90)=true by rw[h90'];rfl,cond_true,ZGy,ZOX,hq0,ZD1 _ _ (ZFD.wq (by decide)) (ZFD.wq (by decide)),ZOX,decide_eq_true rfl,ZLj];exact nxt
    ·rw[beq_eq_false_iff_ne.2 h90',cond_false];exact nxt
   ·rw[decide_eq_false h1,Bool.not_false,cond_true];exact skip (by unfold ZGx;rw[hq];dsimp only;rw[if_neg h1])
 ·rintro rec n rfl;unfold ZrN ZpT;dsimp only;rw[decide_eq_false (show ¬(a.Columns.length:Int) < (a.Columns.length:Int) by omega),cond_false,ZnD]
theorem ZHW {own:List Rat} (ho:∀q∈own,Sz 400 q) (hn:own.length≤200) {hits:List Zpm} [Gds hits] (hl:hits.length≤1000) {L:List ZnB} (hL:ZIf L)
  (hin:∀x∈ZCL own L,x∈hits) (h90:∀a∈L,a.ID=90→∀c∈a.Columns,∀q,ZDI own (ZCz c.Cells)=some q→q=0) (e:Int):
  wp (Zow big (own.map fOf) hits e 0 L (L.length:Int) 0) (fun x=>x= .brk (hits,e,((ZCL own L).length:Int))):=by
 have hll:=hL.len;refine Zxm Zzs L (by omega) (fun i (n:Nat)=>(own.map fOf,hits,e,(n:Int),L,(L.length:Int),i)) (fun i n=>n=(ZCL own (L.take i)).length) 0 rfl ?_ ?_
 ·rintro rec i n hi rfl ih;have hlen:=ZC0 own (L.take i) fun t ht=>(hL.cols t (List.mem_of_mem_take ht)).1
  rw[ZOR]at hlen;rw[ZOV hi,ZEE,ZOP]at ih;unfold ZrO ZpU ZsI;dsimp only;have hm:=ZOO hi;rw[decide_eq_true (show (i:Int) < (L.length:Int) by omega),cond_true,ZsQ hi,ZOX,ZnE];refine ZnM (ZHV ho hn hl (hL.cols _ hm) (fun x hx=>hin x (List.mem_flatMap.2 ⟨_,hm,hx⟩)) (h90 _ hm) e _ (by omega) L (L.length:Int) (i:Int)) ?_;rintro _ rfl;dsimp only;rw[ZnH];exact⟨ZnI (by omega),ih _ rfl⟩
 ·rintro rec n rfl;unfold ZrO ZpU;dsimp only;rw[decide_eq_false (show ¬(L.length:Int) < (L.length:Int) by omega),cond_false,ZnD,List.take_length]
theorem ZHS {hits:List Zpm} [Gds hits] (hl:hits.length≤1000) (hs:hits.Pairwise Le) (e n:Int):wp (Zo8 big hits e n 1) (fun x=>x= .brk (hits,e,n)):=by
 have hp:=List.pairwise_iff_getElem.1 hs;refine ZoV Zzp (fun i:Nat=>(hits,e,n,(i:Int))) (fun i=>1≤i) (fun i=>hits.length+1 - i) (Q:=fun x=>x= .brk (hits,e,n)) 1 (ZOW _) (by omega) ?_;rintro rec i hi ih;unfold Zvp ZrL;dsimp only
 by_cases hc:i < hits.length
 ·have h1:i - 1 < hits.length:=by omega
  have hle:=hp (i - 1) i h1 hc (by omega);obtain⟨x,hx,hxs⟩:=(inferInstance:Gdm hits[i - 1]).ok;obtain⟨y,hy,hys⟩:=(inferInstance:Gdm hits[i]).ok;unfold Le ZAf at hle;rw[hx,hy,ZEU,ZEU]at hle;have hnl:¬x < y:=fun h=>by have h2:=(ZET x y).2 h;have h3:=ZER x y;rw[if_pos (by omega)]at hle;omega
  rw[decide_eq_true (show (i:Int) < (hits.length:Int) by omega),cond_true,ZnH,show (i:Int) - 1=((i - 1:Nat):Int) by omega,ZsQ h1,ZOX,ZsQ hc,ZOX,hx,hy,ZFk (hxs.wq (by decide)) (hys.wq (by decide)),ZOX,decide_eq_false hnl,cond_false,ZnH];exact⟨ZnI (by omega),ZnI (by omega),ih (i+1) (by omega) (by omega)⟩
 ·rw[decide_eq_false (show ¬(i:Int) < (hits.length:Int) by omega),cond_false,ZnD]
theorem ZI3 {m:Nat} {b:Int} {l:List ZnB} (h:ZEs m b l) (hm:m≤10):ZIf l:=by refine⟨by have:=h.len;omega,fun t ht=> ?_⟩;have h1:=(h.ok t ht).1;obtain⟨n,hn,hc⟩:=h1.rows;refine⟨by have:=h1.cols;omega,fun c hcm=>⟨by have:=(hc c hcm).2.1;omega,fun x hx=>(hc c hcm).2.2 x hx⟩⟩
theorem quantileLists_law (t:List Int):Zq3 t=some true:=by
 refine ZrY ?_;unfold Zq3 Zwq ZwO;rw[ZOX]
 by_cases hlt:(t.length:Int)≤500
 ·rw[decide_eq_true hlt,ZLj,cond_false,ZnE,ZnD,ZnE];refine ZnM (ZGF (d:=⟨t,0⟩) ⟨by simp,by simp,by simp only;omega⟩ (most:=4) (by omega) (by omega)) ?_;rintro⟨l,d1⟩ ⟨⟨hl,hl1⟩,hd1⟩;dsimp only at hl hl1 hd1⊢
  rw[ZnE];refine ZnM (ZFq hd1 6 (by omega)) ?_;rintro⟨c,d2⟩ ⟨hc,hd2⟩;dsimp only at hc hd2⊢
  have hcells:c.Cells.length≤12∧ZEK c.Cells:=⟨by have:=hc.2.1;omega,fun x hx=>hc.2.2 x hx⟩;have hlen:=hl.len;rw[ZCA hcells.2 hcells.1,ZnE,ZnD,ZnH];refine⟨Zvm (by rw[ZOQ];omega), ?_⟩;obtain⟨T,hT⟩:∃T:ZnB,T=ZnB.mk 90 [] [ZnO.mk [115,97,109,101] c.Cells]:=⟨_,rfl⟩;rw[←hT];have hTD:ZDO T:=by
   rw[hT];have e1:([]:Str)∈ZB0:=by decide+kernel
   have e2:([115,97,109,101]:Str)∈ZB0:=by decide+kernel
   refine⟨by dsimp only;omega,e1,by simp,6,by omega,fun x hx=> ?_⟩;rw[ZOT.1 hx];exact⟨e2,hc.2.1,hc.2.2⟩
  have hTi:T.ID=90:=by rw[hT]
  obtain⟨L,hL⟩:∃L,L=l++[T]:=⟨_,rfl⟩;have hLD:ZEs 5 90 L:=hL▸hl.snoc hTD hTi (by omega);rw[←hL];have hLQ:=ZI3 hLD (by omega);have ho:∀q∈ZCz c.Cells,Sz 400 q:=ZDx;have hol:=ZCV c.Cells;have hcl:=hcells.1;rw[ZnE];refine ZnM (ZK4 hLQ (ZFe hLD (by omega)) hcells (k:=1024) (by omega) (by omega)) ?_;rintro _ ⟨H,hp,hs,rfl⟩;dsimp only;have hHl:=hp.length_eq;have hhl:=ZC0 (ZCz c.Cells) L fun t ht=>(hLQ.cols t ht).1
  have hLlen:=hLQ.len;rw[ZOU (show H.length≤(1024:Int).toNat by show H.length≤1024;omega)];haveI:=ZF9 ho (by omega) hLQ;haveI:Gds H:=Gds.perm hp;rw[ZnE];refine ZnM (ZHW ho (by omega) (hits:=H) (by omega) hLQ (fun x hx=>hp.mem_iff.2 hx) (fun a ha h90 x hx q hq=> ?_) 0) ?_
  ·have haT:a=T:=by
    rw[hL]at ha;rcases ZOS.1 ha with ha |ha
    ·have:=(hl.ok a ha).2;omega
    ·exact ZOT.1 ha
   rw[haT,hT]at hx;have hxc:x=ZnO.mk [115,97,109,101] c.Cells:=ZOT.1 hx;rw[hxc]at hq;dsimp only at hq
   by_cases h0:(ZCz c.Cells).length=0
   ·unfold ZDI at hq;rw[if_pos (.inl h0)]at hq;cases hq
   ·rw[ZGs h0 ho (by omega)]at hq;exact(ZOY hq).symm
  ·rintro _ rfl;dsimp only;unfold ZsH;rw[ZnE];refine ZnM (ZHS (by omega) hs _ _) ?_;rintro _ rfl;dsimp only;unfold ZsG Zo9;rw[show ((0:Int) == 0)=true from rfl,cond_true,hHl,show (((ZCL (ZCz c.Cells) L).length:Int) == ((ZCL (ZCz c.Cells) L).length:Int))=true by simp,cond_true,ZHb,ZOX,ZnD]
 ·rw[decide_eq_false hlt,Bool.not_false,cond_true,ZHb,ZOX,ZnD]
end Go.Proofs
namespace Eng
open Go Go.Lib
theorem globOk_one {Pg:Program} {w:World} {n:String} {g:Nat} {t e:TypeId} {k:IntKind} {z:Int} (hn:Pg.globalNamed n=some g) (hty:(Pg.globals[g]?).map (·.type)=some t)
  (ht:Pg.underlying t=some (.slice e)) (he:Pg.underlying e=some (.int k)) (hce:Pg.cellsOf e=1) (hz:k.min≤z∧z≤k.max)
  (h:VarReads Pg w n (.slice [.lit (.int k z)] [])):Zej w (fun b=>b < w.heap.size) g [P.sl 1 [.int k z]]:=by
 obtain⟨g',t',cs,fuel,p,hg,hty',hvar,hd⟩:=h;obtain rfl:=ZOY (hn.symm.trans hg);obtain rfl:=ZOY (hty.symm.trans hty');rcases DataW.trod_slice ht hd with ⟨_,hx⟩ |⟨a,len,cap,elems,rest,m,_,hcs,hx,_,hl,hcap,hlen,hel,_,_⟩
 ·cases congrArg Prod.fst hx
 ·have e0:=congrArg Prod.fst hx;simp only[DataW.slice.injEq]at e0;obtain⟨e1,_⟩:=e0
  match elems,e1 with
  | [(d,q)],e1=>
   simp only[List.map_cons,List.map_nil,List.cons.injEq,and_true]at e1;subst e1;have hlen1:len=1:=by simpa using hlen.symm
   subst hlen1;obtain⟨ci,hci,htr⟩:=Option.bind_eq_some_iff.1 (hel 0 (by decide));obtain⟨z',hc,hxx,_⟩:=DataW.trod_int he htr;have hzz:z'=z:=by have:=congrArg Prod.fst hxx;simpa using this.symm
   subst hzz;subst hc;rw[hce,Nat.zero_mul]at hci;obtain⟨_,_,hc2⟩:=World.cells?_some hci;have h0:=hc2 0 (by decide);have hb:w.cell? a=some (.int k z'):=by simpa[Addr.add]using h0
   have hspot:a.spot=none:=by
    unfold World.cell? at hb;cases hs:a.spot with
    |none=>rfl
    |some s=>rw[hs]at hb;split at hb<;>simp at hb
   have ha:a=⟨a.block,a.off,none⟩:=by cases a;simp at hspot;subst hspot;rfl
   have hlt:a.block < w.heap.size:=ZjV (by rw[ha]at hb;exact hb);have hcs1:cs.size=1:=by have:=congrArg List.length hcs;simpa using this
   refine ZC2 (t:=0) (fr:= #[]) (ZDX hn hvar) _ (by rw[hcs1];rfl) fun j v p hv hp=> ?_
   have hj:j=0:=by have:=(Array.getElem?_eq_some_iff.1 hv).1;omega
   subst hj;simp only[ZOM,Option.some.injEq]at hp;subst hp;rw[←Array.getElem?_toList,hcs]at hv;simp only[ZOM,Option.some.injEq]at hv;subst hv;refine⟨.sl (some a) 1 cap _ _ (fun _=> .int k z') rfl (by decide) hl (fun i hi=>rfl) (fun i hi=> ?_) (fun i x hx=> ?_),rfl⟩
   ·have hi0:i=0:=by omega
    subst hi0;refine⟨a.block,a.off,by rw[←ha],hlt,fun j v hv=> ?_⟩;have hj:=(Array.getElem?_eq_some_iff.1 hv).1;have hj0:j=0:=by have:(Value.int k z').cells.size=1:=rfl;omega
    subst hj0;have hvv:v= .int k z':=by have:(Value.int k z').cells[0]? =some (.int k z'):=rfl;exact ZOY (hv.symm.trans this)
    subst hvv;rw[ha]at hb;simpa using hb
   ·have hi0:i=0:=by have:=(List.getElem?_eq_some_iff.1 hx).1;simp at this;omega
    subst hi0;simp only[ZOM,Option.some.injEq]at hx;subst hx;exact .int k z' hz.1 hz.2
end Eng
