/- Plain laws over the specs, part 3. -/
import Derived.Test.YtdmabekeafhflaaGreatDoorUsM2
import Derived.Test.YtdmabekeafhflaaGreatDoorQ
set_option linter.unusedVariables false
set_option linter.unusedSimpArgs false
set_option linter.unusedSectionVars false
open List renaming getElem_mem→ZNN, getElem?_cons_zero→ZKj
open Option renaming bind_some→ZNO
namespace Go.Proofs
open Go Eng
def ZCQ (t:ZoG):Prop:=∀c∈t.Columns,(c.Cells.length:Int)=ZrB t
theorem ZHk {t:ZoG} (h:ZMr t):ZCP t:=by obtain⟨n,hn,hc⟩:=h.rows;refine⟨ZIl h,by have:=h.cols;omega,fun c hcm=> ?_⟩;obtain⟨h1,h2,h3⟩:=hc c hcm;refine⟨by have:=(ZFV h1).2;omega,by omega,fun x hx=> ?_⟩;have:=(ZFV (h3 x hx).1).2;omega
theorem ZC9 {t:ZoG} (h:ZMr t):ZCQ t∧0≤ZrB t∧ZrB t≤6:=by
 obtain⟨n,hn,hc⟩:=h.rows;have hr:∀c∈t.Columns,ZrB t=(n:Int):=fun c hcm=>by
  unfold ZrB;cases hcs:t.Columns with
  |nil=>rw[hcs]at hcm;cases hcm
  |cons d l=>rw[←(hc d (by rw[hcs];simp)).2.1]
 refine⟨fun c hcm=>by rw[hr c hcm,(hc c hcm).2.1], ?_⟩;cases hcs:t.Columns with
 |nil=>unfold ZrB;rw[hcs];decide
 |cons d l=>rw[hr d (by rw[hcs];simp)];omega
theorem ZI7 {a b:ZoG} (ha:ZCP a) (hb:ZCP b):ZNM a b (ZAw (ZCE a b) 0):=by have hm:=ZDK ha hb;obtain⟨h1,h2⟩:=ZCM (m:=b.Columns.length) (by have:=hb.cols;omega) (ZCE a b) 0 (by omega) hm.len;exact⟨by rw[ZDs,ZCE,List.length_map],fun k hk=>⟨(h1 k hk).1,(h1 k hk).2.1⟩,h2⟩
theorem ZF9 {b:ZoG} (hb:ZCQ b) (h0:0≤ZrB b) {k:Int} (hk: -1≤k∧k < (b.Columns.length:Int)):((ZAh b k).length:Int)=ZrB b:=by
 unfold ZAh
 by_cases h:0≤k
 ·have hkl:k.toNat < b.Columns.length:=by omega
  rw[if_pos h,List.getElem?_eq_getElem hkl];exact hb _ (ZNN hkl)
 ·rw[if_neg h,List.length_replicate];omega
theorem ZII {a b:ZoG} {l:List Int} (ha:ZCP a) (hb:ZCP b) (hra:ZCQ a) (hrb:ZCQ b) (h0a:0≤ZrB a∧ZrB a≤100) (h0b:0≤ZrB b∧ZrB b≤10) (hl:ZNM a b l):
  wp (ZoY big l (ZrB a) (ZrB b) (ZvO a b l).Columns ((ZvO a b l).Columns.length:Int) 0 a b) (fun x=>x= .brk ()):=by
 have hac:=ha.cols;have hll:=hl.len;have hlen:(ZvO a b l).Columns.length=a.Columns.length:=by simp[ZvO];omega
 refine ZwV Zvq (ZvO a b l).Columns (by omega) (fun i (_:Unit)=>(l,ZrB a,ZrB b,(ZvO a b l).Columns,((ZvO a b l).Columns.length:Int),i,a,b)) (fun _ _=>True) () trivial ?_ ?_
 ·rintro rec k _ hk _ ih;unfold Zp6 Zps;dsimp only;have hka:k < a.Columns.length:=by omega
  have hkl:k < l.length:=by omega
  have hrng:=hl.rng _ (ZNN hkl);have hc:(ZvO a b l).Columns[k]=ZuG b a.Columns[k] l[k]:=by simp[ZvO]
  have hA:=hra _ (ZNN hka);have hB:=ZF9 hrb h0b.1 hrng;rw[decide_eq_true (show (k:Int) < ((ZvO a b l).Columns.length:Int) by omega),cond_true,ZsV hk,ZNO,hc,ZoO];refine⟨ZoS (by omega), ?_⟩;have hcl:((ZuG b a.Columns[k] l[k]).Cells.length:Int)=ZrB a+ZrB b:=by unfold ZuG;rw[List.length_append];omega
  rw[show (((ZuG b a.Columns[k] l[k]).Cells.length:Int) != ZrB a+ZrB b)=false by rw[hcl];simp,cond_false,ZsV hka,ZNO];unfold Zpy;rw[show (!((ZuG b a.Columns[k] l[k]).Name == a.Columns[k].Name))=false by simp[ZuG],cond_false,ZoN];refine ZoW (ZwV Zvp (ZuG b a.Columns[k] l[k]).Cells (by omega) (fun r (_:Unit)=>(l,ZrB a,ZrB b,(k:Int),(ZvO a b l).Columns,((ZvO a b l).Columns.length:Int),(k:Int),(ZuG b a.Columns[k] l[k]).Cells,((ZuG b a.Columns[k] l[k]).Cells.length:Int),r,a,b)) (fun _ _=>True)
   (Q:=fun x=>x= .brk (l,ZrB a,ZrB b,(ZvO a b l).Columns,((ZvO a b l).Columns.length:Int),(k:Int),a,b)) () trivial ?_ ?_) ?_
  ·rintro rec r _ hr _ ih;unfold Zp5 Zpr;dsimp only;rw[decide_eq_true (show (r:Int) < ((ZuG b a.Columns[k] l[k]).Cells.length:Int) by omega),cond_true,ZsV hr,ZNO];have fin:∀y want:ZoP,y=want→wp (Zo6 (fun l n m i t81 t82 i_1 t107 t108 r_ a b=>rec (l,n,m,i,t81,t82,i_1,t107,t108,r_,a,b)) l (ZrB a) (ZrB b) (k:Int) (ZvO a b l).Columns ((ZvO a b l).Columns.length:Int) (k:Int) (ZuG b a.Columns[k] l[k]).Cells ((ZuG b a.Columns[k] l[k]).Cells.length:Int) (r:Int) a b y want)
     (fun x=>x= .brk (l,ZrB a,ZrB b,(ZvO a b l).Columns,((ZvO a b l).Columns.length:Int),(k:Int),a,b)):=by
    rintro y _ rfl;unfold Zo6;rw[show (!(y.Null == y.Null&&(y.Text == y.Text&&true)))=false by simp,cond_false,ZoO];exact⟨ZoS (by omega),ih () trivial⟩
   by_cases hrn:(r:Int) < ZrB a
   ·have hrc:r < a.Columns[k].Cells.length:=by omega
    rw[decide_eq_true hrn,cond_true,ZsV hka,ZNO,ZsV hrc,ZNO];refine fin _ _ ?_;simp only[ZuG];rw[List.getElem_append_left hrc]
   ·rw[decide_eq_false hrn,cond_false,ZsV hkl,ZNO];have hge:a.Columns[k].Cells.length≤r:=by omega
    have hy:(ZuG b a.Columns[k] l[k]).Cells[r]=(ZAh b l[k])[r - a.Columns[k].Cells.length]'(by
      have:=hr;simp only[ZuG,List.length_append]at this;omega):=by
     simp only[ZuG];rw[List.getElem_append_right hge]
    by_cases h0:0≤l[k]
    ·have hkb:(l[k]).toNat < b.Columns.length:=by omega
     have hbel:ZAh b l[k]=b.Columns[(l[k]).toNat].Cells:=by unfold ZAh;rw[if_pos h0,List.getElem?_eq_getElem hkb]
     have hrb':((r:Int) - ZrB a).toNat < b.Columns[(l[k]).toNat].Cells.length:=by have h1:=hrb _ (ZNN hkb);omega
     rw[decide_eq_true (show l[k]≥0 from h0),cond_true,ZNO,Zin h0 hkb,ZNO,ZoO];refine⟨ZoS (by omega), ?_⟩;rw[Zin (by omega) hrb',ZNO];refine fin _ _ ?_;rw[hy];have e:r - a.Columns[k].Cells.length=((r:Int) - ZrB a).toNat:=by omega
     simp only[hbel,e]
    ·rw[decide_eq_false (show ¬l[k]≥0 from h0),cond_false];refine fin _ _ ?_;rw[hy];have hbel:ZAh b l[k]=List.replicate (ZrB b).toNat ZDJ:=by unfold ZAh;rw[if_neg h0]
     simp only[hbel,List.getElem_replicate];rfl
  ·rintro rec _ _;unfold Zp5 Zpr;dsimp only;rw[decide_eq_false (show ¬((ZuG b a.Columns[k] l[k]).Cells.length:Int) < ((ZuG b a.Columns[k] l[k]).Cells.length:Int) by omega),cond_false,ZoK]
  rintro _ rfl;dsimp only;unfold Zqj;rw[ZoO];exact⟨ZoS (by omega),ih () trivial⟩
 ·rintro rec _ _;unfold Zp6 Zps;dsimp only;rw[decide_eq_false (show ¬((ZvO a b l).Columns.length:Int) < ((ZvO a b l).Columns.length:Int) by omega),cond_false,ZoK]
theorem unionsearchStacks_law (t:List Int):ZqN t=some true:=by
 apply Zq0;unfold ZqN ZvG;rw[ZNO]
 by_cases hlt:(t.length:Int)≤500
 ·rw[decide_eq_true hlt,Bool.not_true,cond_false];unfold Zwd;rw[ZNO,ZoN];refine ZoW (ZEa (d:=⟨t,0⟩) (show Zxj ⟨t,0⟩from ⟨Int.le_refl 0,by simp,by show t.length≤500;omega⟩) (id:=1) (by decide)) ?_;rintro⟨a,d1⟩ ⟨⟨hA,_⟩,hd1⟩;dsimp only at hA hd1⊢
  rw[ZoN];refine ZoW (ZEa hd1 (id:=2) (by decide)) ?_;rintro⟨b,d2⟩ ⟨⟨hB,_⟩,_⟩;dsimp only at hB⊢
  have ha:=ZHk hA;have hb:=ZHk hB;obtain⟨hra,h0a,h1a⟩:=ZC9 hA;obtain⟨hrb,h0b,h1b⟩:=ZC9 hB;have hal:=ZI7 ha hb;have hsz:=ZGJ ha hb;have hsc:=ZDb ha.cols hb.cols;rw[ZEu ha hb,ZNO];dsimp only;generalize ZAw (ZCE a b) 0=l at hal;rw[ZEb ha hb ⟨h0a,by omega⟩ ⟨h0b,by omega⟩ hal,ZNO];dsimp only;have hlen:(ZvO a b l).Columns.length=a.Columns.length:=by have:=hal.len;simp[ZvO];omega
  rw[show ((0:Int) != 0)=false from rfl,cond_false,cond_false,show (((ZvO a b l).Columns.length:Int) != (a.Columns.length:Int))=false by rw[hlen];simp,cond_false,
   show (((l.length:Nat):Int) != (a.Columns.length:Int))=false by rw[hal.len];simp,cond_false,ZE8,ZNO,ZFH (hsz.wq (by omega)) (ZAY.wq (by omega)),ZNO,decide_eq_false (by have:=hsc.1;grind),cond_false,
   ZFJ,ZNO,ZF0 (hsz.wq (by omega)) (ZB5.wq (by omega)),ZNO,show decide (ZCy (ZzX a b) 1 > 0)=false by rw[ZB8];exact decide_eq_false (by have:=hsc.2;grind)]
  unfold ZoV;rw[cond_false,ZCw,ZNO,ZCw,ZNO,ZoN];refine ZoW (ZII ha hb hra hrb ⟨h0a,by omega⟩ ⟨h0b,by omega⟩ hal) ?_;rintro _ rfl;dsimp only;unfold Zqi;rw[ZGa];exact ZoK.2 rfl
 ·rw[decide_eq_false hlt,Bool.not_false,cond_true,ZGa];exact ZoK.2 rfl
end Go.Proofs
namespace Eng
open Go Go.Lib
theorem globOk_one {Pg:Program} {w:World} {n:String} {g:Nat} {t e:TypeId} {k:IntKind} {z:Int} (hn:Pg.globalNamed n=some g) (hty:(Pg.globals[g]?).map (·.type)=some t)
  (ht:Pg.underlying t=some (.slice e)) (he:Pg.underlying e=some (.int k)) (hce:Pg.cellsOf e=1) (hz:k.min≤z∧z≤k.max)
  (h:VarReads Pg w n (.slice [.lit (.int k z)] [])):ZeC w (fun b=>b < w.heap.size) g [P.sl 1 [.int k z]]:=by
 obtain⟨g',t',cs,fuel,p,hg,hty',hvar,hd⟩:=h;obtain rfl:=Option.some.inj (hn.symm.trans hg);obtain rfl:=Option.some.inj (hty.symm.trans hty');rcases DataW.trod_slice ht hd with ⟨_,hx⟩ |⟨a,len,cap,elems,rest,m,_,hcs,hx,_,hl,hcap,hlen,hel,_,_⟩
 ·cases congrArg Prod.fst hx
 ·have e0:=congrArg Prod.fst hx;simp only[DataW.slice.injEq]at e0;obtain⟨e1,_⟩:=e0
  match elems,e1 with
  | [(d,q)],e1=>
   simp only[List.map_cons,List.map_nil,List.cons.injEq,and_true]at e1;subst e1;have hlen1:len=1:=by simpa using hlen.symm
   subst hlen1;obtain⟨ci,hci,htr⟩:=Option.bind_eq_some_iff.1 (hel 0 (by decide));obtain⟨z',hc,hxx,_⟩:=DataW.trod_int he htr;have hzz:z'=z:=by have:=congrArg Prod.fst hxx;simpa using this.symm
   subst hzz;subst hc;rw[hce,Nat.zero_mul]at hci;obtain⟨_,_,hc2⟩:=World.cells?_some hci;have h0:=hc2 0 (by decide);have hb:w.cell? a=some (.int k z'):=by simpa[Addr.add]using h0
   have hspot:a.spot=none:=by
    unfold World.cell? at hb;cases hs:a.spot with
    |none=>rfl
    |some s=>rw[hs]at hb;split at hb<;>simp at hb
   have ha:a=⟨a.block,a.off,none⟩:=by cases a;simp at hspot;subst hspot;rfl
   have hlt:a.block < w.heap.size:=ZhN (by rw[ha]at hb;exact hb);have hcs1:cs.size=1:=by have:=congrArg List.length hcs;simpa using this
   refine ZAb (t:=0) (fr:= #[]) (ZBr hn hvar) _ (by rw[hcs1];rfl) fun j v p hv hp=> ?_
   have hj:j=0:=by have:=(Array.getElem?_eq_some_iff.1 hv).1;omega
   subst hj;simp only[ZKj,Option.some.injEq]at hp;subst hp;rw[←Array.getElem?_toList,hcs]at hv;simp only[ZKj,Option.some.injEq]at hv;subst hv;refine⟨.sl (some a) 1 cap _ _ (fun _=> .int k z') rfl (by decide) hl (fun i hi=>rfl) (fun i hi=> ?_) (fun i x hx=> ?_),rfl⟩
   ·have hi0:i=0:=by omega
    subst hi0;refine⟨a.block,a.off,by rw[←ha],hlt,fun j v hv=> ?_⟩;have hj:=(Array.getElem?_eq_some_iff.1 hv).1;have hj0:j=0:=by have:(Value.int k z').cells.size=1:=rfl;omega
    subst hj0;have hvv:v= .int k z':=by have:(Value.int k z').cells[0]? =some (.int k z'):=rfl;exact Option.some.inj (hv.symm.trans this)
    subst hvv;rw[ha]at hb;simpa using hb
   ·have hi0:i=0:=by have:=(List.getElem?_eq_some_iff.1 hx).1;simp at this;omega
    subst hi0;simp only[ZKj,Option.some.injEq]at hx;subst hx;exact .int k z' hz.1 hz.2
end Eng
