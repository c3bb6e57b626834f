/- Plain laws over the specs, part 5. -/
import Derived.Test.YtcjejmbjlhlkhaaGreatDoorCtM4
import Derived.Test.YtcjejmbjlhlkhaaGreatDoorQ
import Derived.Test.YtcjejmbjlhlkhaaGreatDoorE4
import Derived.Test.YtcjejmbjlhlkhaaGreatDoorCtU
set_option linter.all false
open Bool renaming not_true->Z3Q, not_false->ZYu
open Int renaming toNat_natCast->Z3R
open List renaming getElem_mem->Z3U, length_singleton->Z3X, length_append->Z3V, getElem?_eq_getElem->Z3T, length_take->Z3Y, mem_append->Z3Z, mem_singleton->Z32, mem_map->Z30, length_drop->Z3W, take_succ_eq_append_getElem->Z35, take_length->Z33, mem_of_mem_take->Z31, take_of_length_le->Z34, getElem?_cons_zero->Z3S
open Nat renaming le_refl->Z36
open Option renaming bind_some->Z37, some.inj->Z38
namespace Go.Proofs
open Go Eng
structure OpD (o:Zn6):Prop where
 cols:o.Columns.length<=3
 text:o.Text.length<=1024
def ZQf (t:G_api_Table) (k:Int):Prop:=0<=k/\k < (t.Columns.length:Int)
def ZMT (t:G_api_Table) (o:Zn6):Prop:=((o.Kind=1\/o.Kind=2\/o.Kind=5)->ZQf t o.Column)/\(o.Kind=3->∀k∈o.Columns,ZQf t k)
theorem ZZc {t:G_api_Table} {o:Zn6} (d:OpD o):wp (Zz7 t o) (fun b=>b=true->ZMT t o):=by
 have z:=d.cols;have m:∀a:Bool,(a=true->ZQf t o.Column)->wp (Zue a t o) (fun b=>b=true->ZMT t o):=by
  intro a y;unfold Zue Zud;have v:∀q:Bool,(o.Kind≠1)->(q=true->o.Kind=2\/o.Kind=5)->(o.Kind=2\/o.Kind=5->q=true)->wp (Zuc a o.Kind q t o) (fun b=>b=true->ZMT t o):=by
   intro q c s g;unfold Zuc Zub;cases q with
   |true=>
    grind[ZnL,ZMT]
   |false=>
    have r:¬(o.Kind=2\/o.Kind=5):=fun h=>by simp_all
    rw[cond_false]
    by_cases h3:o.Kind=3
    ·rw[show (o.Kind == 3)=true by simp_all,cond_true,ZnN];refine ZnU (Zr6 ZHf o.Columns (by omega) (fun i (_:Unit)=>(o.Columns,(o.Columns.length:Int),i,t,o)) (fun k _=>∀j (h:j < o.Columns.length),j < k->ZQf t o.Columns[j])
      (Q:=fun x=>x= .ret false\/(x= .brk o/\∀k∈o.Columns,ZQf t k)) () (fun j _ h=>absurd h (Nat.not_lt_zero _)) ?_ ?_) ?_
     ·rintro f k _ n u p;unfold Zzq ZvD Zxf;dsimp only;rw[decide_eq_true (show (k:Int) < (o.Columns.length:Int) by omega),cond_true,Zqc n,Z37]
      by_cases hn:o.Columns[k] < 0
      ·grind[ZnL]
      ·rw[decide_eq_false hn,cond_false]
       by_cases hg:o.Columns[k]>=(t.Columns.length:Int)
       ·grind[ZnL]
       ·rw[decide_eq_false hg,cond_false,ZnO];refine⟨ZnS (by omega),p () fun j w l=> ?_⟩
        by_cases e:j=k
        ·subst e;exact⟨by omega,by omega⟩
        grind
     all_goals grind[Zzq,ZvD,ZnL,List.getElem_of_mem,ZBc,Zua,ZMT]
    grind[Zso,ZMT,ZnL]
  by_cases c:o.Kind=1
  ·grind[ZnL,ZMT]
  ·rw[beq_eq_false_iff_ne.2 c,cond_false]
   by_cases h2:o.Kind=2
   ·simp_all
   ·rw[beq_eq_false_iff_ne.2 h2,cond_false]
    by_cases h5:o.Kind=5
    all_goals grind
 unfold Zz7
 by_cases h0:o.Column>=0
 ·rw[decide_eq_true h0,cond_true];exact m _ fun h=>⟨h0,of_decide_eq_true h⟩
 grind
theorem ZSJ {t:G_api_Table} (h:ZKt t) {x y:Int} (e:0<=x/\x < ZyC t) (g:0<=y/\y < ZyC t):wp (ZxX t x y) (fun _=>True):=by
 obtain⟨n,o,b⟩:=h.rows;have a:=h.cols;unfold ZxX;rw[ZnN];refine ZnU (Zr6 ZGn t.Columns (by omega) (fun i (_:Unit)=>(x,y,t.Columns,(t.Columns.length:Int),i)) (fun _ _=>True) (Q:=fun _=>True) () trivial ?_ ?_) ?_
 ·rintro f k _ d _ j;unfold Zyf Zuz;dsimp only;have m:ZyC t=(n:Int):=by
   unfold ZyC;cases hcs:t.Columns with
   |nil=>simp_all
   |cons c l=>rw[<-(b c (by simp_all)).2.1]
  have p:=(b _ (Z3U d)).2.1;rw[decide_eq_true (show (k:Int) < (t.Columns.length:Int) by omega),cond_true,Zqc d,Z37,ZhT e.1 (show x.toNat < t.Columns[k].Cells.length by omega),Z37,ZhT g.1 (show y.toNat < t.Columns[k].Cells.length by omega),Z37,Zn1];refine⟨fun _=>by grind[ZnL],fun _=> ?_⟩;rw[ZnO];exact⟨ZnS (by omega),j () trivial⟩
 all_goals grind[Zyf,Zuz,ZnL,Zzp]
theorem ZVC (a b:G_api_Cell):wp (Ztp a b) (fun _=>True):=by
 grind[Ztp,wp,Zqx]
theorem ZUE {t:G_api_Table} (h:ZKt t) {o:Zn6} (hdo:ZMT t o) (h3:o.Kind≠3):wp (ZyO t o) (fun r=>r.length<=6/\∀k∈r,0<=k/\k < ZyC t):=by
 obtain⟨n,hn,hc⟩:=h.rows;have hcols:=h.cols;obtain⟨m,hm,hm6⟩:∃m:Nat,ZyC t=(m:Int)/\m<=6:=by
  unfold ZyC;cases hcs:t.Columns with
  |nil=>grind
  |cons c l=>exact⟨n,by rw[<-(hc c (by simp_all)).2.1],hn⟩
 have hcol:∀k,ZQf t k->∃hk:k.toNat < t.Columns.length,0<=k/\(t.Columns[k.toNat]).Cells.length=m:=fun k hk=>by
  have hlt:k.toNat < t.Columns.length:=by have:=hk.1;have:=hk.2;omega
  refine⟨hlt,hk.1, ?_⟩;have h1:=(hc _ (Z3U hlt)).2.1;have h2:ZyC t=(n:Int):=by
   unfold ZyC;cases hcs:t.Columns with
   |nil=>grind
   |cons c l=>rw[<-(hc c (by simp_all)).2.1]
  omega
 unfold ZyO;rw[ZOU,Z37,ZnN,hm];refine ZnU (Zva ZGP m (by omega) (fun i (out:List Int)=>((m:Int),i,t,o,out)) (fun k out=>out.length<=k/\∀x∈out,0<=x/\x < (m:Int))
  (Q:=fun r=>r.length<=6/\∀k∈r,0<=k/\k < (m:Int)) [] ⟨Z36 _,fun c hc=>absurd hc (by simp)⟩ ?_ ?_) ?_
 ·rintro rec r out hr ⟨h1,h2⟩ ih;have put:∀(a:Nat) (keep:Bool),a<=out.length->wp (ZrP (fun t14 r_ t o out=>rec (t14,r_,t,o,out)) (r:Int) (a:Int) (m:Int) (r:Int) keep t o out) (fun r=>r.length<=6/\∀k∈r,0<=k/\k < (m:Int)):=by
   intro a keep ha;unfold ZrP Zwq;cases keep with
   |false=>grind[ZnO,ZnS]
   |true=>
    rw[cond_true,Z3R,Z3R,Nat.sub_zero,List.drop_zero,Z34 (l:=out.drop a) (by simp_all)];simp only[ZnO];refine⟨Zpc (by omega),ZsS (by grind),ZsS (by grind),Zpc (by omega),ZsS (by grind),ZnS (by omega),ih _ ⟨?_,fun x hx=> ?_⟩⟩
    all_goals grind
  unfold ZyN Zvc ZrQ ZAx ZAw;dsimp only;rw[decide_eq_true (show (r:Int) < (m:Int) by omega),cond_true]
  by_cases k1:o.Kind=1
  ·obtain⟨hk,h0,hlen⟩:=hcol _ (hdo.1 (.inl k1));grind[Zqc]
  rw[beq_eq_false_iff_ne.2 k1,cond_false]
  by_cases k2:o.Kind=2
  ·obtain⟨hk,h0,hlen⟩:=hcol _ (hdo.1 (.inr (.inl k2)));grind[Zqc]
  rw[beq_eq_false_iff_ne.2 k2,cond_false]
  by_cases k4:o.Kind=4
  ·rw[show (o.Kind == 4)=true by simp_all,cond_true,ZnN];refine ZnU (Zr6 ZGO out (by omega) (fun i (keep:Bool)=>((r:Int),(out.length:Int),keep,(m:Int),(r:Int),(out.length:Int),i,t,o,out)) (fun _ _=>True) (Q:=fun x=>∃keep,x=((r:Int),(out.length:Int),keep,(m:Int),(r:Int),t,o,out)) true trivial ?_ ?_) ?_
   ·rintro rec2 i keep hi _ ih2;unfold ZyM Zvb Zws;dsimp only;rw[decide_eq_true (show (i:Int) < (out.length:Int) by omega),cond_true,ZoP hi,chk_true,Z3R,Z3T hi,Z37];grind[ZnO,ZnS,ZnN,ZSJ]
   all_goals grind[ZyM,Zvb,ZnL]
  rw[beq_eq_false_iff_ne.2 k4,cond_false]
  by_cases k5:o.Kind=5
  ·obtain⟨hk,h0,hlen⟩:=hcol _ (hdo.1 (.inr (.inr k5)));rw[show (o.Kind == 5)=true by simp_all,cond_true,ZhT h0 hk,Z37];generalize (t.Columns[o.Column.toNat]).Cells=L at hlen;rw[ZnN];refine ZnU (Zpm ZGN (fun a:Nat=>((r:Int),(a:Int),true,L,(m:Int),(r:Int),t,o,out)) (fun a=>a<=out.length) (fun a=>a) (Q:=fun x=>∃a:Nat,x=((r:Int),(a:Int),true,(m:Int),(r:Int),t,o,out)/\a<=out.length) out.length (Z36 _) (by omega) ?_) ?_
   ·rintro rec2 a ha ih2;unfold ZDg ZyL Zwr;dsimp only
    by_cases h0a:0 < a
    ·have hi1:a - 1 < out.length:=by omega
     have hb:=h2 _ (Z3U hi1);rw[decide_eq_true (show (a:Int) > 0 by omega),cond_true,show (a:Int) - 1=((a - 1:Nat):Int) by omega,ZnO,ZnO,Z3R,Z3T hi1,Z37,ZhT hb.1 (show (out[a - 1]).toNat < L.length by omega),Z37,Zqc (show r < L.length by omega),Z37,ZnN];grind[ZnS,ZoP,ZVC,ZnO,ZnL]
    grind[ZnL]
   simp_all
  grind
 all_goals grind[ZyN,Zvc,ZnL,ZAv]
theorem Z12 {t:G_api_Table} (h:ZKt t) {o:Zn6} (b:OpD o) (a:ZMT t o):wp (ZAW t o) (fun x=>ZKt x/\x.ID=t.ID):=by
 unfold ZAW
 by_cases h3:o.Kind=3
 ·rw[show (o.Kind == 3)=true by simp_all,cond_true,ZnN];refine ZnU (ZPC h b.cols (a.2 h3)) ?_;grind[ZnL]
 grind[ZnN,ZnU,ZUE,ZQv,ZnL]
theorem ZYd {t:G_api_Table} (h:ZKt t) {o:Zn6} (f:OpD o):wp (Zz8 t [o]) (fun r=>r.2=0->ZKt r.1):=by
 unfold Zz8;rw[show decide ((([o]:List Zn6).length:Int) > 5)=false from rfl,cond_false,ZLk h,Z37,Z3Q,cond_false,ZnN];refine ZnU (Zr6 ZHg [o] (by simp) (fun i (x:G_api_Table)=>([o],(([o]:List Zn6).length:Int),i,x,(0:Int),([]:Str),([]:List G_api_Column))) (fun _ x=>ZKt x)
  (Q:=fun y=>(∃e,y= .ret e/\e.2≠0)\/∃x,y= .brk (x,(0:Int),([]:Str),([]:List G_api_Column))/\ZKt x) t h ?_ ?_) ?_
 ·rintro b k x c d g;unfold Zzr ZvE;dsimp only;have a:([o]:List Zn6)[k]=o:=by
   simp_all
  rw[decide_eq_true (show (k:Int) < (([o]:List Zn6).length:Int) by omega),cond_true,Zqc c,Z37,a,ZnN];grind[ZnU,ZZc,ZnL,ZnN,Z12,ZnO,ZnS]
 all_goals grind[Zzr,ZvE,ZnL,ZBd,ZRe]
end Go.Proofs
namespace Go.Proofs
open Go Eng
theorem ZMB {d:ZnJ} (b:Zsy d) {n:Int} (a:0<=n/\n<=1000000):wp (ZnW d n) (fun r=>(0<=r.1/\(r.1 < n\/n=0/\r.1=0))/\Zsy r.2):=by
 by_cases h0:n=0
 ·subst h0;unfold ZnW;grind[ZnL,ZnO,ZnN,ZI7,ZnS,Zwk,Zsy]
 grind[ZBE]
theorem Z1L {d:ZnJ} (j:Zsy d) {t:G_api_Table} (h:ZKt t):wp (ZzO d t) (fun r=>OpD r.1/\Zsy r.2):=by
 obtain⟨n,W,T⟩:=h.rows;have D:=h.cols;have J:∀(d:ZnJ) (k q:Int) (s:Str) (l:List Int),Zsy d->s.length<=1024->l.length<=3->wp (ZsD d 0 0 [] k q s [] l) (fun r=>OpD r.1/\Zsy r.2):=by intro d k q s l j H K;unfold ZsD ZwU;rw[ZnL];exact⟨⟨K,H⟩,j⟩
 have X:∀(k:Int) (b:Bool) (d:ZnJ),Zsy d->wp (ZwV (t.Columns.length:Int) k b d 0 0 [] k 0 [] [] []) (fun r=>OpD r.1/\Zsy r.2):=by
  intro k b d j;unfold ZwV;cases b with
  |true=>
   grind[ZnN,ZnU,ZMB]
  |false=>
   rw[cond_false,Zn1];refine⟨fun _=> ?_,fun _=>J d k 0 [] [] j (by simp) (by simp)⟩;rw[ZnN];refine ZnU (ZBE j (n:=3) (by omega)) ?_;rintro⟨q,I⟩ ⟨E,a⟩;dsimp only at E a|-
   obtain⟨m,O⟩:∃m:Nat,1+q=(m:Int):=⟨(1+q).toNat,by omega⟩;rw[O,ZnO,ZnN];refine⟨ZnS (by omega),ZnU (Zpm ZIi (fun s:Nat×ZnJ×List Int=>((t.Columns.length:Int),(s.1:Int),s.2.1,(0:Int),(0:Int),([]:Str),k,(0:Int),([]:Str),([]:List Int),s.2.2))
    (fun s=>Zsy s.2.1/\s.2.2.length+s.1=m) (fun s=>s.1) (Q:=fun x=>∃d l,x=(d,(0:Int),(0:Int),([]:Str),k,(0:Int),([]:Str),([]:List Int),l)/\Zsy d/\l.length<=3) (m,I,[]) ⟨a,by simp⟩ (by omega) ?_) ?_⟩
   ·rintro M ⟨v,d,l⟩ ⟨B,G⟩ L;dsimp only at B G L;unfold ZFk ZB2 ZAg;dsimp only
    by_cases hk:0 < v
    ·rw[decide_eq_true (show (v:Int) > 0 by omega),cond_true,Zn1];refine⟨fun _=> ?_,fun _=> ?_⟩
     ·rw[ZnN];refine ZnU (ZMB B (n:=(t.Columns.length:Int)) (by omega)) ?_;rintro⟨q,A⟩ ⟨_,i⟩;dsimp only at i|-
      rw[ZnO,ZnO,show (v:Int) - 1=((v - 1:Nat):Int) by omega];exact⟨ZsS (by grind),ZnS (by omega),L (v - 1,A,l++[q]) ⟨i,by grind⟩ (by omega)⟩
     grind[ZnL]
    grind[ZnL]
   ·rintro _ ⟨d,l,rfl,B,G⟩;unfold ZC4 ZwU;dsimp only;rw[ZnL];exact⟨⟨G,by simp⟩,B⟩
 unfold ZzO;rw[ZnN];refine ZnU (ZBE j (n:=5) (by omega)) ?_;rintro⟨q,Y⟩ ⟨E,p⟩;dsimp only at E p|-
 rw[ZnO];refine⟨ZnS (by omega), ?_⟩;rw[Zn1];refine⟨fun _=> ?_,fun _=> ?_⟩
 ·rw[ZnN];refine ZnU (ZMB p (n:=(t.Columns.length:Int)) (by omega)) ?_;rintro⟨o,I⟩ ⟨C,a⟩;dsimp only at C a|-
  rw[ZnN];refine ZnU (ZJR a (l:=[([97]:Str),([98]:Str),([49]:Str),([50]:Str),([107,48]:Str),([]:Str)]) (by decide) (by decide)) ?_;rintro⟨s,P⟩ ⟨H,g⟩;dsimp only at H g|-
  have S:s.length<=1024:=by grind
  have F:∀A,Zsy A->wp (ZsE false A t 0 0 [] (1+q) o s [] []) (fun r=>OpD r.1/\Zsy r.2):=fun A i=>by grind[ZsE]
  by_cases h0:0 < t.Columns.length
  ·have f:o.toNat < t.Columns.length:=by omega
   have w:=T _ (Z3U f);rw[decide_eq_true (show (t.Columns.length:Int) > 0 by omega),cond_true,ZhT (by omega) f,Z37,Zn1];refine⟨fun e=> ?_,fun _=>F P g⟩;have e:=of_decide_eq_true e;rw[ZnN];refine ZnU (ZBE g (n:=3) (by omega)) ?_;rintro⟨U,V⟩ ⟨_,y⟩;dsimp only at y|-
   cases decide (U > 0)with
   |false=>simp_all
   |true=>
    unfold ZsE;have K:=w.2.1;rw[cond_true,ZhT (by omega) f,Z37,Z37,ZnN];refine ZnU (ZBE y (n:=(t.Columns[o.toNat].Cells.length:Int)) (by omega)) ?_;rintro⟨R,N⟩ ⟨u,z⟩;dsimp only at u z|-
    have c:R.toNat < (t.Columns[o.toNat]).Cells.length:=by omega
    rw[ZhT u.1 c,Z37];refine J N _ o _ [] z ?_ (by simp);have:=(ZKp (w.2.2 _ (Z3U c)).1).2;omega
  simp_all
 grind
theorem ZPR {d:ZnJ} (z:Zsy d) {t:G_api_Table} (h:ZKt t) {c:Int} (i:0<=c/\c<=1000):wp (ZuU d t c) (fun r=>(ZKt r.1/\r.1.ID=c)/\Zsy r.2):=by
 unfold ZuU;rw[ZnN];refine ZnU (ZBE z (n:=3) (by omega)) ?_;rintro⟨q,B⟩ ⟨y,f⟩;dsimp only at y f|-
 obtain⟨m,rfl⟩:∃m:Nat,q=(m:Int):=⟨q.toNat,by omega⟩;rw[ZnN];refine ZnU (Zpm ZGy (fun s:Nat×ZnJ×G_api_Table=>(c,(s.1:Int),s.2.1,s.2.2,(0:Int),([]:Str),([]:List G_api_Column)))
  (fun s=>s.1<=m/\Zsy s.2.1/\ZKt s.2.2) (fun s=>s.1) (Q:=fun x=>∃d t,x=(c,d,t,(0:Int),([]:Str),([]:List G_api_Column))/\Zsy d/\ZKt t) (m,B,t) ⟨Z36 _,f,h⟩ (by omega) ?_) ?_
 ·rintro A ⟨k,d,t⟩ ⟨v,g,a⟩ j;dsimp only at v g a j;unfold ZCT Zyv Zv6;dsimp only
  by_cases hk:0 < k
  ·rw[decide_eq_true (show (k:Int) > 0 by omega),cond_true,ZnN];refine ZnU (Z1L g a) ?_;rintro⟨o,u⟩ ⟨l,b⟩;dsimp only at l b|-
   rw[ZnN];refine ZnU (ZYd a l) ?_;rintro⟨x,e⟩ p;dsimp only at p|-
   rw[show (k:Int) - 1=((k - 1:Nat):Int) by omega,Zn1];refine⟨fun w=> ?_,fun _=> ?_⟩
   ·rw[ZnO];exact⟨ZnS (by omega),j (k - 1,u,x) ⟨by omega,b,p (eq_of_beq w)⟩ (by omega)⟩
   ·rw[ZnO];exact⟨ZnS (by omega),j (k - 1,u,t) ⟨by omega,b,a⟩ (by omega)⟩
  grind[ZnL]
 ·rintro _ ⟨d,t,rfl,g,a⟩;unfold ZzP;dsimp only;rw[ZRe a,Z37,ZnL];exact⟨⟨⟨i,a.name,a.cols,a.rows⟩,rfl⟩,g⟩
structure ZOC (m:Nat) (b:Int) (l:List G_api_Table):Prop where
 len:l.length<=m
 ok:∀t∈l,ZKt t/\t.ID<=b
 up:l.Pairwise fun x y=>x.ID < y.ID
theorem ZOC.snoc {m:Nat} {b c:Int} {l:List G_api_Table} (h:ZOC m b l) {t:G_api_Table} (f:ZKt t) (e:t.ID=c) (g:b < c):ZOC (m+1) c (l++[t]):=by
 refine⟨by rw[Z3V,Z3X];have:=h.len;omega,fun x a=> ?_, ?_⟩
 ·rcases Z3Z.1 a with a |a
  ·exact⟨(h.ok x a).1,by have:=(h.ok x a).2;omega⟩
  simp_all
 ·rw[List.pairwise_append];refine⟨h.up,by simp,fun x a y d=> ?_⟩;rw[Z32.1 d];have:=(h.ok x a).2;omega
theorem ZQn {d:ZnJ} (L:Zsy d) {most:Nat} (T:1<=most) (U:most<=10):wp (Zv5 d (most:Int)) (fun r=>(ZOC most 50 r.1/\1<=r.1.length)/\Zsy r.2):=by
 unfold Zv5;rw[ZnN];refine ZnU (ZBE L (n:=2) (by omega)) ?_;rintro⟨F,V⟩ ⟨y,i⟩;dsimp only at y i|-
 rw[ZnN];refine ZnU (ZBE i (n:=(most:Int)) (by omega)) ?_;rintro⟨q,H⟩ ⟨D,o⟩;dsimp only at D o|-
 obtain⟨m,K⟩:∃m:Nat,1+q=(m:Int):=⟨(1+q).toNat,by omega⟩;rw[K,ZnO,ZnN];refine⟨ZnS (by omega),ZnU (Zpm ZGX (fun s:Int×Nat×ZnJ×List G_api_Table=>(s.1,(s.2.1:Int),s.2.2.1,s.2.2.2))
  (fun s=>Zsy s.2.2.1/\s.2.2.2.length+s.2.1=m/\(0<=s.1/\s.1<=1+2*(s.2.2.2.length:Int))/\ZOC s.2.2.2.length s.1 s.2.2.2) (fun s=>s.2.1)
  (Q:=fun x=>Zsy x.1/\ZOC most 50 x.2/\1<=x.2.length) (F,m,H,[]) ⟨o,by simp,by omega,⟨by simp,fun t b=>absurd b (by simp),by simp⟩⟩ (by grind) ?_) ?_⟩
 ·rintro A ⟨e,k,d,l⟩ ⟨B,N,I,g⟩ G;dsimp only at B N I g G;unfold ZDw Zy9 ZwH;dsimp only
  by_cases hk:0 < k
  ·rw[decide_eq_true (show (k:Int) > 0 by omega),cond_true,ZnN];refine ZnU (ZBE B (n:=2) (by omega)) ?_;rintro⟨q,R⟩ ⟨D,j⟩;dsimp only at D j|-
   rw[ZnO,ZnO,ZnN];have u:0<=e+(1+q)/\e+(1+q)<=1000:=by omega
   refine⟨ZnS (by omega),ZnS (by omega),ZnU (ZR2 j u) ?_⟩;rintro⟨t,O⟩ ⟨⟨b,a⟩,v⟩;dsimp only at b a v|-
   have C:∀(t:G_api_Table) (z:ZnJ),ZKt t->t.ID=e+(1+q)->Zsy z->wp (ZtL (fun e k d l=>A (e,k,d,l)) (e+(1+q)) (k:Int) z l t) (fun x=>Zsy x.1/\ZOC most 50 x.2/\1<=x.2.length):=by intro t z b a E;unfold ZtL;rw[ZnO,ZnO,show (k:Int) - 1=((k - 1:Nat):Int) by omega];refine⟨ZsS (by grind),ZnS (by omega),G (e+(1+q),k - 1,z,l++[t]) ⟨E,by grind,by grind, ?_⟩ (by grind)⟩;dsimp only;rw[Z3V,Z3X];exact g.snoc b a (by omega)
   rw[Zn1];refine⟨fun p=> ?_,fun _=>by grind⟩;have p:=of_decide_eq_true p;rw[ZnN];refine ZnU (ZBE v (n:=4) (by omega)) ?_;rintro⟨P,J⟩ ⟨_,f⟩;dsimp only at f|-
   rw[Zn1];refine⟨fun _=> ?_,fun _=>C t J b a f⟩;rw[ZnN];refine ZnU (ZBE f (n:=(l.length:Int)) (by omega)) ?_;rintro⟨M,S⟩ ⟨c,w⟩;dsimp only at c w|-
   have h:M.toNat < l.length:=by omega
   rw[ZnO,Z3T h,Z37,ZnN];refine⟨ZoI ⟨c.1,c.2⟩,ZnU (ZPR w (g.ok _ (Z3U h)).1 u) ?_⟩;simp_all
  ·rw[decide_eq_false (show ¬(k:Int) > 0 by omega),cond_false,ZnL];refine⟨B,⟨by grind,fun t b=> ?_,g.up⟩,by grind⟩;have:=g.ok t b;grind
 grind[ZAM,ZnL]
end Go.Proofs
namespace Go.Proofs
open Go Eng
def upL (l:List G_api_Table) (n:Nat):Prop:=∀i (h:i < l.length),0 < i->i < n->l[i - 1].ID < l[i].ID
def ZVM (l:List G_api_Table):Prop:=upL l l.length/\∀t∈l,ZGl t=true
structure ZNI (l:List G_api_Table):Prop where
 len:l.length<=10
 cols:∀t∈l,ZJ3 t/\t.Columns.length<=6/\∀c∈t.Columns,c.Cells.length<=12
theorem ZSH {l:List G_api_Table} (b:ZNI l):Zzc l=some (l.all ZGl):=by
 have g:=b.len;refine Zps ?_;unfold Zzc;rw[ZnN];refine ZnU (Zr6 ZGZ l (by omega) (fun i (_:Unit)=>(l,(l.length:Int),i)) (fun i _=>(l.take i).all ZGl=true) (Q:=fun x=>(x= .brk ()/\l.all ZGl=true)\/(x= .ret false/\l.all ZGl=false)) () (by simp) ?_ ?_) ?_
 ·rintro d k _ a hi f;have h:l[k]∈l:=Z3U a;have j:=(b.cols _ h).2;unfold Zzb Zvt;dsimp only;rw[decide_eq_true (show (k:Int) < (l.length:Int) by omega),cond_true,Zqc a,Z37,ZR3 l[k] (by omega) (fun c e=>by grind),Z37];cases hv:ZGl l[k]with
  |true=>
   rw[Z3Q,cond_false,ZnO];exact⟨ZnS (by omega),f () (by grind[Z35])⟩
  |false=>
   grind[ZnL]
 all_goals grind[Zzb,Zvt,ZnL,ZAO]
theorem ZUR {l:List G_api_Table} (e:ZNI l):wp (Zzo l) (fun r=>r=true<->ZVM l):=by
 have m:=e.len;unfold Zzo;rw[ZnN]
 suffices hv:wp (ZEs l) (fun r=>r=true<->ZVM l)from ZnU hv fun r h=>by grind[ZnL]
 unfold ZEs;rw[ZnN];refine ZnU (Zpm ZIK (fun i:Nat=>(l,(i:Int))) (fun i=>1<=i/\upL l i) (fun i=>l.length+1 - i) (Q:=fun x=>(x= .brk l/\upL l l.length)\/(x= .ret false/\¬upL l l.length)) 1 ⟨Z36 _,fun i _ g a=>by omega⟩ (by omega) ?_) ?_
 ·rintro f i ⟨hi,d⟩ k;unfold ZFX ZC6;dsimp only
  by_cases hc:i < l.length
  ·rw[decide_eq_true (show (i:Int) < (l.length:Int) by omega),cond_true,ZnO,show (i:Int) - 1=((i - 1:Nat):Int) by omega,Zqc (show i - 1 < l.length by omega),Z37,Zqc hc,Z37];refine⟨ZnS (by omega), ?_⟩
   by_cases hg:l[i - 1].ID>=l[i].ID
   ·rw[decide_eq_true hg,cond_true,ZnL];exact .inr ⟨rfl,fun h=>by have:=h i hc (by omega) hc;omega⟩
   ·rw[decide_eq_false hg,cond_false,ZnO];refine⟨ZnS (by omega),k (i+1) ⟨by omega,fun j c b g=> ?_⟩ (by omega)⟩
    by_cases hji:j=i
    ·simp_all
    ·exact d j c b (by omega)
  ·rw[decide_eq_false (show ¬(i:Int) < (l.length:Int) by omega),cond_false,ZnL];exact .inl ⟨rfl,fun j c b _=>d j c b (by omega)⟩
 ·rintro x (⟨rfl,h⟩ |⟨rfl,h⟩)
  ·dsimp only;unfold ZEJ ZBO;rw[decide_eq_true (show (l.length:Int)<=1024 by omega),cond_true,ZSH e,Z37,ZnL];rw[List.all_eq_true];exact⟨fun a=>⟨h,a⟩,fun a=>a.2⟩
  ·dsimp only;rw[ZnL];exact⟨fun a=>by simp_all,fun a=>absurd a.1 h⟩
theorem ZSf {l:List G_api_Table} (o:ZNI l):wp (Zq1 l) (fun r=>r=true<->ZVM l):=by
 have q:=o.len;unfold Zq1;rw[ZnN];refine ZnU (Zr6 ZFq l (by omega) (fun i (_:Unit)=>(l,l,(l.length:Int),i)) (fun i _=>upL l i/\∀t∈l.take i,ZGl t=true) (Q:=fun x=>(x= .brk l/\ZVM l)\/(x= .ret false/\¬ZVM l)) () ⟨fun i _ _ h=>by omega,fun t h=>by grind⟩ ?_ ?_) ?_
 ·rintro c k _ b ⟨d,e⟩ m;have n:l[k]∈l:=Z3U b;have p:=o.cols _ n;unfold ZvS ZsL Zrs;dsimp only;rw[decide_eq_true (show (k:Int) < (l.length:Int) by omega),cond_true,Zqc b,Z37,ZM2 l[k] p.1 (by omega),Z37];cases hv:ZGl l[k]with
  |false=>
   rw[ZYu,cond_true,cond_true,ZnL];exact .inr ⟨rfl,fun h=>by have:=h.2 _ n;simp_all⟩
  |true=>
   have a:∀t∈l.take (k+1),ZGl t=true:=fun t u=>by
    grind[Z35]
   rw[Z3Q,cond_false]
   by_cases h0:0 < k
   ·rw[decide_eq_true (show (k:Int) > 0 by omega),cond_true,ZnO];refine⟨ZnS (by omega), ?_⟩;rw[show (k:Int) - 1=((k - 1:Nat):Int) by omega,Zqc (show k - 1 < l.length by omega),Z37]
    by_cases hg:l[k - 1].ID>=l[k].ID
    ·rw[decide_eq_true hg,cond_true,ZnL];exact .inr ⟨rfl,fun h=>by have:=h.1 k b h0 b;omega⟩
    ·rw[decide_eq_false hg,cond_false,ZnO];refine⟨ZnS (by omega),m () ⟨fun j f g s=> ?_,a⟩⟩
     by_cases hji:j=k
     ·simp_all
     ·exact d j f g (by omega)
   ·rw[decide_eq_false (show ¬(k:Int) > 0 by omega),cond_false,cond_false,ZnO];exact⟨ZnS (by omega),m () ⟨fun j f g s=>by omega,a⟩⟩
 ·rintro c _ ⟨d,e⟩;unfold ZvS ZsL;dsimp only;rw[decide_eq_false (show ¬(l.length:Int) < (l.length:Int) by omega),cond_false,ZnL];rw[Z33]at e;exact .inl ⟨rfl,d,e⟩
 grind[Zw6,ZnL]
theorem ZPn {l:List G_api_Table} (a:ZNI l):∃b,Zzo l=some b/\Zq1 l=some b/\(b=true->ZVM l):=by obtain⟨b,g,e⟩:=ZUR a;obtain⟨c,d,f⟩:=ZSf a;grind
structure ZKP (l:List G_api_Table):Prop where
 len:l.length<=4
 cols:∀t∈l,ZJ3 t/\t.Columns.length<=4/\∀c∈t.Columns,c.Cells.length<=8
theorem ZKP.s {l:List G_api_Table} (h:ZKP l):ZNI l:=⟨by have:=h.len;omega,fun t a=>⟨(h.cols t a).1,by have:=(h.cols t a).2.1;omega,fun c b=>by have:=(h.cols t a).2.2 c b;omega⟩⟩
theorem ZUn {t:G_api_Table} (h:ZGl t=true) {a b:G_api_Column} (d:a∈t.Columns) (c:b∈t.Columns):a.Cells.length=b.Cells.length:=by grind[ZGl,ZRf]
theorem ZKP.val {l:List G_api_Table} (h:ZKP l) (f:ZVM l):ZOD l:=by
 refine⟨h.len,fun t e=>⟨(h.cols t e).2.1,fun c g=>⟨(h.cols t e).2.2 c g,((h.cols t e).1.2 c g).2⟩,fun a n b p=>ZUn (f.2 t e) n p⟩,fun i j q m=> ?_⟩;have key:∀k (d:i+1+k < l.length),(l[i]'(by omega)).ID < (l[i+1+k]).ID:=by
  intro k
  induction k with
  |zero=>intro d;exact f.1 (i+1) d (by omega) d
  |succ k o=>
   intro d;have r:=o (by omega);have s:=f.1 (i+1+(k+1)) d (by omega) d;grind
 obtain⟨k,rfl⟩:∃k,j=i+1+k:=⟨j - i - 1,by omega⟩;simp_all
theorem ZOW (a b:Zph):ZvU a b=some (decide (ZJD a b < 0)):=by
 unfold ZvU ZtF ZJD
 by_cases h1:a.Table < b.Table
 all_goals grind[decide_eq_false]
theorem ZUG (a b:Zph):(!(a.Table == b.Table&&(a.Column == b.Column&&true)))=decide (ZJD a b≠0):=by
 grind[ZJD]
theorem ZPU (a b:En1) [ha:Gdm a] [hb:Gdm b]:Zxk a b=some (ltJ a b):=by
 obtain⟨p,f,g⟩:=ha.ok;obtain⟨q,e,i⟩:=hb.ok;have d:=ZMv q p;unfold Zxk ltJ;rw[f,e,ZHG _ _ (g.wq (by decide)) (i.wq (by decide)),Z37,ZQG,f,e,ZMx,ZMx]
 by_cases c:p=q
 ·subst c;rw[decide_eq_true rfl,Z3Q,cond_false,ZUG,if_neg (show ¬ZKe p p≠0 by grind[ZKe])];grind[ZTq,ZOW]
 ·rw[decide_eq_false c,ZYu,cond_true,ZNj (i.wq (by decide)) (g.wq (by decide)),Z37,if_pos (fun h=>c (ZOZ h).symm),decide_eq_decide.2 d]
theorem ZUO {L:List En1} {h:En1} [Gds L] [hg:Gdm h] (q:L.length<=1000):ZwN L h=some (ZJ6 ltJ h L):=by
 refine Zps ?_;unfold ZwN;rw[ZnN];refine ZnU (Zpm ZHk (fun i:Nat=>(L,(i:Int),h)) (fun i=>i<=L.length/\∀j (b:j < L.length),i<=j->ltJ h L[j]=true) (fun i=>i)
  (Q:=fun x=>∃i:Nat,x=(L,(i:Int),h)/\i<=L.length/\(∀j (b:j < L.length),i<=j->ltJ h L[j]=true)/\∀b:i - 1 < L.length,0 < i->ltJ h L[i - 1]=false) L.length ⟨Z36 _,fun j h t=>by omega⟩ (by omega) ?_) ?_
 ·rintro d i ⟨g,k⟩ r;unfold ZDP Zzv Zxj;dsimp only
  by_cases hi:0 < i
  ·have a:i - 1 < L.length:=by omega
   rw[decide_eq_true (show (i:Int) > 0 by omega),cond_true,ZnO,show (i:Int) - 1=((i - 1:Nat):Int) by omega,Zqc a,Z37,ZPU,Z37];grind[ZnS,ZnO,ZnL]
  grind[ZnL]
 ·rintro _ ⟨i,rfl,g,k,m⟩;dsimp only;unfold ZBh;have s:(L.take (i:Int).toNat).length<=1000:=by grind
  have n:(L.drop (i:Int).toNat).length<=1000:=by grind
  rw[Zpc (by omega),chk_true,ZsS (by omega),chk_true,ZsS (by grind),chk_true,Zpc (by omega),chk_true,ZsS (by grind),chk_true,ZnL,Z3R];have e:=ZQ0 (lt:=ltJ) h (L.take i) (fun B p f=> ?_) _ (L.drop i) rfl (fun y o=> ?_)
  ·simp_all
  ·have l:=congrArg List.length f;rw[Z3Y,Z3V,Z3X]at l;have c:(L.take i)[B.length]? =some p:=by grind
   rw[List.getElem?_take,if_pos (by omega),Z3T (by omega)]at c;grind
  grind[List.getElem_of_mem]
end Go.Proofs
namespace Go.Proofs
open Go Eng
theorem ZVq {a:List (Str×Rat)} (b:ZHB a) {l:List G_api_Table} (c:ZOD l) {L:List En1} (h:∀x∈L,x∈ZKU a l):Gds L:=⟨fun x d=>(ZOc b c).all x (h x d)⟩
theorem ZVr {b:List (Str×Rat)} (c:ZHB b) {t:G_api_Table} {i m:Nat} {a:G_api_Column} (e:a.Cells.length<=8):Gds (ZNP b t i a m):=⟨fun x d=>by grind[ZOV,ZKq]⟩
theorem ZVp {d:List (Str×Rat)} (f:ZHB d) {t:G_api_Table} (k:∀c∈t.Columns,c.Cells.length<=8) {n:Nat}:Gds (ZNO d t n):=⟨fun x e=>by obtain⟨i,j,a,b,g,_,h⟩:=ZOO e;exact ZKq f (k a (List.mem_of_getElem? g)) h⟩
theorem ZQ5 {A B:List En1} (b:Gds A) (a:Gds B):Gds (A++B):=⟨fun x c=>(Z3Z.1 c).elim (b.all x) (a.all x)⟩
theorem ZPg {A:List En1} (a:Gds A):Gds (ZtR ltJ A):=⟨fun x b=>a.all x ((Zt8 _).mem_iff.1 b)⟩
theorem Z1o {key value:G_api_Column} (G:Ztd key.Cells) (I:Ztd value.Cells) (p:key.Cells.length<=8) (D:key.Cells.length=value.Cells.length) {t:G_api_Table} (u:t.Columns.length<=4/\(∀c∈t.Columns,c.Cells.length<=8/\Ztd c.Cells)/\∀a∈t.Columns,∀b∈t.Columns,a.Cells.length=b.Cells.length) (k f n:Int) (l:List G_api_Table) {i:Nat} (hi:i < t.Columns.length) {e:List ZnX} (E:e.length<=900) (y:Gds e):
  wp (ZqS big k (i:Int) l f n t.Columns (t.Columns.length:Int) (i:Int) t.Columns (t.Columns.length:Int) 0 key value (ZtR ltJ e) t t.Columns[i]) (fun x=>x=(k,l,f,n,t.Columns,(t.Columns.length:Int),(i:Int),key,value,ZtR ltJ (e++ZNP (ZpJ key.Cells value.Cells) t i t.Columns[i] t.Columns.length),t)):=by
 have w:=ZKQ (V:=value.Cells) p;have P:=u.1;have q:=Z3U hi;have s:=u.2.1 _ q;refine Zr6 ZHh t.Columns (by omega) (fun j (o:List ZnX)=>(k,(i:Int),l,f,n,t.Columns,(t.Columns.length:Int),(i:Int),t.Columns,(t.Columns.length:Int),j,key,value,o,t,t.Columns[i])) (fun j o=>o=ZtR ltJ (e++ZNP (ZpJ key.Cells value.Cells) t i t.Columns[i] j)) (ZtR ltJ e) (by simp[ZNP]) ?_ ?_
 ·rintro F j o C rfl g;have r:=Z3U C;have M:=u.2.1 _ r;have H:=ZMs (ZpJ key.Cells value.Cells) t i t.Columns[i] j;have z:=ZPg (ZQ5 y (ZVr w (t:=t) (i:=i) (m:=j) s.1));have d:∀x,ZPS (ZpJ key.Cells value.Cells) t.ID i j t.Columns[i] t.Columns[j]=some x->Gdm x:=fun x h=>ZKq w s.1 h
  rw[ZM5 _ t i _ j C,<-List.append_assoc]at g;unfold Zzs ZvG Zxh Zug;dsimp only;rw[decide_eq_true (show (j:Int) < (t.Columns.length:Int) by omega),cond_true,Zqc C,Z37];unfold ZPS at g d
  by_cases hij:i=j
  ·grind[ZnO,ZnS]
  ·rw[if_neg hij]at g d;have N:=ZKQ (V:=t.Columns[j].Cells) s.1;rw[show ((i:Int) == (j:Int))=false by grind,cond_false,ZM3 G I s.2 M.2 p s.1 D (u.2.2 _ q _ r),Z37];have K:=ZMy (A:=ZpJ key.Cells value.Cells) (B:=ZpJ t.Columns[i].Cells t.Columns[j].Cells);have v:=ZO4 w N;have O:=w.len;generalize prs (ZpJ key.Cells value.Cells) (ZpJ t.Columns[i].Cells t.Columns[j].Cells)=L at K v g d;rw[ZYf (by omega) v,Z37,ZPu (by omega) v,Z37];unfold ZY9 at g d;unfold sqR
   by_cases p:sqN L
   ·grind[ZnO,ZnS]
   ·rw[if_neg p]at g d;rw[if_neg p];dsimp only;have J:=ZQw (by omega) v p;rw[cond_true,ZJ7,Z37,ZNj (ZKw.wq (by decide)) (J.wq (by decide)),Z37]
    by_cases h0:0 < scR L
    ·rw[if_pos h0]at g d;haveI:=d _ rfl;haveI:=z;rw[decide_eq_true h0,cond_true];show wp ((ZwN (ZtR ltJ (e++ZNP (ZpJ key.Cells value.Cells) t i t.Columns[i] j)) ⟨⟨t.ID,(i:Int)⟩,⟨t.ID,(j:Int)⟩,fOf (scR L),ZKe (cR L) 0,(L.length:Int)⟩).bind _) _;grind[ZUO,Zu9,ZnO,ZnS,ZIz]
    grind[ZnO,ZnS]
 grind[Zzs,ZvG,ZnL]
theorem Z1p {key value:G_api_Column} (u:Ztd key.Cells) (w:Ztd value.Cells) (q:key.Cells.length<=8) (r:key.Cells.length=value.Cells.length) {t:G_api_Table} (n:t.Columns.length<=4/\(∀c∈t.Columns,c.Cells.length<=8/\Ztd c.Cells)/\∀a∈t.Columns,∀b∈t.Columns,a.Cells.length=b.Cells.length) (k e f:Int) (l:List G_api_Table) {d:List ZnX} (h:d.length<=800) (s:Gds d):
  wp (Zsp big k l e f t.Columns (t.Columns.length:Int) 0 key value (ZtR ltJ d) t) (fun x=>x=(k,l,e,f,key,value,ZtR ltJ (d++ZNO (ZpJ key.Cells value.Cells) t t.Columns.length))):=by
 have g:=n.1;have v:=ZKQ (V:=value.Cells) q;refine Zr6 ZHi t.Columns (by omega) (fun i (o:List ZnX)=>(k,l,e,f,t.Columns,(t.Columns.length:Int),i,key,value,o,t)) (fun i o=>o=ZtR ltJ (d++ZNO (ZpJ key.Cells value.Cells) t i)) (ZtR ltJ d) (by simp[ZNO]) ?_ ?_
 ·rintro j i o hi rfl p;have m:=ZK2 (ZpJ key.Cells value.Cells) t g i (by omega);rw[ZLg _ t i hi,<-List.append_assoc]at p;unfold Zzt ZvH ZBg;grind[Zqc,ZnN,ZnU,Z1o,ZQ5,ZVp,ZnO,ZnS]
 grind[Zzt,ZvH,ZnL]
theorem ZSh {l:List G_api_Table} (b:ZOD l) (j:Zq1 l=some true) {key value:G_api_Column} (h:Ztd key.Cells) (p:Ztd value.Cells) (f:key.Cells.length<=8) (e:key.Cells.length=value.Cells.length) {k:Int} (s:0<=k) (u:k<=1024):
  ZpI l key value k=some ((ZtR ltJ (ZKU (ZpJ key.Cells value.Cells) l)).take k.toNat,0):=by
 have r:=b.len;have m:=ZKQ (V:=value.Cells) f;refine Zps ?_;unfold ZpI Zp2 ZqT;rw[decide_eq_false (show ¬k < 0 by omega),cond_false,decide_eq_false (show ¬k > 1024 by omega),cond_false,j,Z37,Z3Q,cond_false,show ((key.Cells.length:Int) != (value.Cells.length:Int))=false by simp_all,cond_false,decide_eq_false (show ¬(key.Cells.length:Int) > 4096 by omega),cond_false,ZnN];refine ZnU (Zr6 ZHj l (by omega) (fun i (o:List ZnX)=>(k,l,(l.length:Int),i,key,value,o)) (fun i o=>o=ZtR ltJ (ZKU (ZpJ key.Cells value.Cells) (l.take i))) (Q:=fun x=>x=(k,ZtR ltJ (ZKU (ZpJ key.Cells value.Cells) l))) [] rfl ?_ ?_) ?_
 ·rintro n i o hi rfl q;have a:=ZJK (ZpJ key.Cells value.Cells) (l.take i) fun t d=>(b.cols t (Z31 d)).1
  rw[Z3Y]at a;rw[Z35 hi,ZNu]at q;have g:Gds (ZKU (ZpJ key.Cells value.Cells) (l.take i)):=ZVq m b fun x c=>by obtain⟨t,d,c⟩:=List.mem_flatMap.1 c;exact List.mem_flatMap.2 ⟨t,Z31 d,c⟩
  unfold Zzu ZvI ZBf;dsimp only;rw[decide_eq_true (show (i:Int) < (l.length:Int) by omega),cond_true,Zqc hi,Z37,ZnN];refine ZnU (Z1p h p f e (b.cols _ (Z3U hi)) k (l.length:Int) (i:Int) l (by omega) g) ?_;grind[ZnO,ZnS]
 ·grind[Zzu,ZvI,ZnL]
 grind[ZBe,Zpc,chk_true,ZnL,Z34]
theorem ZOR {L:List En1} [hg:Gds L] (f:L.length<=1000):ZrT L L=some true:=by
 refine Zps ?_;unfold ZrT;rw[bne_self_eq_false,cond_false,ZnN];refine ZnU (Zr6 ZGR L (by omega) (fun i (_:Unit)=>(L,L,(L.length:Int),i)) (fun _ _=>True) (Q:=fun x=>x= .brk ()) () trivial ?_ ?_) ?_
 ·rintro d k _ b _ e;obtain⟨p,c,a⟩:=(hg.all _ (Z3U b)).ok;unfold ZyQ Zve ZqB;dsimp only;rw[decide_eq_true (show (k:Int) < (L.length:Int) by omega),cond_true,Zqc b,Z37,Z37,beq_self_eq_true,beq_self_eq_true,beq_self_eq_true,beq_self_eq_true,Bool.and_true,Bool.and_true,Z3Q,cond_false,cond_false,c,ZHG _ _ (a.wq (by decide)) (a.wq (by decide)),Z37,decide_eq_true rfl,Z3Q,cond_false,bne_self_eq_false,cond_false,bne_self_eq_false,cond_false,ZnO];exact⟨ZnS (by omega),e () trivial⟩
 all_goals grind[ZyQ,Zve,ZnL,ZAz]
theorem ZNs {l:List G_api_Table} (d:ZKP l) {key value:G_api_Column} (h:Ztd key.Cells) (j:Ztd value.Cells) (g:key.Cells.length<=8) (n:Int):
  ∃(H:List ZnX) (e:Int),Zsv l key value n=some (H,e)/\ZpI l key value n=some (H,e)/\ZrT H H=some true:=by
 have c:ZrT [] []=some true:=by haveI:Gds ([]:List En1):=⟨fun x i=>by simp_all⟩;grind[ZOR]
 by_cases h0:n < 0
 ·simp_all[Zsv,Zsx,ZpI,Zp2]
 by_cases h1:n > 1024
 ·simp_all[Zsv,Zsx,ZpI,Zp2]
 obtain⟨b,q,f,r⟩:=ZPn d.s;cases b with
 |false=>
  simp_all[Zsv,Zsx,ZtX,decide_eq_false,ZpI,Zp2,ZqT]
 |true=>
  by_cases hkv:key.Cells.length=value.Cells.length
  ·have a:=d.val (r rfl);have k:=ZJK (ZpJ key.Cells value.Cells) l fun t o=>(d.cols t o).2.1
   have m:=d.len;haveI:Gds ((ZtR ltJ (ZKU (ZpJ key.Cells value.Cells) l)).take n.toNat):=⟨fun x i=>(ZPg (ZOc (ZKQ g) a)).all x (Z31 i)⟩;exact⟨_,_,ZVy a q h j g hkv (by omega) (by omega),ZSh a f h j g hkv (by omega) (by omega),ZOR (by grind[Zu9])⟩
  ·have p:((key.Cells.length:Int) != (value.Cells.length:Int))=true:=by grind
   refine⟨[],1, ?_, ?_,c⟩
   all_goals grind[Zsv,Zsx,ZtX,ZpI,Zp2,ZqT]
end Go.Proofs
namespace Go.Proofs
open Go Eng
theorem ZUs {l:List G_api_Table} (h:∀t∈l,ZKt t) (f:l.length<=4):ZKP l:=⟨f,fun t d=>by obtain⟨n,i,b⟩:=(h t d).rows;have g:=(h t d).cols;refine⟨⟨by have:=(ZKp (h t d).name).2;omega,fun c a=>⟨by have:=(ZKp (b c a).1).2;omega,fun x e=>by have:=(ZKp ((b c a).2.2 x e).1).2;omega⟩⟩,by omega,fun c a=>by have:=(b c a).2.1;omega⟩⟩
theorem Z14 {h:List G_api_Table} (n:ZKP h) {key value short:G_api_Column} (l:Ztd key.Cells) (r:Ztd value.Cells) (q:Ztd short.Cells) (m:key.Cells.length<=8) (k d c:Int) (b:List (List G_api_Table)) (a:List Int) (s:a.length<=1000):
  wp (Zo4 big k h d c (a.length:Int) 0 key value short b a) (fun x=>x= .brk (k,d,c,key,value,short,b)):=by
 refine Zr6 ZDY a (by omega) (fun i (_:Unit)=>(k,h,d,c,(a.length:Int),i,key,value,short,b,a)) (fun _ _=>True) () trivial ?_ ?_
 ·rintro o i _ hi _ t;obtain⟨H,e,p,u,v⟩:=ZNs n l r m a[i];obtain⟨H',w,f,j,g⟩:=ZNs n l q m a[i];unfold Ztr Zq2 Zo0;dsimp only;rw[decide_eq_true (show (i:Int) < (a.length:Int) by omega),cond_true,ZnO,Z3R,Z3T hi,Z37,p,Z37];refine⟨ZoI (by omega), ?_⟩;dsimp only;rw[u,Z37];dsimp only;rw[f,Z37];dsimp only;rw[j,Z37];dsimp only;rw[v,Z37,Z3Q,cond_false,bne_self_eq_false,cond_false,g,Z37,Z3Q,cond_false,bne_self_eq_false,cond_false,ZnO];exact⟨ZnS (by omega),t () trivial⟩
 grind[Ztr,Zq2,ZnL]
theorem Z15 {ls:List (List G_api_Table)} (g:ls.length<=1000) (h:∀l∈ls,ZKP l) {key value short:G_api_Column} (b:Ztd key.Cells) (d:Ztd value.Cells) (a:Ztd short.Cells) (e:key.Cells.length<=8) (k:Int):
  wp (Zo5 big k (ls.length:Int) 0 key value short ls) (fun x=>x= .brk ()):=by
 refine Zr6 ZDZ ls (by omega) (fun i (_:Unit)=>(k,(ls.length:Int),i,key,value,short,ls)) (fun _ _=>True) () trivial ?_ ?_
 ·rintro c i _ hi _ f;unfold Zts Zq3 ZtT;dsimp only;rw[decide_eq_true (show (i:Int) < (ls.length:Int) by omega),cond_true,ZnO,Z3R,Z3T hi,Z37];refine⟨ZoI (by omega), ?_⟩;rw[ZnN];refine ZnU (ZTx k (m:=6) (by omega)) fun q _=> ?_
  rw[ZnN];refine ZnU (Z14 (h _ (Z3U hi)) b d a e k (ls.length:Int) (i:Int) ls [k,q] (by simp)) ?_;rintro _ rfl;dsimp only;rw[ZnO];exact⟨ZnS (by omega),f () trivial⟩
 grind[Zts,Zq3,ZnL]
theorem Z16 {L:List (Rat×Rat)} (s:L.length<=12) (o:DzL L) (k:Int) (f:List G_api_Table) (a b:Int) (e:List G_api_Column) (c i:Int) (d:ZnJ) (l:List G_api_Table) (key value:G_api_Column) (g:G_api_Table):
  wp (Zo6 big k f a b e c i ((L.map fP).length:Int) 0 d l key value g (L.map fP) (L.map fP)) (fun x=>x= .brk (k,f,a,b,e,c,i,d,l,key,value,g)):=by
 have h:(L.map fP).length=L.length:=List.length_map ..;refine Zr6 ZD0 (L.map fP) (by omega) (fun j (_:Unit)=>(k,f,a,b,e,c,i,((L.map fP).length:Int),j,d,l,key,value,g,L.map fP,L.map fP)) (fun _ _=>True) () trivial ?_ ?_
 ·rintro p j _ r _ q;obtain⟨m,n⟩:=szP (o _ (Z3U (show j < L.length by omega)));unfold Ztt Zq4 ZrG;dsimp only;rw[decide_eq_true (show (j:Int) < ((L.map fP).length:Int) by omega),cond_true,ZnO,Z3R,Z3T r,Z37,ZnO,ZnO,ZnO,Z37,List.getElem_map];refine⟨ZoI (by omega),by decide,ZoI (by omega),by decide, ?_⟩;unfold fP;dsimp only;rw[ZHG _ _ (m.wq (by decide)) (m.wq (by decide)),Z37,decide_eq_true rfl,Z3Q,cond_false,ZnO,ZnO,ZnO,Z37,ZHG _ _ (n.wq (by decide)) (n.wq (by decide)),Z37,decide_eq_true rfl,Z3Q,cond_false,ZnO];exact⟨by decide,ZoI (by grind),by decide,ZnS (by omega),q () trivial⟩
 grind[Ztt,Zq4,ZnL]
theorem Z17 {a:G_api_Table} (m:ZKt a) {key value:G_api_Column} (y:Ztd key.Cells) (z:Ztd value.Cells) (s:key.Cells.length<=8) (r:key.Cells.length=value.Cells.length) (k:Int) (f:List G_api_Table) (b e:Int) {d:ZnJ} (o:Zsy d) (l:List G_api_Table):
  wp (ZoD big k f b e a.Columns (a.Columns.length:Int) 0 d l key value a) (fun x=>∃d,x= .brk (k,f,b,e,d,l,key,value)/\Zsy d):=by
 obtain⟨n,E,t⟩:=m.rows;have G:=m.cols;have h:∀c∈a.Columns,Ztd c.Cells/\c.Cells.length=n:=fun c j=>⟨fun x m=>by have:=(ZKp ((t c j).2.2 x m).1).2;omega,(t c j).2.1⟩
 refine Zr6 ZD1 a.Columns (by omega) (fun i (d:ZnJ)=>(k,f,b,e,a.Columns,(a.Columns.length:Int),i,d,l,key,value,a)) (fun _ d=>Zsy d) d o ?_ ?_
 ·rintro v i d hi o H;unfold Ztu Zq5;dsimp only;rw[decide_eq_true (show (i:Int) < (a.Columns.length:Int) by omega),cond_true,Zqc hi,Z37,ZnN];refine ZnU (ZBE o (n:=(a.Columns.length:Int)) (by omega)) ?_;rintro⟨q,F⟩ ⟨u,p⟩;dsimp only at u p|-
  have g:q.toNat < a.Columns.length:=by omega
  obtain⟨C,J⟩:=h _ (Z3U hi);obtain⟨w,L⟩:=h _ (Z3U g);have D:=ZKQ (V:=value.Cells) s;have I:=ZKQ (K:=a.Columns[i].Cells) (V:=a.Columns[q.toNat].Cells) (by omega);have A:ZCB key value a.Columns[i] a.Columns[q.toNat]=some ((prs (ZpJ key.Cells value.Cells) (ZpJ a.Columns[i].Cells a.Columns[q.toNat].Cells)).map fP):=by grind[ZCB,ZK9,ZNt]
  rw[ZhT u.1 g,Z37,A,Z37,ZM3 y z C w s (by omega) r (by omega),Z37,bne_self_eq_false,cond_false,decide_eq_false (show ¬(i:Int) > 3 by omega)];unfold ZrH Zut;rw[cond_false,ZnN];have B:=D.len;grind[ZnU,Z16,ZMy,ZO4,ZnO,ZnS]
 grind[Ztu,Zq5,ZnL]
theorem Z18 {l:List G_api_Table} (n:∀t∈l,ZKt t) (e:l.length<=10) {key value:G_api_Column} (g:Ztd key.Cells) (h:Ztd value.Cells) (j:key.Cells.length<=8) (f:key.Cells.length=value.Cells.length) (k:Int) (a:List G_api_Table) {d:ZnJ} (b:Zsy d):
  wp (Zo7 big k a (l.length:Int) 0 d l key value) (fun x=>x= .brk (k,a,l,key,value)):=by
 refine Zr6 ZD2 l (by omega) (fun i (d:ZnJ)=>(k,a,(l.length:Int),i,d,l,key,value)) (fun _ d=>Zsy d) d b ?_ ?_
 ·rintro c i d hi b m;unfold Ztv Zq6 Zus;grind[ZnO,ZnN,ZoI,ZnU,Z17,ZnS]
 grind[Ztv,Zq6,ZnL]
theorem ZM0 {l:List G_api_Cell} (h:Ztd l) (i:Nat) {c:G_api_Cell} (b:c.Text.length<=100):Ztd (l.set i c):=fun x a=>by
 rcases List.mem_or_eq_of_mem_set a with a |rfl
 ·exact h x a
 omega
def ZTB:List Str:=[([107,48]:Str),([107,49]:Str),([107,50]:Str),([107,51]:Str),([97]:Str),([98]:Str),([49]:Str),([50]:Str)]
theorem ZPK:∀s∈ZTB,s.length<=100:=by decide
theorem Z19 {n:Nat} (y:n<=8) (k:Int) (a:List G_api_Table) {d:ZnJ} (g:Zsy d) (l:List G_api_Table) (j o:Str) {K V:List G_api_Cell} (f:Ztd K) (h:Ztd V) (m:K.length=n) (p:V.length=n):
  wp (Zp6 big k a (n:Int) 0 d l j o K V) (fun x=>∃d K V,x=(k,a,d,l,j,o,K,V)/\Zsy d/\Ztd K/\Ztd V/\K.length=n/\V.length=n):=by
 refine Zva ZD3 n (by omega) (fun i (s:ZnJ×List G_api_Cell×List G_api_Cell)=>(k,a,(n:Int),i,s.1,l,j,o,s.2.1,s.2.2)) (fun _ s=>Zsy s.1/\Ztd s.2.1/\Ztd s.2.2/\s.2.1.length=n/\s.2.2.length=n) (d,K,V) ⟨g,f,h,m,p⟩ ?_ ?_
 ·rintro u i ⟨d,K,V⟩ hi ⟨g,f,h,m,p⟩ r;dsimp only at g f h m p r;unfold Ztw Zq7;dsimp only;rw[decide_eq_true (show (i:Int) < (n:Int) by omega),cond_true,ZnN];refine ZnU (ZJR g (l:=ZTB) (by decide) (by decide)) ?_;rintro⟨s,w⟩ ⟨t,b⟩;dsimp only at t b|-
  rw[ZnO,ZnN];refine⟨ZoI (by omega),ZnU (ZNc b) ?_⟩;rintro⟨c,v⟩ ⟨q,e⟩;dsimp only at q e|-
  rw[ZnO,ZnO,Z3R];refine⟨ZoI (by omega),ZnS (by omega),r (v,K.set i ⟨false,s⟩,V.set i c) ⟨e,ZM0 f i (ZPK s t),ZM0 h i (by have:=(ZKp q.1).2;omega),by simp_all,by simp_all⟩⟩
 grind[Ztw,Zq7,ZnL]
theorem Z2a (t:List Int) (k:Int) (d b:List G_api_Table) (f e:Int) (a:List G_api_Column) (j:a.length<=4):
  wp (Zp7 big t k d b f e a (a.length:Int) 0) (fun x=>x= .ret true\/(x= .brk (t,k,d,b,f,e)/\∀c∈a,c.Cells.length<=8)):=by
 refine Zr6 ZD4 a (by omega) (fun i (_:Unit)=>(t,k,d,b,f,e,a,(a.length:Int),i)) (fun i _=>∀c∈a.take i,c.Cells.length<=8) () (by simp) ?_ ?_
 ·rintro g i _ hi h m;unfold Ztx Zq8;dsimp only;rw[decide_eq_true (show (i:Int) < (a.length:Int) by omega),cond_true,Zqc hi,Z37]
  by_cases hc:(a[i].Cells.length:Int) > 8
  ·grind[ZLJ,ZnL]
  ·rw[decide_eq_false hc,cond_false,ZnO];refine⟨ZnS (by omega),m () fun c l=> ?_⟩;grind[Z35]
 grind[Ztx,Zq8,ZnL]
theorem Z2b (t:List Int) (k:Int) (a:List G_api_Table) (e:a.length<=4):
  wp (Zo8 big t k a a (a.length:Int) 0) (fun x=>x= .ret true\/(x= .brk (t,k,a)/\∀y∈a,y.Columns.length<=4/\∀c∈y.Columns,c.Cells.length<=8)):=by
 refine Zr6 ZD5 a (by omega) (fun i (_:Unit)=>(t,k,a,a,(a.length:Int),i)) (fun i _=>∀y∈a.take i,y.Columns.length<=4/\∀c∈y.Columns,c.Cells.length<=8) () (by simp) ?_ ?_
 ·rintro b i _ hi h d;unfold Zty Zq9 Zuw;dsimp only;rw[decide_eq_true (show (i:Int) < (a.length:Int) by omega),cond_true,Zqc hi,Z37]
  by_cases hc:(a[i].Columns.length:Int) > 4
  ·grind[ZLJ,ZnL]
  ·rw[decide_eq_false hc,cond_false,ZnN];refine ZnU (Z2a t k a a (a.length:Int) (i:Int) a[i].Columns (by omega)) ?_;rintro x (rfl |⟨rfl,g⟩)
   ·grind[ZnL]
   ·dsimp only;rw[ZnO];refine⟨ZnS (by omega),d () fun y f=> ?_⟩;grind[Z35]
 grind[Zty,Zq9,ZnL]
theorem correlationTop_law (t:List Int) (k:Int) (a:List G_api_Table) (j:∀y∈a,ZJ3 y):Zv4 t k a=some true:=by
 refine Zps ?_;unfold Zv4 ZC5 ZrI;rw[Z37]
 by_cases hlt:(t.length:Int)<=500
 ·rw[decide_eq_true hlt,Z3Q,cond_false]
  by_cases hr:(a.length:Int) > 4
  ·grind[ZLJ,ZnL]
  ·rw[decide_eq_false hr,cond_false,ZnN];refine ZnU (Z2b t k a (by omega)) ?_;rintro x (rfl |⟨rfl,h⟩)
   ·grind[ZnL]
   dsimp only;unfold Zuv ZD8;rw[ZnN,ZnL,ZnN];refine ZnU (ZQn (d:=⟨t,0⟩) ⟨by simp,by simp,by grind⟩ (most:=3) (by omega) (by omega)) ?_;rintro⟨l,N⟩ ⟨⟨s,v⟩,g⟩;dsimp only at s v g|-
   rw[ZnN];refine ZnU (ZBE g (n:=4) (by omega)) ?_;rintro⟨q,G⟩ ⟨F,m⟩;dsimp only at F m|-
   obtain⟨n,D⟩:∃n:Nat,4+q=(n:Int):=⟨(4+q).toNat,by omega⟩;rw[D,ZnO,ZnN];refine⟨ZnS (by omega),ZnU (ZLF m n (by omega)) ?_⟩;rintro⟨key,J⟩ ⟨b,i⟩;dsimp only at b i|-
   rw[ZnN];refine ZnU (ZLF i n (by omega)) ?_;rintro⟨value,I⟩ ⟨e,o⟩;dsimp only at e o|-
   have w:∀{c:G_api_Column},ZTg n c->Ztd c.Cells:=fun E x f=>by have:=(ZKp (E.2.2 x f).1).2;omega
   rw[ZnN,b.2.1];refine ZnU (Z19 (n:=n) (by omega) k a o l key.Name value.Name (w b) (w e) b.2.1 e.2.1) ?_;rintro _ ⟨H,K,V,rfl,u,z,r,L,M⟩;dsimp only;unfold Zuu;rw[ZnN];have B:=s.len;have p:∀t∈l,ZKt t:=fun t C=>(s.ok t C).1
   refine ZnU (Z18 (key:=⟨key.Name,K⟩) (value:=⟨value.Name,V⟩) p (by omega) z r (by grind) (by simp_all) k a u) ?_;rintro _ rfl;dsimp only;unfold Zur;dsimp only;rw[Zpc (by omega),chk_true,ZnN];refine ZnU (Z15 (ls:=[l,a]) (by simp) (fun x f=> ?_) (key:=⟨key.Name,K⟩) (value:=⟨value.Name,V⟩) (short:=⟨[],V.drop ((1:Int)).toNat⟩) z r (fun x f=>r x (List.mem_of_mem_drop f)) (by grind) k) ?_
   ·simp only[List.mem_cons,List.not_mem_nil,or_false]at f;rcases f with rfl |rfl
    ·grind[ZUs]
    ·exact⟨by omega,fun y A=>⟨j y A,h y A⟩⟩
   grind[ZtS,ZLJ,ZnL]
 grind[ZLJ,ZnL]
end Go.Proofs
namespace Eng
open Go Go.Lib
theorem globOk_one {Pg:Program} {w:World} {n:String} {g:Nat} {t e:TypeId} {k:IntKind} {z:Int} (S:Pg.globalNamed n=some g) (G:(Pg.globals[g]?).map (·.type)=some t)
  (ht:Pg.underlying t=some (.slice e)) (he:Pg.underlying e=some (.int k)) (Q:Pg.cellsOf e=1) (V:k.min<=z/\z<=k.max)
  (h:VarReads Pg w n (.slice [.lit (.int k z)] [])):Zel w (fun b=>b < w.heap.size) g [P.sl 1 [.int k z]]:=by
 obtain⟨g',t',cs,Z,p,hg,D,C,hd⟩:=h;obtain rfl:=Z38 (S.symm.trans hg);obtain rfl:=Z38 (G.symm.trans D);rcases DataW.trod_slice ht hd with ⟨_,r⟩ |⟨a,L,J,o,U,m,_,B,r,_,hl,T,aa,H,_,_⟩
 ·simp_all
 ·have R:=congrArg Prod.fst r;simp only[DataW.slice.injEq]at R;obtain⟨E,_⟩:=R
  match o,E with
  | [(d,q)],E=>
   simp only[List.map_cons,List.map_nil,List.cons.injEq,and_true]at E;subst E;have f:L=1:=by simp_all
   subst f;obtain⟨ci,A,K⟩:=Option.bind_eq_some_iff.1 (H 0 (by decide));obtain⟨c,hc,ab,_⟩:=DataW.trod_int he K;have M:c=z:=by grind
   subst M;subst hc;rw[Q,Nat.zero_mul]at A;obtain⟨_,_,O⟩:=World.cells?_some A;have h0:=O 0 (by decide);have y:w.cell? a=some (.int k c):=by grind[Addr.add]
   have N:a.spot=none:=by
    unfold World.cell? at y;cases hs:a.spot with
    |none=>rfl
    |some s=>rw[hs]at y;split at y<;>simp at y
   have ha:a=⟨a.block,a.off,none⟩:=by cases a;simp_all
   have F:a.block < w.heap.size:=Zj3 (by rw[ha]at y;omega);have X:cs.size=1:=by have:=congrArg List.length B;omega
   refine ZJp (t:=0) (fr:= #[]) (ZLe S C) _ (by omega) fun j v p u W=> ?_
   have Y:j=0:=by grind
   subst Y;simp only[Z3S,Option.some.injEq]at W;subst W;rw[<-Array.getElem?_toList,B]at u;simp only[Z3S,Option.some.injEq]at u;subst u;refine⟨.sl (some a) 1 J _ _ (fun _=> .int k c) rfl (by decide) hl (fun i hi=>rfl) (fun i hi=> ?_) (fun i x r=> ?_),rfl⟩
   ·have l:i=0:=by omega
    subst l;refine⟨a.block,a.off,by grind,F,fun j v u=> ?_⟩;have Y:=(Array.getElem?_eq_some_iff.1 u).1;have I:j=0:=by have:(Value.int k c).cells.size=1:=rfl;omega
    subst I;have ac:v= .int k c:=by have:(Value.int k c).cells[0]? =some (.int k c):=rfl;grind
    grind
   ·have l:i=0:=by grind
    subst l;simp only[Z3S,Option.some.injEq]at r;subst r;exact .int k c V.1 V.2
end Eng
namespace Eng
open Go
inductive ZQe (s:List UInt8):P->Prop
 |str:ZQe s (.str s)
 |agg {cs:List P} {c:P} (h:c∈cs) (h':ZQe s c):ZQe s (.agg cs)
 |sl {sz:Nat} {es:List P} {e:P} (h:e∈es) (h':ZQe s e):ZQe s (.sl sz es)
theorem RelP.strs {w:World} {S:Nat->Prop} {s:List UInt8} {x:P} (o:ZQe s x):∀{v:Value},RelP w S v x->s.length<=Zq:=by
 induction o with
 |str=>intro v h;cases h;omega
 |agg d _ c=>
  intro v h;cases h with
  |agg f q n y h=>
   obtain⟨i,hi,j⟩:=List.mem_iff_getElem.1 d;have b:i < f.size:=by omega
   exact c (h i f[i] _ (Array.getElem?_eq_getElem b) (by simp_all))
 |sl d _ c=>
  intro v h;cases h with
  |sl a g m t u p n k r l e h=>
   obtain⟨i,hi,j⟩:=List.mem_iff_getElem.1 d;exact c (h i _ (by grind))
inductive ZRv (k:IntKind) (n:Int):P->Prop
 |int:ZRv k n (.int k n)
 |agg {cs:List P} {c:P} (h:c∈cs) (h':ZRv k n c):ZRv k n (.agg cs)
 |sl {sz:Nat} {es:List P} {e:P} (h:e∈es) (h':ZRv k n e):ZRv k n (.sl sz es)
theorem RelP.lens {w:World} {S:Nat->Prop} {d:Nat} {b:List P} {v:Value} (h:RelP w S v (.sl d b)):b.length<=281474976710656:=by
 cases h with
 |sl a e g d b j l i k f c h=>grind[Zah]
end Eng
namespace Go.Proofs
open Go Eng
theorem ZUH {w:World} {S:Nat->Prop} {v:Value} {y:List G_api_Table} (h:RelP w S v (U.encE (.sl (.st 2)) y)):∀t∈y,ZJ3 t:=by
 have d:Zq=9223372036854775807:=by decide
 have a:RelP w S v (.sl 3 (y.map ZJq)):=h;intro t b;refine⟨?_,fun c e=>⟨?_,fun x f=> ?_⟩⟩
 ·rw[<-d];exact a.strs (.sl (Z30.2 ⟨t,b,rfl⟩) (.agg (by simp) .str))
 ·rw[<-d];exact a.strs (.sl (Z30.2 ⟨t,b,rfl⟩) (.agg (c:= .sl 2 (t.Columns.map ZFb)) (by simp) (.sl (Z30.2 ⟨c,e,rfl⟩) (.agg (by simp) .str))))
 ·rw[<-d];exact a.strs (.sl (Z30.2 ⟨t,b,rfl⟩) (.agg (c:= .sl 2 (t.Columns.map ZFb)) (by simp) (.sl (Z30.2 ⟨c,e,rfl⟩) (.agg (c:= .sl 2 (c.Cells.map ZIr)) (by simp) (.sl (Z30.2 ⟨x,f,rfl⟩) (.agg (by simp) .str))))))
end Go.Proofs
