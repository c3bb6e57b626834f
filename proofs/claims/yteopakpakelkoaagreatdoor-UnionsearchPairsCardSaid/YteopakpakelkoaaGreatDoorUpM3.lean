/- Plain laws over the specs, part 3. -/
import Derived.Test.YteopakpakelkoaaGreatDoorUpM2
import Derived.Test.YteopakpakelkoaaGreatDoorUpM0
import Derived.Test.YteopakpakelkoaaGreatDoorUpM1
set_option linter.all false
open Bool renaming not_true->ZVx
open Int renaming toNat_natCast->Z0t
open List renaming getElem_mem->Z0x, take_succ_eq_append_getElem->Z0F, zipWith->Z0G, length_map->Z0A, drop_eq_getElem_cons->Z0u, getElem_of_mem->Z0y, getElem?_eq_getElem->Z0w, length_append->Z0z, length_singleton->Z0B, length_take->Z0C, mem_append->Z0D, pairwise_append->Z0E, drop_eq_nil_of_le->Z0v
open Option renaming bind_some->Z0H
namespace Go.Proofs
open Go Eng
structure OpD (o:Zlj):Prop where
 cols:o.Columns.length<=3
 text:o.Text.length<=1024
def ZOt (t:G_api_Table) (k:Int):Prop:=0<=k/\k < (t.Columns.length:Int)
def ZLe (t:G_api_Table) (o:Zlj):Prop:=((o.Kind=1\/o.Kind=2\/o.Kind=5)->ZOt t o.Column)/\(o.Kind=3->∀k∈o.Columns,ZOt t k)
theorem ZWh {t:G_api_Table} {o:Zlj} (m:OpD o):wp (Zyx t o) (fun b=>b=true->ZLe t o):=by
 have z:=m.cols;have p:∀a:Bool,(a=true->ZOt t o.Column)->wp (Zsk a t o) (fun b=>b=true->ZLe t o):=by
  intro a u;unfold Zsk Zsj;have w:∀q:Bool,(o.Kind≠1)->(q=true->o.Kind=2\/o.Kind=5)->(o.Kind=2\/o.Kind=5->q=true)->wp (Zsi a o.Kind q t o) (fun b=>b=true->ZLe t o):=by
   intro q c v n;unfold Zsi Zsh;cases q with
   |true=>
    grind[Zfa,ZLe]
   |false=>
    have r:¬(o.Kind=2\/o.Kind=5):=fun h=>by simp_all
    rw[cond_false]
    by_cases h3:o.Kind=3
    ·rw[show (o.Kind == 3)=true by simp_all,cond_true,ZhS];refine Zjf (Zpy ZFs o.Columns (by omega) (fun i (_:Unit)=>(o.Columns,(o.Columns.length:Int),i,t,o)) (fun k _=>∀j (h:j < o.Columns.length),j < k->ZOt t o.Columns[j])
      (Q:=fun x=>x= .ret false\/(x= .brk o/\∀k∈o.Columns,ZOt t k)) () (fun j _ h=>absurd h (Nat.not_lt_zero _)) ?_ ?_) ?_
     ·rintro f k _ g y l;unfold ZxL ZtE Zvs;dsimp only;rw[decide_eq_true (show (k:Int) < (o.Columns.length:Int) by omega),cond_true,ZoM g,Option.bind_some]
      by_cases hn:o.Columns[k] < 0
      ·grind[Zfa]
      ·rw[decide_eq_false hn,cond_false]
       by_cases hg:o.Columns[k]>=(t.Columns.length:Int)
       ·grind[Zfa]
       ·rw[decide_eq_false hg,cond_false,Zhr];refine⟨ZiH (by omega),l () fun j s d=> ?_⟩
        by_cases e:j=k
        ·subst e;exact⟨by omega,by omega⟩
        grind
     all_goals grind[ZxL,ZtE,Zfa,List.getElem_of_mem,Zzv,Zsg,ZLe]
    grind[ZqD,ZLe,Zfa]
  by_cases c:o.Kind=1
  ·grind[Zfa,ZLe]
  ·rw[beq_eq_false_iff_ne.2 c,cond_false]
   by_cases h2:o.Kind=2
   ·simp_all
   ·rw[beq_eq_false_iff_ne.2 h2,cond_false]
    by_cases h5:o.Kind=5
    all_goals grind
 unfold Zyx
 by_cases h0:o.Column>=0
 ·rw[decide_eq_true h0,cond_true];exact p _ fun h=>⟨h0,of_decide_eq_true h⟩
 grind
theorem ZQP {t:G_api_Table} (h:ZI9 t) {x y:Int} (j:0<=x/\x < Zr9 t) (f:0<=y/\y < Zr9 t):wp (Zwe t x y) (fun _=>True):=by
 obtain⟨n,o,d⟩:=h.rows;have a:=h.cols;unfold Zwe;rw[ZhS];refine Zjf (Zpy ZEB t.Columns (by omega) (fun i (_:Unit)=>(x,y,t.Columns,(t.Columns.length:Int),i)) (fun _ _=>True) (Q:=fun _=>True) () trivial ?_ ?_) ?_
 ·rintro e k _ b _ g;unfold Zwr ZsA;dsimp only;have m:Zr9 t=(n:Int):=by
   unfold Zr9;cases hcs:t.Columns with
   |nil=>simp_all
   |cons c l=>rw[<-(d c (by simp_all)).2.1]
  have p:=(d _ (List.getElem_mem b)).2.1;rw[decide_eq_true (show (k:Int) < (t.Columns.length:Int) by omega),cond_true,ZoM b,Option.bind_some,Zin j.1 (show x.toNat < t.Columns[k].Cells.length by omega),Option.bind_some,Zin f.1 (show y.toNat < t.Columns[k].Cells.length by omega),Option.bind_some,Zoy];refine⟨fun _=>by grind[Zfa],fun _=> ?_⟩;rw[Zhr];exact⟨ZiH (by omega),g () trivial⟩
 all_goals grind[Zwr,ZsA,Zfa,ZxK]
theorem ZTi (a b:G_api_Cell):wp (ZrH a b) (fun _=>True):=by
 grind[ZrH,wp,ZqB]
theorem ZSD {t:G_api_Table} (h:ZI9 t) {o:Zlj} (hdo:ZLe t o) (h3:o.Kind≠3):wp (Zw7 t o) (fun r=>r.length<=6/\∀k∈r,0<=k/\k < Zr9 t):=by
 obtain⟨n,hn,hc⟩:=h.rows;have hcols:=h.cols;obtain⟨m,hm,hm6⟩:∃m:Nat,Zr9 t=(m:Int)/\m<=6:=by
  unfold Zr9;cases hcs:t.Columns with
  |nil=>grind
  |cons c l=>exact⟨n,by rw[<-(hc c (by simp_all)).2.1],hn⟩
 have hcol:∀k,ZOt t k->∃hk:k.toNat < t.Columns.length,0<=k/\(t.Columns[k.toNat]).Cells.length=m:=fun k hk=>by
  have hlt:k.toNat < t.Columns.length:=by have:=hk.1;have:=hk.2;omega
  refine⟨hlt,hk.1, ?_⟩;have h1:=(hc _ (List.getElem_mem hlt)).2.1;have h2:Zr9 t=(n:Int):=by
   unfold Zr9;cases hcs:t.Columns with
   |nil=>grind
   |cons c l=>rw[<-(hc c (by simp_all)).2.1]
  omega
 unfold Zw7;rw[ZIm,Option.bind_some,ZhS,hm];refine Zjf (Zti ZE7 m (by omega) (fun i (out:List Int)=>((m:Int),i,t,o,out)) (fun k out=>out.length<=k/\∀x∈out,0<=x/\x < (m:Int))
  (Q:=fun r=>r.length<=6/\∀k∈r,0<=k/\k < (m:Int)) [] ⟨Nat.le_refl _,fun c hc=>absurd hc (by simp)⟩ ?_ ?_) ?_
 ·rintro rec r out hr ⟨h1,h2⟩ ih;have put:∀(a:Nat) (keep:Bool),a<=out.length->wp (Zql (fun t14 r_ t o out=>rec (t14,r_,t,o,out)) (r:Int) (a:Int) (m:Int) (r:Int) keep t o out) (fun r=>r.length<=6/\∀k∈r,0<=k/\k < (m:Int)):=by
   intro a keep ha;unfold Zql Zuv;cases keep with
   |false=>grind[Zhr,ZiH]
   |true=>
    rw[cond_true,Int.toNat_natCast,Int.toNat_natCast,Nat.sub_zero,List.drop_zero,List.take_of_length_le (l:=out.drop a) (by simp_all)];simp only[Zhr];refine⟨Zpj (by omega),ZpN (by grind),ZpN (by grind),Zpj (by omega),ZpN (by grind),ZiH (by omega),ih _ ⟨?_,fun x hx=> ?_⟩⟩
    all_goals grind
  unfold Zw6 Ztk Zqm ZyQ ZyP;dsimp only;rw[decide_eq_true (show (r:Int) < (m:Int) by omega),cond_true]
  by_cases k1:o.Kind=1
  ·obtain⟨hk,h0,hlen⟩:=hcol _ (hdo.1 (.inl k1));grind[ZoM]
  rw[beq_eq_false_iff_ne.2 k1,cond_false]
  by_cases k2:o.Kind=2
  ·obtain⟨hk,h0,hlen⟩:=hcol _ (hdo.1 (.inr (.inl k2)));grind[ZoM]
  rw[beq_eq_false_iff_ne.2 k2,cond_false]
  by_cases k4:o.Kind=4
  ·rw[show (o.Kind == 4)=true by simp_all,cond_true,ZhS];refine Zjf (Zpy ZE6 out (by omega) (fun i (keep:Bool)=>((r:Int),(out.length:Int),keep,(m:Int),(r:Int),(out.length:Int),i,t,o,out)) (fun _ _=>True) (Q:=fun x=>∃keep,x=((r:Int),(out.length:Int),keep,(m:Int),(r:Int),t,o,out)) true trivial ?_ ?_) ?_
   ·rintro rec2 i keep hi _ ih2;unfold Zw5 Ztj Zux;dsimp only;rw[decide_eq_true (show (i:Int) < (out.length:Int) by omega),cond_true,ZFh hi,chk_true,Int.toNat_natCast,List.getElem?_eq_getElem hi,Option.bind_some];grind[Zhr,ZiH,ZhS,ZQP]
   all_goals grind[Zw5,Ztj,Zfa]
  rw[beq_eq_false_iff_ne.2 k4,cond_false]
  by_cases k5:o.Kind=5
  ·obtain⟨hk,h0,hlen⟩:=hcol _ (hdo.1 (.inr (.inr k5)));rw[show (o.Kind == 5)=true by simp_all,cond_true,Zin h0 hk,Option.bind_some];generalize (t.Columns[o.Column.toNat]).Cells=L at hlen;rw[ZhS];refine Zjf (ZxI ZE5 (fun a:Nat=>((r:Int),(a:Int),true,L,(m:Int),(r:Int),t,o,out)) (fun a=>a<=out.length) (fun a=>a) (Q:=fun x=>∃a:Nat,x=((r:Int),(a:Int),true,(m:Int),(r:Int),t,o,out)/\a<=out.length) out.length (Nat.le_refl _) (by omega) ?_) ?_
   ·rintro rec2 a ha ih2;unfold ZBH Zw4 Zuw;dsimp only
    by_cases h0a:0 < a
    ·have hi1:a - 1 < out.length:=by omega
     have hb:=h2 _ (List.getElem_mem hi1);rw[decide_eq_true (show (a:Int) > 0 by omega),cond_true,show (a:Int) - 1=((a - 1:Nat):Int) by omega,Zhr,Zhr,Int.toNat_natCast,List.getElem?_eq_getElem hi1,Option.bind_some,Zin hb.1 (show (out[a - 1]).toNat < L.length by omega),Option.bind_some,ZoM (show r < L.length by omega),Option.bind_some,ZhS];grind[ZiH,ZFh,ZTi,Zhr,Zfa]
    grind[Zfa]
   simp_all
  grind
 all_goals grind[Zw6,Ztk,Zfa,ZyO]
theorem ZZa {t:G_api_Table} (h:ZI9 t) {o:Zlj} (b:OpD o) (a:ZLe t o):wp (Zzc t o) (fun x=>ZI9 x/\x.ID=t.ID):=by
 unfold Zzc
 by_cases h3:o.Kind=3
 ·rw[show (o.Kind == 3)=true by simp_all,cond_true,ZhS];refine Zjf (ZNX h b.cols (a.2 h3)) ?_;grind[Zfa]
 grind[ZhS,Zjf,ZSD,ZOI,Zfa]
theorem ZVi {t:G_api_Table} (h:ZI9 t) {o:Zlj} (g:OpD o):wp (Zyy t [o]) (fun r=>r.2=0->ZI9 r.1):=by
 unfold Zyy;rw[show decide ((([o]:List Zlj).length:Int) > 5)=false from rfl,cond_false,ZJH h,Option.bind_some,Bool.not_true,cond_false,ZhS];refine Zjf (Zpy ZFt [o] (by simp) (fun i (x:G_api_Table)=>([o],(([o]:List Zlj).length:Int),i,x,(0:Int),([]:Str),([]:List G_api_Column))) (fun _ x=>ZI9 x)
  (Q:=fun y=>(∃e,y= .ret e/\e.2≠0)\/∃x,y= .brk (x,(0:Int),([]:Str),([]:List G_api_Column))/\ZI9 x) t h ?_ ?_) ?_
 ·rintro b k x c f d;unfold ZxM ZtF;dsimp only;have a:([o]:List Zlj)[k]=o:=by
   simp_all
  rw[decide_eq_true (show (k:Int) < (([o]:List Zlj).length:Int) by omega),cond_true,ZoM c,Option.bind_some,a,ZhS];grind[Zjf,ZWh,Zfa,ZhS,ZZa,Zhr,ZiH]
 all_goals grind[ZxM,ZtF,Zfa,Zzw,ZPk]
end Go.Proofs
namespace Go.Proofs
open Go Eng
theorem ZKU {d:ZbZ} (b:Zth d) {n:Int} (a:0<=n/\n<=1000000):wp (Zi5 d n) (fun r=>(0<=r.1/\(r.1 < n\/n=0/\r.1=0))/\Zth r.2):=by
 by_cases h0:n=0
 ·subst h0;unfold Zi5;grind[Zfa,Zhr,ZhS,ZHl,ZiH,Zr0,Zth]
 grind[ZCE]
theorem ZYU {d:ZbZ} (j:Zth d) {t:G_api_Table} (h:ZI9 t):wp (Zyf d t) (fun r=>OpD r.1/\Zth r.2):=by
 obtain⟨n,X,R⟩:=h.rows;have G:=h.cols;have I:∀(d:ZbZ) (k q:Int) (s:Str) (l:List Int),Zth d->s.length<=1024->l.length<=3->wp (ZqO d 0 0 [] k q s [] l) (fun r=>OpD r.1/\Zth r.2):=by intro d k q s l j C J;unfold ZqO ZuZ;rw[Zfa];exact⟨⟨J,C⟩,j⟩
 have Y:∀(k:Int) (b:Bool) (d:ZbZ),Zth d->wp (Zu0 (t.Columns.length:Int) k b d 0 0 [] k 0 [] [] []) (fun r=>OpD r.1/\Zth r.2):=by
  intro k b d j;unfold Zu0;cases b with
  |true=>
   grind[ZhS,Zjf,ZKU]
  |false=>
   rw[cond_false,Zoy];refine⟨fun _=> ?_,fun _=>I d k 0 [] [] j (by simp) (by simp)⟩;rw[ZhS];refine Zjf (ZCE j (n:=3) (by omega)) ?_;rintro⟨q,L⟩ ⟨D,a⟩;dsimp only at D a|-
   obtain⟨m,U⟩:∃m:Nat,1+q=(m:Int):=⟨(1+q).toNat,by omega⟩;rw[U,Zhr,ZhS];refine⟨ZiH (by omega),Zjf (ZxI ZGo (fun s:Nat×ZbZ×List Int=>((t.Columns.length:Int),(s.1:Int),s.2.1,(0:Int),(0:Int),([]:Str),k,(0:Int),([]:Str),([]:List Int),s.2.2))
    (fun s=>Zth s.2.1/\s.2.2.length+s.1=m) (fun s=>s.1) (Q:=fun x=>∃d l,x=(d,(0:Int),(0:Int),([]:Str),k,(0:Int),([]:Str),([]:List Int),l)/\Zth d/\l.length<=3) (m,L,[]) ⟨a,by simp⟩ (by omega) ?_) ?_⟩
   ·rintro N ⟨o,d,l⟩ ⟨B,H⟩ K;dsimp only at B H K;unfold ZDz ZAi ZyH;dsimp only
    by_cases hk:0 < o
    ·rw[decide_eq_true (show (o:Int) > 0 by omega),cond_true,Zoy];refine⟨fun _=> ?_,fun _=> ?_⟩
     ·rw[ZhS];refine Zjf (ZKU B (n:=(t.Columns.length:Int)) (by omega)) ?_;rintro⟨q,v⟩ ⟨_,g⟩;dsimp only at g|-
      rw[Zhr,Zhr,show (o:Int) - 1=((o - 1:Nat):Int) by omega];exact⟨ZpN (by grind),ZiH (by omega),K (o - 1,v,l++[q]) ⟨g,by grind⟩ (by omega)⟩
     grind[Zfa]
    grind[Zfa]
   ·rintro _ ⟨d,l,rfl,B,H⟩;unfold ZBv ZuZ;dsimp only;rw[Zfa];exact⟨⟨H,by simp⟩,B⟩
 unfold Zyf;rw[ZhS];refine Zjf (ZCE j (n:=5) (by omega)) ?_;rintro⟨q,W⟩ ⟨D,y⟩;dsimp only at D y|-
 rw[Zhr];refine⟨ZiH (by omega), ?_⟩;rw[Zoy];refine⟨fun _=> ?_,fun _=> ?_⟩
 ·rw[ZhS];refine Zjf (ZKU y (n:=(t.Columns.length:Int)) (by omega)) ?_;rintro⟨u,L⟩ ⟨E,a⟩;dsimp only at E a|-
  rw[ZhS];refine Zjf (ZIJ a (l:=[([97]:Str),([98]:Str),([49]:Str),([50]:Str),([107,48]:Str),([]:Str)]) (by decide) (by decide)) ?_;rintro⟨s,P⟩ ⟨C,f⟩;dsimp only at C f|-
  have S:s.length<=1024:=by grind
  have F:∀v,Zth v->wp (ZqP false v t 0 0 [] (1+q) u s [] []) (fun r=>OpD r.1/\Zth r.2):=fun v g=>by grind[ZqP]
  by_cases h0:0 < t.Columns.length
  ·have i:u.toNat < t.Columns.length:=by omega
   have p:=R _ (List.getElem_mem i);rw[decide_eq_true (show (t.Columns.length:Int) > 0 by omega),cond_true,Zin (by omega) i,Option.bind_some,Zoy];refine⟨fun e=> ?_,fun _=>F P f⟩;have e:=of_decide_eq_true e;rw[ZhS];refine Zjf (ZCE f (n:=3) (by omega)) ?_;rintro⟨M,V⟩ ⟨_,w⟩;dsimp only at w|-
   cases decide (M > 0)with
   |false=>simp_all
   |true=>
    unfold ZqP;have J:=p.2.1;rw[cond_true,Zin (by omega) i,Option.bind_some,Option.bind_some,ZhS];refine Zjf (ZCE w (n:=(t.Columns[u.toNat].Cells.length:Int)) (by omega)) ?_;rintro⟨T,O⟩ ⟨A,z⟩;dsimp only at A z|-
    have c:T.toNat < (t.Columns[u.toNat]).Cells.length:=by omega
    rw[Zin A.1 c,Option.bind_some];refine I O _ u _ [] z ?_ (by simp);have:=(ZKd (p.2.2 _ (List.getElem_mem c)).1).2;omega
  simp_all
 grind
theorem ZN7 {d:ZbZ} (A:Zth d) {t:G_api_Table} (h:ZI9 t) {id:Int} (i:0<=id/\id<=1000):wp (Ztd d t id) (fun r=>(ZI9 r.1/\r.1.ID=id)/\Zth r.2):=by
 unfold Ztd;rw[ZhS];refine Zjf (ZCE A (n:=3) (by omega)) ?_;rintro⟨q,v⟩ ⟨z,c⟩;dsimp only at z c|-
 obtain⟨m,rfl⟩:∃m:Nat,q=(m:Int):=⟨q.toNat,by omega⟩;rw[ZhS];refine Zjf (ZxI ZEU (fun s:Nat×ZbZ×G_api_Table=>(id,(s.1:Int),s.2.1,s.2.2,(0:Int),([]:Str),([]:List G_api_Column)))
  (fun s=>s.1<=m/\Zth s.2.1/\ZI9 s.2.2) (fun s=>s.1) (Q:=fun x=>∃d t,x=(id,d,t,(0:Int),([]:Str),([]:List G_api_Column))/\Zth d/\ZI9 t) (m,v,t) ⟨Nat.le_refl _,c,h⟩ (by omega) ?_) ?_
 ·rintro w ⟨k,d,t⟩ ⟨y,f,a⟩ g;dsimp only at y f a g;unfold ZBe ZwR Zub;dsimp only
  by_cases hk:0 < k
  ·rw[decide_eq_true (show (k:Int) > 0 by omega),cond_true,ZhS];refine Zjf (ZYU f a) ?_;rintro⟨o,j⟩ ⟨p,b⟩;dsimp only at p b|-
   rw[ZhS];refine Zjf (ZVi a p) ?_;rintro⟨x,e⟩ l;dsimp only at l|-
   rw[show (k:Int) - 1=((k - 1:Nat):Int) by omega,Zoy];refine⟨fun u=> ?_,fun _=> ?_⟩
   ·rw[Zhr];exact⟨ZiH (by omega),g (k - 1,j,x) ⟨by omega,b,l (eq_of_beq u)⟩ (by omega)⟩
   ·rw[Zhr];exact⟨ZiH (by omega),g (k - 1,j,t) ⟨by omega,b,a⟩ (by omega)⟩
  grind[Zfa]
 ·rintro _ ⟨d,t,rfl,f,a⟩;unfold Zyg;dsimp only;rw[ZPk a,Option.bind_some,Zfa];exact⟨⟨⟨i,a.name,a.cols,a.rows⟩,rfl⟩,f⟩
structure ZTC (m:Nat) (b:Int) (l:List G_api_Table):Prop where
 len:l.length<=m
 ok:∀t∈l,ZI9 t/\t.ID<=b
 up:l.Pairwise fun x y=>x.ID < y.ID
theorem ZTC.snoc {m:Nat} {b c:Int} {l:List G_api_Table} (h:ZTC m b l) {t:G_api_Table} (f:ZI9 t) (e:t.ID=c) (g:b < c):ZTC (m+1) c (l++[t]):=by
 refine⟨by rw[List.length_append,List.length_singleton];have:=h.len;omega,fun x a=> ?_, ?_⟩
 ·rcases List.mem_append.1 a with a |a
  ·exact⟨(h.ok x a).1,by have:=(h.ok x a).2;omega⟩
  simp_all
 ·rw[List.pairwise_append];refine⟨h.up,by simp,fun x a y d=> ?_⟩;rw[List.mem_singleton.1 d];have:=(h.ok x a).2;omega
end Go.Proofs
namespace Go.Proofs
open Go Eng
section
variable {α:Type} (lt:α->α->Bool)
variable {lt}
end
end Go.Proofs
namespace Go.Proofs
open Go Eng
theorem ZJF (l:List Str):Srt l<->l.Pairwise (fun a b=>a < b):=by
 constructor
 ·grind[List.pairwise_iff_getElem,ZKl]
 ·intro h;refine⟨h.imp fun h=>List.le_of_lt h, ?_⟩;exact h.imp fun {a b} h e=>by grind
theorem ZLI {a w:Str} (h:¬a < w) (b:a≠w):w < a:=by grind
theorem ZN0:((List.range 256).all fun n=>decide (Zvw (n:Int)=some (((xwC n.toUInt8).toNat:Nat):Int)))=true:=by kernel_rfl
theorem ZO5 (b:UInt8):Zvw ((b.toNat:Nat):Int)=some (((xwC b).toNat:Nat):Int):=by
 have:=of_decide_eq_true (List.all_eq_true.1 ZN0 b.toNat (List.mem_range.2 b.toNat_lt))
 simp_all
theorem ZVw {a:List Str} {w:Str} (v:a.length<=1000):Zyz (ZxF a) w=some (ZxF (a++[w])):=by
 have g:=ZKM a;have c:=ZHM a;have d:∀x,x∈ZxF a<->x∈a:=ZDG a;generalize ZxF a=l at g c d;refine Zo1 ?_;unfold Zyz;rw[ZhS];refine Zjf (ZxI ZFv (fun(i:Nat)=>(l,w,(i:Int))) (fun i=>i<=l.length/\∀k (h:k < l.length),k < i->l[k] < w) (fun i=>l.length - i)
  (Q:=fun x=>∃i:Nat,x=(l,w,(i:Int))/\i<=l.length/\(∀k (h:k < l.length),k < i->l[k] < w)/\∀h:i < l.length,¬l[i] < w) 0 ⟨Nat.zero_le _,fun k _ h=>absurd h (Nat.not_lt_zero _)⟩ (by omega) ?_) ?_
 ·rintro q i ⟨p,m⟩ A;unfold ZB6 ZxW Zvv;dsimp only;rw[Zoy];refine⟨fun h=> ?_,fun h=> ?_⟩
  ·simp only[decide_eq_true_eq]at h;have b:i < l.length:=by omega
   rw[ZoM b,Z0H,ZQW,Zoy];refine⟨fun f=> ?_,fun f=> ?_⟩
   ·simp only[decide_eq_true_eq]at f;rw[Zhr];refine⟨ZiH (by omega), ?_⟩;grind
   grind[Zfa]
  grind[Zfa]
 ·rintro x ⟨i,rfl,p,m,t⟩;dsimp only;unfold Zzy Zvu;have j:(∀h:i < l.length,l[i]≠w)->wp (chk (Zcp 0 (i:Int) (l.length:Int)) <| chk (ZjC (l.take ((i:Int)).toNat).length 16) <| chk (ZjC ((l.take ((i:Int)).toNat).length+([w]:(List Str)).length) 16) <| chk (Zcp (i:Int) (l.length:Int) (l.length:Int)) <|
    chk (ZjC (((l.take ((i:Int)).toNat)++([w]:(List Str))).length+(l.drop ((i:Int)).toNat).length) 16) <| some (((l.take ((i:Int)).toNat)++([w]:(List Str)))++(l.drop ((i:Int)).toNat))) (fun x=>x=ZxF (a++[w])):=by
   intro s;rw[Zhr,Zhr,Zhr,Zhr,Zhr,Zfa,Z0t];refine⟨Zpj (by omega),ZpN (by grind),ZpN (by grind),Zpj (by omega),ZpN (by grind), ?_⟩;have o:Srt ((l.take i++[w])++l.drop i):=by
    rw[ZJF,Z0E,Z0E];have u:∀x∈l.take i,x < w:=fun x n=>by grind[Z0y]
    have z:∀x∈l.drop i,w < x:=fun x n=>by obtain⟨k,y,rfl⟩:=Z0y n;grind[ZLI,List.lt_trans,ZKl]
    grind[ZJF]
   refine(ZIf o.1 o.2 fun x=> ?_).symm;grind[List.take_append_drop]
  rw[Zoy];refine⟨fun h=> ?_,fun h=> ?_⟩
  ·simp only[decide_eq_true_eq]at h;have b:i < l.length:=by omega
   rw[ZoM b,Z0H,Zoy];refine⟨fun f=> ?_,fun f=>j fun _ e=> ?_⟩
   ·rw[Zfa];have r:l[i]=w:=by simp_all
    refine(ZIf g.1 g.2 fun x=> ?_).symm;grind
   simp_all
  grind
theorem ZVU (s a:Str) (b:List Str) {r:List Str} (h:b++ZGh s a=r):b.length<=r.length:=by grind
theorem ZMl {a:Str} (y:a.length<=300):Zs7 a=some (ZDs a):=by
 refine Zo1 ?_;unfold Zs7 ZDs;have f:=ZIg (a++[32]) [];rw[Z0z,Z0B]at f;generalize hR:ZGh (a++[32]) []=R at f|-
 have g:ZxF []=[]:=by kernel_rfl
 rw[ZhS,show Zo4 big a ([]:List Str) ([]:Str) 0=Zo4 big a (ZxF []) ([]:Str) 0 by rw[g]];refine Zjf (ZxI ZEN (fun(s:Nat×List Str×Str)=>(a,ZxF s.2.1,s.2.2,(s.1:Int)))
  (fun s=>s.1<=a.length+1/\s.2.1++ZGh (List.drop s.1 (a++[32])) s.2.2=R/\s.2.2.length<=s.1) (fun s=>a.length+1 - s.1)
  (Q:=fun x=>x=ZxF R) (0,[],[]) ⟨by omega,hR,by simp⟩ (by dsimp only;omega) ?_) ?_
 ·rintro o ⟨i,h,c⟩ ⟨u,b,t⟩ j;dsimp only at u b t j;have v:=ZVU _ _ _ b;unfold ZA6 ZwD;dsimp only
  by_cases hle:i<=a.length
  ·have k:i < (a++[32]).length:=by rw[Z0z,Z0B];omega
   have q:(a++[32]).drop i=(a++[32])[i]::(a++[32]).drop (i+1):=Z0u k;have d:wp (Zrh (fun a p c i=>o (a,p,c,i)) a (ZxF h) c (i:Int) (((xwC (a++[32])[i]).toNat:Nat):Int)) (fun x=>x=ZxF R):=by
    rw[q]at b;unfold ZGh at b;unfold Zrh ZtR ZtQ
    by_cases hc:xwC (a++[32])[i]=0
    ·rw[hc]at b|-
     rw[show ((((0:UInt8).toNat:Nat):Int) != 0)=false from rfl,cond_false];rw[show ((0:UInt8) == 0)=true from rfl,cond_true]at b;cases hwd:c with
     |nil=>
      subst hwd;rw[show (!(([]:Str) == ([]:Str)))=false from rfl,cond_false,Zhr];exact⟨ZiH (by omega),j (i+1,h,[]) ⟨by dsimp only;omega,b,by simp⟩ (by dsimp only;omega)⟩
     |cons r m=>
      rw[hwd,show (r::m).isEmpty=false from rfl,cond_false]at b;rw[show (!((r::m) == ([]:Str)))=true by simp,cond_true,ZVw (by omega),Z0H,Zhr];exact⟨ZiH (by omega),j (i+1,h++[r::m],[]) ⟨by dsimp only;omega,by dsimp only;rw[List.append_assoc];exact b,by simp⟩ (by dsimp only;omega)⟩
    ·have l:(((((xwC (a++[32])[i]).toNat:Nat):Int)) != 0)=true:=by rw[bne_iff_ne];intro e;refine hc (UInt8.toNat_inj.1 ?_);show _=0;omega
     rw[show (xwC (a++[32])[i] == 0)=false from beq_eq_false_iff_ne.2 hc,cond_false]at b;have w:([((((xwC (a++[32])[i]).toNat:Nat):Int))].map fun n=>UInt8.ofNat (Int.toNat n))=[xwC (a++[32])[i]]:=by rw[List.map_cons,List.map_nil,Z0t,UInt8.ofNat_toNat]
     rw[l,cond_true,w,Zhr,Zhr];refine⟨decide_eq_true (by simp only[Z0B];unfold Zr;omega),ZiH (by omega),j (i+1,h,c++[xwC (a++[32])[i]]) ⟨by dsimp only;omega,b,by dsimp only;rw[Z0z,Z0B];omega⟩ (by dsimp only;omega)⟩
   rw[decide_eq_true (show (i:Int)<=(a.length:Int) by omega),cond_true]
   by_cases hlt:i < a.length
   ·rw[decide_eq_true (show (i:Int) < (a.length:Int) by omega),cond_true,ZoM hlt,Z0H,ZO5,Z0H]
    rwa [List.getElem_append_left hlt]at d
   ·obtain rfl:i=a.length:=by omega
    rw[decide_eq_false (show ¬(a.length:Int) < (a.length:Int) by omega),cond_false];rw[List.getElem_append_right (Nat.le_refl _)]at d;simp only[Nat.sub_self,List.getElem_cons_zero]at d
    rwa [show (((xwC 32).toNat:Nat):Int)=0 by decide+kernel]at d
  ·obtain rfl:i=a.length+1:=by omega
   rw[decide_eq_false (show ¬((a.length+1:Nat):Int)<=(a.length:Int) by omega),cond_false,Zfa];rw[List.drop_of_length_le (by simp)]at b;unfold ZGh at b;rw[List.append_nil]at b;rw[b]
 ·rintro x rfl;unfold ZxX;rw[Zfa]
theorem ZMz {b:List Str} (a:b.Nodup) (x:Str):(b.filter fun y=>x == y).length=if b.contains x then 1 else 0:=by
 induction b with
 |nil=>rfl
 |cons y r c=>
  grind
theorem ZKt {a b:List Str} (q:Srt a) (g:Srt b) (r:a.length<=1000) (t:b.length<=1000):ZrR a b=some (fOf (ZCC a b)):=by
 refine Zo1 ?_;have p:=ZH8 a b;unfold ZrR;rw[ZhS];refine Zjf (Zti ZD9 a.length (by omega) (fun i (n:Nat)=>(a,b,(n:Int),a,(a.length:Int),i,false,false,([]:List Int),([]:List Int))) (fun i n=>n=ZId (a.take i) b)
  (Q:=fun x=>x=(a,b,(ZId a b:Int),false,false,([]:List Int),([]:List Int))) 0 (by simp[ZId]) ?_ ?_) ?_
 ·rintro l i n j rfl m;unfold Zu8 Zrz;dsimp only;have c:=ZH8 (a.take i) b;rw[Z0C]at c;rw[decide_eq_true (show (i:Int) < (a.length:Int) by omega),cond_true,ZoM j,Z0H,ZhS];refine Zjf (Zti ZD8 b.length (by omega) (fun k (n:Nat)=>(a,b,(n:Int),a[i],a,(a.length:Int),(i:Int),b,(b.length:Int),k,false,false,([]:List Int),([]:List Int))) (fun k n=>n=ZId (a.take i) b+((b.take k).filter fun y=>a[i] == y).length)
   (Q:=fun x=>x=(a,b,((ZId (a.take i) b+(b.filter fun y=>a[i] == y).length:Nat):Int),a,(a.length:Int),(i:Int),false,false,([]:List Int),([]:List Int))) (ZId (a.take i) b) (by simp) ?_ ?_) ?_
  ·rintro d k n e rfl u;unfold Zu7 Zry ZsN;dsimp only;have v:((b.take k).filter fun y=>a[i] == y).length<=k:=Nat.le_trans (List.length_filter_le _ _) (by grind);have f:((b.take (k+1)).filter fun y=>a[i] == y).length=((b.take k).filter fun y=>a[i] == y).length+(bif a[i] == b[k]then 1 else 0):=by rw[Z0F e,List.filter_append,Z0z];grind
   rw[decide_eq_true (show (k:Int) < (b.length:Int) by omega),cond_true,ZoM e,Z0H];cases h:a[i] == b[k]with
   |true=>
    rw[h]at f;rw[cond_true,Zhr,Zhr];refine⟨ZiH (by omega),ZiH (by omega), ?_⟩;grind
   |false=>
    rw[h]at f;grind[Zhr,ZiH]
  ·simp_all[Zu7,Zry,Zfa]
  ·rintro x rfl;dsimp only;unfold ZwG;rw[Zhr];refine⟨ZiH (by omega),m _ ?_⟩;rw[ZMz g.2];grind[ZId,Z0F]
 ·grind[Zu8,Zrz,Zfa]
 ·rintro x rfl;dsimp only;unfold ZwF;rw[Zhr,Zoy];refine⟨ZiH (by omega),fun h=> ?_,fun h=> ?_⟩
  ·have o:a.length+b.length=0:=by grind
   simp_all[ZlB,ZIw,Zfa,ZJL]
  ·have o:¬(a.length+b.length=0):=by grind
   have s:ZId a b<=b.length:=by have:=ZH8 b a;rw[<-ZJ2 q.2 g.2]at this;omega
   grind[Zhr,ZJN,Zfa,ZiH,ZCC]
end Go.Proofs
namespace Go.Proofs
open Go Eng
theorem ZST:ZxF []=[]:=by kernel_rfl
theorem ZS6 {p l:List Str} {w:Str} {i:Nat} (m:Srt l) (c:∀x,x∈l<->x∈p) (j:∀k (h:k < l.length),k < i->l[k] < w) (f:∀h:i < l.length,¬l[i] < w) (d:∀h:i < l.length,l[i]≠w):ZxF (p++[w])=l.take i++(w::l.drop i):=by
 have q:Srt (l.take i++(w::l.drop i)):=by
  rw[ZJF,Z0E,List.pairwise_cons];have s:∀x∈l.take i,x < w:=fun x n=>by obtain⟨k,g,rfl⟩:=Z0y n;rw[Z0C]at g;rw[List.getElem_take];exact j k (by omega) (by omega)
  have t:∀x∈l.drop i,w < x:=fun x n=>by
   obtain⟨k,g,rfl⟩:=Z0y n;rw[List.length_drop]at g;rw[List.getElem_drop];have r:w < l[i]'(by omega):=ZLI (f (by omega)) (d (by omega));rcases Nat.eq_zero_or_pos k with rfl |v
   ·exact r
   ·exact List.lt_trans r (ZKl m (show i < i+k by omega) (by omega))
  refine⟨((ZJF l).1 m).sublist (List.take_sublist _ _),⟨t,((ZJF l).1 m).sublist (List.drop_sublist _ _)⟩,fun a u b o=> ?_⟩;rcases List.mem_cons.1 o with rfl |o
  ·exact s a u
  ·exact List.lt_trans (s a u) (t b o)
 refine ZIf q.1 q.2 fun x=> ?_
 rw[Z0D,Z0D,List.mem_singleton,List.mem_cons,<-c x];have e:x∈l<->x∈l.take i\/x∈l.drop i:=by rw[<-Z0D,List.take_append_drop]
 rw[e];constructor
 ·rintro((h |h) |h)
  ·exact .inl h
  ·exact .inr (.inr h)
  ·exact .inr (.inl h)
 ·rintro(h |h |h)
  ·exact .inl (.inl h)
  ·exact .inr h
  ·exact .inl (.inr h)
theorem ZSP {b l:List Str} {w:Str} (c:Srt l) (a:∀x,x∈l<->x∈b) (h:w∈l):ZxF (b++[w])=l:=by
 refine ZIf c.1 c.2 fun x=> ?_
 simp_all
theorem ZVg {l:List Str} (z:l.length<=1000):ZyB l=some (ZxF l):=by
 refine Zo1 ?_;unfold ZyB;rw[ZhS];refine Zjf (Zpy ZFx l (by omega) (fun i (c:List Str)=>(l,(l.length:Int),i,c)) (fun k c=>c=ZxF (l.take k)) (Q:=fun x=>x=ZxF l) [] (by grind[ZST]) ?_ ?_) ?_
 ·rintro m k c n rfl f;have b:=ZHM (l.take k);rw[Z0C]at b;have g:=ZKM (l.take k);have a:∀x,x∈ZxF (l.take k)<->x∈l.take k:=ZDG _;have r:l.take (k+1)=l.take k++[l[k]]:=Z0F n;unfold Zx2 ZtW;dsimp only;rw[decide_eq_true (show (k:Int) < (l.length:Int) by omega),cond_true,ZoM n,Z0H,ZhS];rw[r]at f;generalize l.take k=ws at a f g b;generalize ZxF ws=o at g b a;generalize l[k]=w at f;refine Zjf (ZxI ZFw (fun i:Nat=>(w,(i:Int),l,(l.length:Int),(k:Int),o)) (fun i=>i<=o.length/\∀j (h:j < o.length),j < i->o[j] < w) (fun i=>o.length - i)
   (Q:=fun x=>∃i:Nat,x=(w,(i:Int),l,(l.length:Int),(k:Int),o)/\i<=o.length/\(∀j (h:j < o.length),j < i->o[j] < w)/\∀h:i < o.length,¬o[i] < w) 0 ⟨Nat.zero_le _,fun k _ h=>absurd h (Nat.not_lt_zero _)⟩ (by omega) ?_) ?_
  ·rintro t i ⟨u,d⟩ s;unfold ZB8 Zx1 ZvG;dsimp only
   by_cases hio:i < o.length
   ·rw[decide_eq_true (show (i:Int) < (o.length:Int) by omega),cond_true,ZFh hio,chk_true,Z0t,Z0w hio,Z0H,ZQW]
    by_cases hc:o[i] < w
    ·rw[decide_eq_true hc,cond_true,Zhr];refine⟨ZiH (by omega),s (i+1) ⟨by omega,fun k n y=> ?_⟩ (by omega)⟩;grind
    grind[Zfa]
   grind[Zfa]
  ·rintro x ⟨i,rfl,u,d,q⟩;dsimp only;unfold ZzE ZvF ZvE;have v:(∀h:i < o.length,o[i]≠w)->wp (chk (Zcp 0 (i:Int) (o.length:Int)) <| chk (Zcp (i:Int) (o.length:Int) (o.length:Int)) <| chk (ZjC (([w]:(List Str)).length+((o.drop (((i:Int)).toNat)).take ((o.length:Int).toNat - ((i:Int)).toNat)).length) 16) <|
     chk (decide ((((i:Int)).toNat - 0)<=o.length)) <| chk (ZjC ((((i:Int)).toNat - 0)+(([w]:(List Str))++((o.drop (((i:Int)).toNat)).take ((o.length:Int).toNat - ((i:Int)).toNat))).length) 16) <|
     chk (inK .i64 ((k:Int)+1)) <| m (l,(l.length:Int),(k:Int)+1,(o.take (((i:Int)).toNat - 0)++(([w]:(List Str))++((o.drop (((i:Int)).toNat)).take ((o.length:Int).toNat - ((i:Int)).toNat)))))) (fun x=>x=ZxF l):=by
    intro p;have e:=ZS6 g a d q p;rw[Z0t,Z0t,Nat.sub_zero,List.take_of_length_le (l:=o.drop i) (by simp_all)];rw[Zhr,Zhr,Zhr,Zhr,Zhr,Zhr];grind[Zpj,ZpN,ZiH]
   by_cases hio:i < o.length
   ·rw[beq_eq_false_iff_ne.2 (show ((i:Int))≠(o.length:Int) by omega),cond_false,ZFh hio,chk_true,Z0t,Z0w hio,Z0H]
    by_cases hc:o[i]=w
    ·rw[show (!(o[i] == w))=false by grind,cond_false,Zhr];exact⟨ZiH (by omega),f _ (ZSP g a (hc▸Z0x hio)).symm⟩
    ·rw[show (!(o[i] == w))=true by grind,cond_true]
     simp_all
   grind
 all_goals grind[Zx2,ZtW,Zfa,ZzD]
theorem ZLx {c:G_api_Column} (h:c.Cells.length<=1000):Zsm c=some (Zw3 c.Cells):=by
 refine Zo1 ?_;have a:∀l:List G_api_Cell,(ZHn l).length<=l.length:=fun l=>by grind[ZHn]
 unfold Zsm;rw[ZhS];refine Zjf (Zpy ZEi c.Cells (by omega) (fun i (l:List Str)=>(c.Cells,(c.Cells.length:Int),i,l)) (fun k l=>l=ZHn (c.Cells.take k)) (Q:=fun x=>x=ZHn c.Cells) [] rfl ?_ ?_) ?_
 ·rintro g k l e rfl f;have b:c.Cells.take (k+1)=c.Cells.take k++[c.Cells[k]]:=Z0F e;have d:=a (c.Cells.take k);rw[Z0C]at d;unfold ZvY Zr3 Ztn;dsimp only;rw[decide_eq_true (show (k:Int) < (c.Cells.length:Int) by omega),cond_true,ZoM e,Z0H];rw[b]at f;cases hn:c.Cells[k].Null with
  |true=>
   grind[Zhr,ZiH,ZHn]
  |false=>
   rw[Bool.not_false,cond_true,Zhr,Zhr];exact⟨ZpN (by grind),ZiH (by omega),f _ (by grind[ZHn])⟩
 ·grind[ZvY,Zr3,Zfa]
 ·rintro x rfl;have d:=a c.Cells;unfold Zxe;rw[ZVg (by omega),Z0H,Zfa];rfl
theorem ZNN {a b:G_api_Column} (c:a.Cells.length<=100) (d:b.Cells.length<=100):Zvx a b=some (fOf (ZCC (Zw3 a.Cells) (Zw3 b.Cells))):=by grind[ZH3,Zvx,ZLx,ZKt,ZFL]
theorem ZMn {a b:Str} (c:a.length<=300) (d:b.length<=300):Zwg a b=some (fOf (ZCC (ZDs a) (ZDs b))):=by grind[ZII,Zwg,ZMl,ZKt,ZGt]
theorem ZJJ {c:G_api_Column} (o:∀x∈c.Cells,x.Text.length<=9223372036854775807) (t:c.Cells.length<=1000):Zs8 c=some (fOf (ZxD c.Cells)):=by
 refine Zo1 ?_;unfold Zs8;rw[ZhS];refine Zjf (Zpy ZEO c.Cells (by omega) (fun i (s:Nat×Nat)=>((s.1:Int),(s.2:Int),c.Cells,(c.Cells.length:Int),i,false,false,([]:List Int),([]:List Int))) (fun k s=>s.1=ZHf (c.Cells.take k)/\s.2=ZNp (c.Cells.take k))
  (Q:=fun x=>x=((ZHf c.Cells:Int),(ZNp c.Cells:Int),false,false,([]:List Int),([]:List Int))) (0,0) ⟨by simp[ZHf],by simp[ZNp]⟩ ?_ ?_) ?_
 ·rintro j k ⟨f,n⟩ e ⟨p,l⟩ a;dsimp only at p l a;unfold ZwE ZsM Zrj;dsimp only;have r:c.Cells.take (k+1)=c.Cells.take k++[c.Cells[k]]:=Z0F e;have g:=ZIz (c.Cells.take k);have m:=ZIP (c.Cells.take k);rw[Z0C]at g;have h:ZHf (c.Cells.take (k+1))=f+(bif c.Cells[k].Null then 0 else 1):=by grind[ZHf]
  have b:ZNp (c.Cells.take (k+1))=n+(bif !c.Cells[k].Null&&isN c.Cells[k]then 1 else 0):=by grind[ZNp]
  rw[decide_eq_true (show (k:Int) < (c.Cells.length:Int) by omega),cond_true,ZoM e,Z0H];cases hnul:c.Cells[k].Null with
  |true=>
   rw[hnul]at h b;rw[cond_true,Zhr];exact⟨ZiH (by omega),a (f,n) ⟨by grind,by grind⟩⟩
  |false=>
   rw[hnul]at h b;rw[cond_false,Zhr];refine⟨ZiH (by omega), ?_⟩;rw[ZLy (o _ (Z0x e)),Z0H];cases hv:ZMB c.Cells[k]with
   |some q=>
    have d:isN c.Cells[k]=true:=by grind[isN]
    rw[d]at b;dsimp only;rw[cond_true,Zhr,Zhr];refine⟨ZiH (by omega),ZiH (by omega), ?_⟩;have:=a (f+1,n+1) ⟨by grind,by grind⟩;grind
   |none=>
    have d:isN c.Cells[k]=false:=by grind[isN]
    rw[d]at b;dsimp only;rw[cond_false,Zhr];refine⟨ZiH (by omega), ?_⟩;have:=a (f+1,n) ⟨by grind,by grind⟩;grind
 ·grind[ZwE,ZsM,Zfa]
 ·rintro x rfl;have g:=ZIz c.Cells;have m:=ZIP c.Cells;dsimp only;unfold ZxY ZxD
  by_cases h0:ZHf c.Cells=0
  ·rw[h0,show (((0:Nat):Int) == 0)=true from rfl,cond_true,ZEy,Z0H,Zfa,show ZNp c.Cells=0 by omega];rfl
  grind[ZJN,Zfa]
theorem ZS5:Zpa 4=some (fOf 4):=ZIw 4 (by decide) (by decide)
theorem ZNh {a b:G_api_Column} (h:ZIG a) (m:ZIG b) {v n:Rat} (c:Sz 10 v) (g:Sz 10 n):
  Zq6 false a b false false (fOf v) (fOf n) [] []=some (fOf ((v+v+n+(1 - ZNA (ZxD a.Cells - ZxD b.Cells))) / 4)):=by
 unfold Zq6;have q:=h.rows;have p:=m.rows;have d:Sz 10 (ZxD a.Cells):=ZGu (by omega) (by decide);have j:Sz 10 (ZxD b.Cells):=ZGu (by omega) (by decide);have k:Sz 21 (ZxD a.Cells - ZxD b.Cells):=d.sub j;have i:Sz 23 (ZNA (ZxD a.Cells - ZxD b.Cells)):=ZMD k (by decide);have f:=c.add c;have l:=f.add g;have e:Sz 32 (1 - ZNA (ZxD a.Cells - ZxD b.Cells)):=(ZJC.sub i).mono (by decide);have o:=l.add e;rw[cond_false,ZJJ h.cells (by omega),Z0H,ZJJ m.cells (by omega),Z0H,ZJo d j (by decide),Z0H,ZQ1 k (by decide),Z0H,ZID c c (by decide),Z0H,ZID f g (by decide),Z0H,ZO7,Z0H,ZJo ZJC i (by decide),Z0H,ZID l e (by decide),Z0H,ZS5,Z0H,ZNw (by decide) o ZMg (by decide),Z0H]
theorem ZON {a b:G_api_Column} (c:ZIG a) (d:ZIG b):Zzd a b=some (fOf (ZIU a b)):=by
 unfold Zzd ZIU ofQ;have f:=ZL9 c.rows d.rows;have e:=ZKV c.name d.name;rw[ZNN c.rows d.rows,Z0H,ZMn c.name d.name,Z0H,ZEy,Z0H,ZHq _ _ (f.wq (by decide)) (ZFN.wq (by decide)),Z0H]
 by_cases h1:ZCC (Zw3 a.Cells) (Zw3 b.Cells)=0
 ·rw[decide_eq_true h1,cond_true,Z0H,ZHq _ _ (e.wq (by decide)) (ZFN.wq (by decide)),Z0H];grind[Zq6,ZEy,ZNh]
 grind[ZNh]
end Go.Proofs
namespace Go.Proofs
open Go Eng
abbrev fkT:Ty:= .st 7
abbrev fvT:Ty:= .st 4
abbrev ZKf:=List (Ziw×ZbF)
abbrev lkF (m:ZKf) (x:Ziw):Option ZbF:=Zhx (q:=ZJs) (k:=fkT) (v:=fvT) (car:=Zz1) m x
abbrev stF (m:ZKf) (x:Ziw) (y:ZbF):ZKf:=setB (q:=ZJs) (k:=fkT) (v:=fvT) (car:=Zz1) m x y
theorem ZO4 (m:ZKf) (x y:Ziw) (v:ZbF):lkF (stF m x v) y=if y=x then some v else lkF m y:=by
 have p:∀a b:Ziw,Zl3 (car:=Zz1) ZJs fkT a b=decide (a=b):=by
  intro a b;obtain⟨k,n⟩:=a;obtain⟨g,j⟩:=b;show (k == g&&n == j)=_
  grind
 have c:∀m:ZKf,lkF m y=(m.find? fun e=>decide (y=e.1)).map (·.2):=fun m=>by show ((m.find? fun e=>Zl3 (car:=Zz1) ZJs fkT y e.1)).map (·.2)=_;simp_all
 rw[c,c];have f:stF m x v=if m.any (fun e=>decide (x=e.1))then m.map (fun e=>if x=e.1 then (e.1,v)else e)else m++[(x,v)]:=by show (if m.any (fun e=>Zl3 (car:=Zz1) ZJs fkT x e.1)then m.map (fun e=>if Zl3 (car:=Zz1) ZJs fkT x e.1 then (e.1,v)else e)else m++[(x,v)])=_;grind
 rw[f];split
 ·rename_i h
  induction m with
  |nil=>grind
  |cons e r d=>
   simp only[List.map_cons,List.find?_cons]
   by_cases h1:x=e.1
   ·simp only[if_pos h1]
    by_cases h2:y=e.1
    ·simp_all
    ·have l:¬y=x:=fun h=>h2 (h.trans h1)
     simp only[decide_eq_false h2,if_neg l];clear d h f c
     induction r with
     |nil=>rfl
     |cons o r d=>
      grind
   ·simp only[if_neg h1]
    by_cases h2:y=e.1
    ·grind
    ·simp only[decide_eq_false h2];have i:(r.any fun e=>decide (x=e.1))=true:=by simp_all
     exact d (by
      show (if r.any (fun e=>Zl3 (car:=Zz1) ZJs fkT x e.1)then r.map (fun e=>if Zl3 (car:=Zz1) ZJs fkT x e.1 then (e.1,v)else e)else r++[(x,v)])=_;simp_all) i
 grind
def ZJf (u k:Nat):Bool:=(u >>> k)&&& 1 == 1
def ZF8 (u k:Nat):Nat:=u|||(1 <<< k)
theorem ZK2:∀u:Fin 256,∀k:Fin 8,(andK .i64 (shrK .i64 (u.val:Int) (k.val:Int)) 1 == 1)=ZJf u.val k.val/\orK .i64 (u.val:Int) (shlK .i64 1 (k.val:Int))=(ZF8 u.val k.val:Nat)/\ZF8 u.val k.val < 256:=by decide+kernel
theorem ZTk {u k:Nat} (hu:u < 256) (hk:k < 8):(andK .i64 (shrK .i64 (u:Int) (k:Int)) 1 == 1)=ZJf u k:=(ZK2 ⟨u,hu⟩ ⟨k,hk⟩).1
theorem ZOH {u k:Nat} (a:u < 256) (b:k < 8):orK .i64 (u:Int) (shlK .i64 1 (k:Int))=(ZF8 u k:Nat):=(ZK2 ⟨u,a⟩ ⟨k,b⟩).2.1
theorem ZHp {u k:Nat} (a:u < 256) (b:k < 8):ZF8 u k < 256:=(ZK2 ⟨u,a⟩ ⟨k,b⟩).2.2
def ZEh (F:Nat->Rat) (u k:Nat) (x:Rat):Option Rat:=if ZJf u k then none else if x=0 then none else some (x+F (ZF8 u k))
def goW (F:Nat->Rat) (u:Nat):Nat->List Rat->Rat->Rat
 |_,[],b=>b
 |k,x::r,b=>goW F u (k+1) r (match ZEh F u k x with |some y=>if b < y then y else b |none=>b)
def ZpC:List (List Rat)->Nat->Rat
 | [],_=>0
 |r::rest,u=>goW (ZpC rest) u 0 r (ZpC rest u)
def ZHZ (w:List (List Rat)) (m:ZKf):Prop:=∀(i u:Nat) v,lkF m ⟨(i:Int),(u:Int)⟩=some v->v=fOf (ZpC (w.drop i) u)
theorem ZPc (w:List (List Rat)):ZHZ w []:=fun i u v h=>by cases h
theorem ZHZ.set {w:List (List Rat)} {m:ZKf} (h:ZHZ w m) (i u:Nat):ZHZ w (stF m ⟨(i:Int),(u:Int)⟩ (fOf (ZpC (w.drop i) u))):=by
 intro c b v a;rw[ZO4]at a;split at a
 ·grind
 ·exact h c b v a
def Zo8 (w:List (List Rat)):List (List ZbF):=w.map fun r=>r.map fOf
structure WOk (s:Nat) (w:List (List Rat)):Prop where
 rows:w.length<=8
 cols:∀r∈w,r.length<=8
 sz:∀r∈w,∀x∈r,Sz s x
 lim:s<=600
theorem ZRA {F:Nat->Rat} {s B u:Nat} (c:∀u,Sz B (F u)):∀(r:List Rat) (k:Nat) (b:Rat),(∀x∈r,Sz s x)->Sz (s+B+1) b->Sz (s+B+1) (goW F u k r b)
 | [],k,b,_,hb=>hb
 |x::r,k,b,hr,hb=>by
  refine ZRA c r (k+1) _ (fun y a=>hr y (by grind)) ?_;unfold ZEh;split
  ·rename_i y a;split
   ·split at a
    ·grind
    ·split at a
     ·grind
     ·cases a;exact(hr x (by simp)).add (c _)
   omega
  omega
theorem ZHT {s:Nat}:∀(w:List (List Rat)) (u:Nat),(∀r∈w,∀x∈r,Sz s x)->Sz ((s+1)*w.length+1) (ZpC w u)
 | [],u,_=>by grind[ZpC,ZFN]
 |r::rest,u,h=>by
  have a:=fun u=>ZHT rest u (fun r b=>h r (by grind))
  have:(s+1)*(r::rest).length+1=s+((s+1)*rest.length+1)+1:=by grind
  rw[this];exact ZRA a r 0 _ (h r (by simp)) ((a u).mono (by omega))
theorem ZEx {s:Nat} {w:List (List Rat)} (h:WOk s w) (i u:Nat):Sz 7000 (ZpC (w.drop i) u):=by
 refine(ZHT (w.drop i) u fun r b=>h.sz r (List.mem_of_mem_drop b)).mono ?_;have a:(w.drop i).length<=8:=by rw[List.length_drop];have:=h.rows;omega
 have c:=h.lim;have:(s+1)*(w.drop i).length<=601*8:=Nat.mul_le_mul (by omega) a;omega
end Go.Proofs
namespace Go.Proofs
open Go Eng
theorem ZKp {a:Rat}:(ZLf a 0 == 0)=decide (a=0):=by
 grind[ZLf]
theorem ZNU (a b:Rat):decide (ZLf a b > 0)=decide (b < a):=by
 grind[ZLf]
abbrev RF:=List (List ZbF)->Int->Int->ZKf->Option (ZbF×ZKf)
def ZYw (w:List (List Rat)) (rf:RF) (i:Nat):Prop:=∀(u:Nat) (m:ZKf),u < 256->ZHZ w m->∃m',rf (Zo8 w) (i:Int) (u:Int) m=some (fOf (ZpC (w.drop i) u),m')/\ZHZ w m'
theorem ZGG {w:List (List Rat)} {i:Nat} (h:i < w.length):idx (Zo8 w) (i:Int)=some (w[i].map fOf):=by grind[ZoM,Zo8]
theorem ZJI {r:List Rat} {k:Nat} (h:k < r.length):idx (r.map fOf) (k:Int)=some (fOf r[k]):=by grind[ZoM]
theorem ZOy {w:List (List Rat)} {s:Nat} (hw:WOk s w) {rf:RF} {i:Nat} (hi:i < w.length) (hrf:ZYw w rf (i+1)) {u k:Nat} (hu:u < 256) (hk:k < w[i].length) {m:ZKf} (hm:ZHZ w m):
 ∃x ok m',Zq8 rf (Zo8 w) (i:Int) (u:Int) (k:Int) m=some (x,ok,m')/\ZHZ w m'/\
  (ZEh (ZpC (w.drop (i+1))) u k w[i][k]=none/\ok=false\/∃y,ZEh (ZpC (w.drop (i+1))) u k w[i][k]=some y/\ok=true/\x=fOf y):=by
 have hr:=hw.cols _ (Z0x hi);have hk8:k < 8:=by omega
 have hi8:=hw.rows;have hsz:=hw.sz _ (Z0x hi) _ (Z0x hk);have hlim:=hw.lim;have hj1:∀b1 b2 l1 l2,Zqh rf (Zo8 w) (i:Int) (u:Int) (k:Int) true m b1 b2 l1 l2=some (fOf 0,false,m):=by grind[Zqh,ZIH]
 unfold Zq8;rw[show decide (0<=(k:Int))=true from decide_eq_true (by omega),ZTk hu hk8];show ∃x ok m',(bif ZJf u k then _ else _)=_/\_;cases hb:ZJf u k with
 |true=>
 refine⟨_,_,_,hj1 false false [] [],hm,.inl ⟨?_,rfl⟩⟩;grind[ZEh]
 |false=>
 simp only[cond_false];rw[ZGG hi,Z0H,ZJI hk,Z0H,ZJG (hsz.wq (by omega)),Z0H,ZKp]
 by_cases hz:w[i][k]=0
 ·rw[decide_eq_true hz];refine⟨_,_,_,hj1 false false [] [],hm,.inl ⟨?_,rfl⟩⟩;grind[ZEh]
 ·rw[decide_eq_false hz];obtain⟨m',hr1,hm'⟩:=hrf (ZF8 u k) m (ZHp hu hk8) hm;unfold Zqh;simp only[cond_false];have hin:inK .i64 ((i:Int)+1)=true:=ZiH (by omega);rw[ZGG hi,Z0H,ZJI hk,Z0H,hin,show decide (0<=(k:Int))=true from decide_eq_true (by omega),ZOH hu hk8];show ∃x ok m',((rf (Zo8 w) ((i:Int)+1) (ZF8 u k:Nat) m).bind _)=_/\_;rw[show ((i:Int)+1)=((i+1:Nat):Int) by omega,hr1,Z0H];dsimp only;rw[ZIu hsz (ZEx hw (i+1) (ZF8 u k)) (by omega),Z0H];grind[ZEh]
theorem ZQM {w:List (List Rat)} {s:Nat} (hw:WOk s w) {rf:RF} {i:Nat} (hi:i < w.length) (hrf:ZYw w rf (i+1)) {u:Nat} (hu:u < 256) (t6 t6_1:Bool) (key:Ziw) (l1 l2:List Int):
  ∀(d k n:Nat) (m:ZKf) (b:Rat),k+d=w[i].length->d < n->ZHZ w m->Sz (s+((s+1)*(w.drop (i+1)).length+1)+1) b->
   ∃m',ZoH rf n (Zo8 w) (i:Int) (u:Int) (w[i].length:Int) (k:Int) m t6 t6_1 key (fOf b) l1 l2=
    some (Zo8 w,m',t6,t6_1,key,fOf (goW (ZpC (w.drop (i+1))) u k (w[i].drop k) b),l1,l2)/\ZHZ w m':=by
 have hB:s+((s+1)*(w.drop (i+1)).length+1)+1<=8000:=by
  have h1:(w.drop (i+1)).length<=8:=by rw[List.length_drop];have:=hw.rows;omega
  have h2:=hw.lim;have:(s+1)*(w.drop (i+1)).length<=601*8:=Nat.mul_le_mul (by omega) h1;omega
 have h8:=hw.cols _ (List.getElem_mem hi);intro d
 induction d with
 |zero=>
  intro k n m b hk hn hm hb;obtain⟨n,rfl⟩:∃n',n=n'+1:=⟨n - 1,by omega⟩;refine⟨m, ?_,hm⟩;rw[ZoH,Zs0,show decide ((k:Int) < (w[i].length:Int))=false from decide_eq_false (by omega),cond_false,show w[i].drop k=[]from List.drop_eq_nil_of_le (by omega)];rfl
 |succ d ih=>
  intro k n m b hk hn hm hb;obtain⟨n,rfl⟩:∃n',n=n'+1:=⟨n - 1,by omega⟩;have hkl:k < w[i].length:=by omega
  rw[ZoH,Zs0,show decide ((k:Int) < (w[i].length:Int))=true from decide_eq_true (by omega),cond_true];obtain⟨x,ok,m1,h1,hm1,h2⟩:=ZOy hw hi hrf hu hkl hm;rw[h1,Option.bind_some];dsimp only;have hin:inK .i64 ((k:Int)+1)=true:=ZiH (by omega);have next:∀(b':Rat),Sz (s+((s+1)*(w.drop (i+1)).length+1)+1) b'->∃m',Zrt rf (ZoH rf n) (Zo8 w) (i:Int) (u:Int) (w[i].length:Int) (k:Int) m1 t6 t6_1 key (fOf b') l1 l2=
    some (Zo8 w,m',t6,t6_1,key,fOf (goW (ZpC (w.drop (i+1))) u (k+1) (w[i].drop (k+1)) b'),l1,l2)/\ZHZ w m':=by
   intro b' hb';unfold Zrt;rw[hin];show ∃m',ZoH rf n (Zo8 w) (i:Int) (u:Int) (w[i].length:Int) ((k:Int)+1) m1 t6 t6_1 key (fOf b') l1 l2=_/\_;rw[show ((k:Int)+1)=((k+1:Nat):Int) by omega];exact ih (k+1) n m1 b' (by omega) (by omega) hm1 hb'
  have hdrop:w[i].drop k=w[i][k]::w[i].drop (k+1):=List.drop_eq_getElem_cons hkl;rw[hdrop];rcases h2 with ⟨ht,rfl⟩ |⟨y,ht,rfl,rfl⟩
  ·grind[Zru,goW]
  ·simp only[cond_true];have hy:Sz (s+((s+1)*(w.drop (i+1)).length+1)+1) y:=by
    unfold ZEh at ht;split at ht
    ·cases ht
    ·split at ht
     ·cases ht
     ·cases ht;exact(hw.sz _ (List.getElem_mem hi) _ (List.getElem_mem hkl)).add (ZHT _ _ fun r hr=>hw.sz r (List.mem_of_mem_drop hr))
   rw[ZPp (hy.wq (by omega)) (hb.wq (by omega)),Option.bind_some,ZNU];grind[Zru,goW]
theorem ZMu {w:List (List Rat)} {s:Nat} (hw:WOk s w):∀(n i:Nat),i<=w.length->w.length - i < n->ZYw w (Zkb n) i:=by
 intro n
 induction n with
 |zero=>omega
 |succ n ih=>
 intro i hi hn u m hu hm;have h8:=hw.rows;have hlim:=hw.lim;rw[Zkb,Zza];have hl:(Zo8 w).length=w.length:=by simp[Zo8]
 by_cases he:i=w.length
 ·rw[show ((i:Int) == ((Zo8 w).length:Int))=true by simp_all,cond_true,ZIH,Z0H,show w.drop i=[]from Z0v (by omega)];exact⟨m,rfl,hm⟩
 ·have hlt:i < w.length:=by omega
  rw[show ((i:Int) == ((Zo8 w).length:Int))=false by grind,cond_false]
  change ∃m',(bif (lkF m ⟨(i:Int),(u:Int)⟩).isSome then some ((lkF m ⟨(i:Int),(u:Int)⟩).getD _,m)else _)=_/\_
  cases hlk:lkF m ⟨(i:Int),(u:Int)⟩with
  |some v=>
  rw[hm i u v hlk];simp_all
  |none=>
  have hrf:=ih (i+1) (by omega) (by omega);rw[show (none:Option ZbF).isSome=false from rfl,cond_false,ZiH (n:=(i:Int)+1) (by omega)];show ∃m',((Zkb n (Zo8 w) ((i:Int)+1) (u:Int) m).bind _)=_/\_;obtain⟨m1,h1,hm1⟩:=hrf u m hu hm;rw[show ((i:Int)+1)=((i+1:Nat):Int) by omega,h1,Z0H];dsimp only;rw[ZGG hlt,Z0H,Z0A];have hsz:=ZHT (s:=s) (w.drop (i+1)) u fun r hr=>hw.sz r (List.mem_of_mem_drop hr)
  obtain⟨m2,h2,hm2⟩:=ZQM hw hlt hrf hu false false ⟨(i:Int),(u:Int)⟩ [] [] w[i].length 0 big m1 (ZpC (w.drop (i+1)) u) (by omega) (by rw[big_eq];have:=hw.cols _ (Z0x hlt);omega) hm1 (hsz.mono (by omega));rw[show ((0:Int))=((0:Nat):Int)from rfl,h2,Z0H];dsimp only;unfold Zyr;have hd:ZpC (w.drop i) u=goW (ZpC (w.drop (i+1))) u 0 (w[i].drop 0) (ZpC (w.drop (i+1)) u):=by grind[Z0u,ZpC]
  rw[<-hd];exact⟨_,rfl,hm2.set i u⟩
end Go.Proofs
namespace Go.Proofs
open Go Eng
structure ZPH (s m:Nat) (w:List (List Rat)):Prop extends WOk s w where
 len:∀r∈w,r.length=m
 nn:∀r∈w,∀x∈r,0<=x
theorem ZNT (a b:Rat):decide (ZLf a b < 0)=decide (a < b):=by
 grind[ZLf]
theorem ZNV (a b:Rat):(ZLf a b == 0)=decide (a=b):=by
 grind[ZLf]
theorem ZHw (w:List (List Rat)):(Zo8 w).length=w.length:=by simp[Zo8]
theorem ZE1 {w:List (List Rat)} {k:Nat} (a:k < (Zo8 w).length):(Zo8 w)[k]=(w[k]'(by grind[ZHw])).map fOf:=by simp[Zo8]
theorem ZOB {w:List (List Rat)} {s m:Nat} (b:ZPH s m w):ZB0 (Zo8 w)=some 0:=by
 have o:=b.rows;have p:=ZHw w;have h:=b.lim;apply Zo1;unfold ZB0;rw[decide_eq_false (show ¬((Zo8 w).length:Int) > 8 by omega),cond_false,ZhS];refine Zjf (Zpy ZGF (Zo8 w) (by omega) (fun i (_:Unit)=>(Zo8 w,Zo8 w,((Zo8 w).length:Int),i)) (fun _ _=>True) (Q:=fun x=>x= .brk (Zo8 w)) () trivial ?_ ?_) ?_
 ·rintro c k _ a _ d;unfold ZAP ZxC;dsimp only;rw[decide_eq_true (show (k:Int) < ((Zo8 w).length:Int) by omega),cond_true,ZoM a,Option.bind_some,ZE1 a,List.length_map];have:=b.cols _ (List.getElem_mem (by omega:k < w.length));rw[decide_eq_false (by omega),cond_false,Zhr];exact⟨ZiH (by omega),d () trivial⟩
 ·grind[ZAP,ZxC,Zfa]
 rintro _ rfl;dsimp only;unfold ZCB;rw[ZhS];refine Zjf (Zpy ZGE (Zo8 w) (by omega) (fun i (_:Unit)=>(Zo8 w,Zo8 w,((Zo8 w).length:Int),i)) (fun _ _=>True) (Q:=fun x=>x= .brk (Zo8 w)) () trivial ?_ ?_) ?_
 ·rintro c k _ a _ d;unfold ZAO ZxB;dsimp only;have g:0 < (Zo8 w).length:=by omega
  rw[decide_eq_true (show (k:Int) < ((Zo8 w).length:Int) by omega),cond_true,ZoM a,Option.bind_some,show (0:Int)=((0:Nat):Int)from rfl,ZoM g,Option.bind_some,ZE1 a,ZE1 g,List.length_map,List.length_map,
   b.len _ (List.getElem_mem _),b.len _ (List.getElem_mem _),show (((m:Nat):Int) != (m:Int))=false by simp,cond_false,Zhr]
  exact⟨ZiH (by omega),d () trivial⟩
 ·grind[ZAO,ZxB,Zfa]
 rintro _ rfl;dsimp only;unfold ZCA;rw[ZhS];refine Zjf (Zpy ZGD (Zo8 w) (by omega) (fun i (_:Unit)=>(Zo8 w,((Zo8 w).length:Int),i)) (fun _ _=>True) (Q:=fun x=>x= .brk ()) () trivial ?_ ?_) ?_
 ·rintro c k _ a _ d;unfold ZAN ZxA;dsimp only;have e:k < w.length:=by omega
  rw[decide_eq_true (show (k:Int) < ((Zo8 w).length:Int) by omega),cond_true,ZoM a,Option.bind_some,ZE1 a,ZhS];have n:=b.cols _ (List.getElem_mem e);refine Zjf (Zpy ZGC (w[k].map fOf) (by grind) (fun i (_:Unit)=>(Zo8 w,((Zo8 w).length:Int),(k:Int),w[k].map fOf,((w[k].map fOf).length:Int),i)) (fun _ _=>True)
   (Q:=fun x=>x= .brk (Zo8 w,((Zo8 w).length:Int),(k:Int))) () trivial ?_ ?_) ?_
  ·rintro c j _ l _ d;unfold ZAM Zxz;dsimp only;have f:j < w[k].length:=by simp_all
   rw[decide_eq_true (show (j:Int) < ((w[k].map fOf).length:Int) by omega),cond_true,ZoM l,Option.bind_some,List.getElem_map,ZJG ((b.sz _ (List.getElem_mem e) _ (List.getElem_mem f)).wq (by omega)),Option.bind_some,ZNT,
    decide_eq_false (by have:=b.nn _ (List.getElem_mem e) _ (List.getElem_mem f);grind),cond_false,Zhr]
   exact⟨ZiH (by omega),d () trivial⟩
  ·grind[ZAM,Zxz,Zfa]
  rintro _ rfl;dsimp only;unfold ZCz;rw[Zhr];exact⟨ZiH (by omega),d () trivial⟩
 all_goals grind[ZAN,ZxA,Zfa,ZCy]
def ZF6 (F:Nat->Rat) (u:Nat) (b:Rat):Nat->List Rat->Option Nat
 |_,[]=>none
 |k,x::r=>if ZEh F u k x=some b then some k else ZF6 F u b (k+1) r
def ZHW:List (List Rat)->Nat->List Int
 | [],_=>[]
 |r::rest,u=>match ZF6 (ZpC rest) u (ZpC (r::rest) u) 0 r with
  |some k=>(k:Int)::ZHW rest (ZF8 u k)
  |none=>(-1)::ZHW rest u
def ZIv (F:Nat->Rat) (u:Nat) (b:Rat) (r:List Rat):Nat:=match ZF6 F u b 0 r with
 |some k=>ZF8 u k
 |none=>u
def ZLs (F:Nat->Rat) (u:Nat) (b:Rat) (r:List Rat):Int:=match ZF6 F u b 0 r with
 |some k=>(k:Int)
 |none=> -1
theorem ZIV (r:List Rat) (a:List (List Rat)) (u:Nat):ZHW (r::a) u=ZLs (ZpC a) u (ZpC (r::a) u) r::ZHW a (ZIv (ZpC a) u (ZpC (r::a) u) r):=by grind[ZHW,ZLs,ZIv]
theorem ZJu {F:Nat->Rat} {u:Nat} {b:Rat}:∀(r:List Rat) (k j:Nat),ZF6 F u b k r=some j->k<=j/\j < k+r.length/\∃x,r[j - k]? =some x/\ZEh F u j x=some b
 | [],k,j,h=>by cases h
 |x::r,k,j,h=>by
  rw[ZF6]at h;split at h
  ·simp_all
  ·obtain⟨a,e,y,c,d⟩:=ZJu r (k+1) j h;grind
theorem ZPw {w:List (List Rat)} {s:Nat} (hw:WOk s w) {i:Nat} (hi:i < w.length) {u:Nat} (hu:u < 256) (t26:List (List ZbF)) (t27:Int) (t3 t3_1:Bool) (out:List Int) (l1 l2:List Int) {b:Rat} (hb:Sz 7000 b):
  ∀(d k n:Nat) (m:ZKf),k+d=w[i].length->d < n->ZHZ w m->
   ∃m',Zp1 n (Zo8 w) (u:Int) (i:Int) (-1) t26 t27 (i:Int) (w[i].length:Int) (k:Int) t3 t3_1 m out (fOf b) l1 l2=
    some (Zo8 w,(match ZF6 (ZpC (w.drop (i+1))) u b k (w[i].drop k)with |some j=>((ZF8 u j:Nat):Int) |none=>(u:Int)),(match ZF6 (ZpC (w.drop (i+1))) u b k (w[i].drop k)with |some j=>(j:Int) |none=> -1),t26,t27,(i:Int),t3,t3_1,m',out,l1,l2)/\ZHZ w m':=by
 have h8:=hw.cols _ (Z0x hi);have hr8:=hw.rows;have hlim:=hw.lim;have hrf:ZYw w (Zkb big) (i+1):=ZMu hw big (i+1) (by omega) (by rw[big_eq];omega);intro d
 induction d with
 |zero=>
  intro k n m hk hn hm;obtain⟨n,rfl⟩:∃n',n=n'+1:=⟨n - 1,by omega⟩;refine⟨m, ?_,hm⟩;rw[Zp1,ZBA,show decide ((k:Int) < (w[i].length:Int))=false from decide_eq_false (by omega),cond_false,show w[i].drop k=[]from Z0v (by omega)];rfl
 |succ d ih=>
  intro k n m hk hn hm;obtain⟨n,rfl⟩:∃n',n=n'+1:=⟨n - 1,by omega⟩;have hkl:k < w[i].length:=by omega
  rw[Zp1,ZBA,show decide ((k:Int) < (w[i].length:Int))=true from decide_eq_true (by omega),cond_true];obtain⟨x,ok,m1,h1,hm1,h2⟩:=ZOy hw hi hrf hu hkl hm;rw[h1,Z0H];dsimp only;have hin:inK .i64 ((k:Int)+1)=true:=ZiH (by omega);have hdrop:w[i].drop k=w[i][k]::w[i].drop (k+1):=Z0u hkl;have next:∃m',Zur (Zp1 n) (Zo8 w) (u:Int) (i:Int) (-1) (k:Int) t26 t27 (i:Int) (w[i].length:Int) (k:Int) false t3 t3_1 m1 out (fOf b) l1 l2=
    some (Zo8 w,(match ZF6 (ZpC (w.drop (i+1))) u b (k+1) (w[i].drop (k+1))with |some j=>((ZF8 u j:Nat):Int) |none=>(u:Int)),(match ZF6 (ZpC (w.drop (i+1))) u b (k+1) (w[i].drop (k+1))with |some j=>(j:Int) |none=> -1),t26,t27,(i:Int),t3,t3_1,m',out,l1,l2)/\ZHZ w m':=by
   unfold Zur;rw[cond_false,hin];show ∃m',Zp1 n (Zo8 w) (u:Int) (i:Int) (-1) t26 t27 (i:Int) (w[i].length:Int) ((k:Int)+1) t3 t3_1 m1 out (fOf b) l1 l2=_/\_;rw[show ((k:Int)+1)=((k+1:Nat):Int) by omega];exact ih (k+1) n m1 (by omega) (by omega) hm1
  rw[hdrop,ZF6];rcases h2 with ⟨ht,rfl⟩ |⟨y,ht,rfl,rfl⟩
  ·simp only[cond_false,ht,reduceCtorEq,if_false];exact next
  ·simp only[cond_true];have hy:Sz 7700 y:=by
    unfold ZEh at ht;split at ht
    ·cases ht
    ·split at ht
     ·cases ht
     ·cases ht;exact((hw.sz _ (Z0x hi) _ (Z0x hkl)).add (ZEx hw (i+1) (ZF8 u k))).mono (by omega)
   rw[ZPp (hy.wq (by omega)) (hb.wq (by omega)),Z0H,ZNV,ht]
   by_cases hby:y=b
   ·rw[decide_eq_true hby,if_pos (by rw[hby])];unfold Zur;rw[cond_true,show decide (0<=(k:Int))=true from decide_eq_true (by omega),ZOH hu (by omega)];exact⟨m1,rfl,hm1⟩
   ·rw[decide_eq_false hby,if_neg (by simpa using hby)];exact next
theorem ZPv {w:List (List Rat)} {s:Nat} (hw:WOk s w) (t3 t3_1:Bool) (l1 l2:List Int):
 ∀(d i n u:Nat) (m:ZKf) (out:List Int),i+d=w.length->d < n->u < 256->ZHZ w m->out.length=i->
  ∃m',ZqK n (Zo8 w) (u:Int) (Zo8 w) (w.length:Int) (i:Int) t3 t3_1 m out l1 l2=some (Zo8 w,t3,t3_1,m',out++ZHW (w.drop i) u,l1,l2)/\ZHZ w m':=by
 have hr8:=hw.rows;intro d
 induction d with
 |zero=>
 intro i n u m out hi hn hu hm ho;obtain⟨n,rfl⟩:∃n',n=n'+1:=⟨n - 1,by omega⟩;grind[ZqK,ZBB,ZHW]
 |succ d ih=>
 intro i n u m out hi hn hu hm ho;obtain⟨n,rfl⟩:∃n',n=n'+1:=⟨n - 1,by omega⟩;have hil:i < w.length:=by omega
 have h8:=hw.cols _ (Z0x hil);rw[ZqK,ZBB,show decide ((i:Int) < (w.length:Int))=true from decide_eq_true (by omega),cond_true,ZGG hil,Z0H];obtain⟨m1,h1,hm1⟩:=ZMu hw big i (by omega) (by grind[big_eq]) u m hu hm;rw[h1,Z0H];dsimp only;obtain⟨m2,h2,hm2⟩:=ZPw hw hil hu (Zo8 w) (w.length:Int) t3 t3_1 out l1 l2 (ZEx hw i u) w[i].length 0 big m1 (by omega) (by grind[big_eq]) hm1;rw[Z0A,show (0:Int)=((0:Nat):Int)from rfl,h2,Z0H,List.drop_zero];dsimp only;have hd:w.drop i=w[i]::w.drop (i+1):=Z0u hil;rw[hd,ZIV,<-hd];have e1:(match ZF6 (ZpC (w.drop (i+1))) u (ZpC (w.drop i) u) 0 w[i]with |some j=>((ZF8 u j:Nat):Int) |none=>(u:Int))=((ZIv (ZpC (w.drop (i+1))) u (ZpC (w.drop i) u) w[i]:Nat):Int):=by grind[ZIv]
 have e2:(match ZF6 (ZpC (w.drop (i+1))) u (ZpC (w.drop i) u) 0 w[i]with |some j=>(j:Int) |none=> -1)=ZLs (ZpC (w.drop (i+1))) u (ZpC (w.drop i) u) w[i]:=rfl;have hu2:ZIv (ZpC (w.drop (i+1))) u (ZpC (w.drop i) u) w[i] < 256:=by
  unfold ZIv;split
  ·rename_i j hj;have:=(ZJu _ _ _ hj).2.1;grind[ZHp]
  omega
 rw[e1,e2];unfold ZC4;rw[ZpN (by grind),ZiH (n:=(i:Int)+1) (by omega)];show ∃m',ZqK n (Zo8 w) _ (Zo8 w) (w.length:Int) ((i:Int)+1) t3 t3_1 m2 _ l1 l2=_/\_;rw[show ((i:Int)+1)=((i+1:Nat):Int) by omega];obtain⟨m',q1,q2⟩:=ih (i+1) n _ m2 (out++[ZLs (ZpC (w.drop (i+1))) u (ZpC (w.drop i) u) w[i]]) (by omega) (by omega) hu2 hm2 (by grind);grind
theorem ZSI {q:Rat} (h:Sz 8000 q):ZIl (fOf q)=some (fOf q):=by
 have b:=h.wq (by omega);unfold ZIl;have a:(fOf q).Num.Words.length<=256:=by grind[fOf,bg,iL]
 have c:(fOf q).Den.Words.length<=256:=by grind[fOf,bg,iL]
 rw[ZpN (by omega),ZpN (by omega)];rfl
theorem ZTp {w:List (List Rat)} {s m:Nat} (hw:ZPH s m w):ZCO (Zo8 w)=some (ZHW w 0,fOf (ZpC w 0),0):=by have hr8:=hw.rows;unfold ZCO;rw[ZOB hw,Z0H,show ((0:Int) != 0)=false from rfl,cond_false];obtain⟨m1,h1,hm1⟩:=ZPv hw.toWOk false false [] [] w.length 0 big 0 [] [] (by omega) (by grind[big_eq]) (by omega) (ZPc w) rfl;rw[ZHw];rw[show (0:Int)=((0:Nat):Int)from rfl,h1,Z0H];dsimp only;unfold ZC3;obtain⟨m2,h2,hm2⟩:=ZMu hw.toWOk big 0 (by omega) (by grind[big_eq]) 0 m1 (by omega) hm1;rw[show (0:Int)=((0:Nat):Int)from rfl,h2,Z0H];dsimp only;rw[ZSI ((ZEx hw.toWOk 0 0).mono (by omega)),Z0H];simp
end Go.Proofs
namespace Go.Proofs
open Go Eng
theorem ZQX:∀u:Fin 256,∀k:Fin 8,ZJf (ZF8 u.val k.val) k.val=true/\∀j:Fin 8,ZJf u.val j.val=true->ZJf (ZF8 u.val k.val) j.val=true:=by decide+kernel
theorem ZQY {u k j:Nat} (b:u < 256) (c:k < 8) (a:j < 8) (h:ZJf u j=true):ZJf (ZF8 u k) j=true:=(ZQX ⟨u,b⟩ ⟨k,c⟩).2 ⟨j,a⟩ h
theorem ZLr {F:Nat->Rat} {u k:Nat} {x y:Rat} (h:ZEh F u k x=some y):ZJf u k=false/\x≠0/\y=x+F (ZF8 u k):=by
 unfold ZEh at h;split at h
 ·cases h
 ·rename_i a;split at h
  ·cases h
  ·rename_i b;cases h;exact⟨by simpa using a,b,rfl⟩
theorem ZLU:∀(w:List (List Rat)) (u:Nat),(ZHW w u).length=w.length
 | [],u=>rfl
 |r::rest,u=>by rw[ZIV,List.length_cons,ZLU rest,List.length_cons]
end Go.Proofs
namespace Go.Proofs
open Go Eng
structure ZLi (t:G_api_Table):Prop where
 ok:ZuN t=true
 cols:t.Columns.length<=8
 col:∀c∈t.Columns,ZIG c
noncomputable def ZOu (b:G_api_Table) (x:G_api_Column):List Rat:=b.Columns.map fun y=>ZIU x y
noncomputable def ZNr (a b:G_api_Table):List (List Rat):=a.Columns.map fun x=>ZOu b x
theorem ZMs {a b:G_api_Table} (h:ZLi a) (i:ZLi b):ZPH 100 b.Columns.length (ZNr a b):=by
 have f:∀r∈ZNr a b,∃x∈a.Columns,r=ZOu b x:=fun r c=>by obtain⟨x,e,rfl⟩:=List.mem_map.1 c;grind
 have j:∀r∈ZNr a b,∀q∈r,∃x∈a.Columns,∃y∈b.Columns,q=ZIU x y:=fun r c q d=>by obtain⟨x,e,rfl⟩:=f r c;obtain⟨y,g,rfl⟩:=List.mem_map.1 d;grind
 refine⟨⟨by rw[ZNr,Z0A];exact h.cols,fun r c=> ?_,fun r c q d=> ?_,by omega⟩,fun r c=> ?_,fun r c q d=> ?_⟩
 ·obtain⟨x,_,rfl⟩:=f r c;rw[ZOu,Z0A];exact i.cols
 ·obtain⟨x,e,y,g,rfl⟩:=j r c q d;exact ZTg (h.col x e) (i.col y g)
 all_goals grind[ZOu,ZMA]
def ZIK (a b:G_api_Table):Int:=if (1:Int) > (if (b.Columns.length:Int) > (a.Columns.length:Int)then (b.Columns.length:Int)else (a.Columns.length:Int))then (1:Int)else (if (b.Columns.length:Int) > (a.Columns.length:Int)then (b.Columns.length:Int)else (a.Columns.length:Int))
noncomputable def ZKn (a b:G_api_Table):Rat:=ZpC (ZNr a b) 0 / (ZIK a b:Rat)
theorem ZHo {a b:G_api_Table} (c:a.Columns.length<=8) (d:b.Columns.length<=8):1<=ZIK a b/\ZIK a b<=8/\(a.Columns.length:Int)<=ZIK a b:=by grind[ZIK]
theorem ZMf {n:Int} (h:1<=n/\n<=8):Sz 4 (n:Rat):=by
 unfold Sz;have a:(n:Rat).num=n:=by simp
 have b:(n:Rat).den=1:=by simp
 omega
theorem ZJx {a b:G_api_Table} (c:ZLi a) (d:ZLi b):Sz 7000 (ZpC (ZNr a b) 0):=by
 have:=ZEx (ZMs c d).toWOk 0 0
 simp_all
theorem ZQs {a b:G_api_Table} (d:ZLi a) (f:ZLi b):Sz 7004 (ZKn a b):=by
 have h:=ZHo d.cols f.cols;have c:((ZIK a b:Int):Rat)≠0:=by
  have:((ZIK a b:Int):Rat)≠((0:Int):Rat):=fun e=>by simp_all
  omega
 exact(Sz.div c (ZJx d f) (ZMf ⟨h.1,h.2.1⟩)).mono (by omega)
theorem ZUN (w:List (List Rat)) (r:List Rat):Zo8 (w++[r])=Zo8 w++[r.map fOf]:=by simp[Zo8]
theorem ZNz {a b:G_api_Table} (f:ZLi a) (g:ZLi b):Zo3 a b=some (ZHW (ZNr a b) 0,fOf (ZKn a b),0):=by
 have t:=f.cols;have u:=g.cols;have m:Zue a=some true:=by rw[ZJn a (by omega) (fun c l=>by have:=(f.col c l).rows;omega),f.ok]
 have o:Zue b=some true:=by rw[ZJn b (by omega) (fun c l=>by have:=(g.col c l).rows;omega),g.ok]
 apply Zo1;unfold Zo3;rw[m,Option.bind_some,Bool.not_true,cond_false,o,Option.bind_some,Bool.not_true];unfold Zsc;rw[cond_false,decide_eq_false (by omega),cond_false,decide_eq_false (by omega)];unfold Zyw;rw[cond_false,ZhS];refine Zjf (Zpy ZGn a.Columns (by omega) (fun i (w:List (List ZbF))=>(a.Columns,(a.Columns.length:Int),i,a,b,false,false,w,([]:List Int),([]:List Int))) (fun k w=>w=Zo8 ((a.Columns.take k).map fun x=>ZOu b x))
  (Q:=fun x=>x=(a,b,false,false,Zo8 (ZNr a b),([]:List Int),([]:List Int))) [] rfl ?_ ?_) ?_
 ·rintro d k w q rfl p;unfold ZAa Zwc;dsimp only;rw[decide_eq_true (show (k:Int) < (a.Columns.length:Int) by omega),cond_true,ZoM q,Option.bind_some,ZhS];have v:=f.col _ (List.getElem_mem q);refine Zjf (Zpy ZGm b.Columns (by omega) (fun j (r:List ZbF)=>(a.Columns,(a.Columns.length:Int),(k:Int),b.Columns,(b.Columns.length:Int),j,a,b,false,false,Zo8 ((a.Columns.take k).map fun x=>ZOu b x),a.Columns[k],r,([]:List Int),([]:List Int)))
   (fun j r=>r=((b.Columns.take j).map fun y=>ZIU a.Columns[k] y).map fOf)
   (Q:=fun x=>x=(a.Columns,(a.Columns.length:Int),(k:Int),a,b,false,false,Zo8 ((a.Columns.take k).map fun x=>ZOu b x),(ZOu b a.Columns[k]).map fOf,([]:List Int),([]:List Int))) [] rfl ?_ ?_) ?_
  ·rintro d j r n rfl p;unfold Zz9 Zwb;dsimp only;rw[decide_eq_true (show (j:Int) < (b.Columns.length:Int) by omega),cond_true,ZoM n,Option.bind_some,ZWe v (g.col _ (List.getElem_mem n)),Option.bind_some,Zhr,Zhr];refine⟨ZpN (by simp;omega),ZiH (by omega),p _ ?_⟩;rw[List.take_succ_eq_append_getElem n,List.map_append,List.map_append];rfl
  ·rintro d r rfl;unfold Zz9 Zwb;dsimp only;rw[decide_eq_false (show ¬(b.Columns.length:Int) < (b.Columns.length:Int) by omega),cond_false,Zfa,List.take_length];rfl
  rintro _ rfl;grind[ZBp,Zhr,ZpN,Zo8,ZiH,List.take_succ_eq_append_getElem]
 ·rintro d w rfl;unfold ZAa Zwc;dsimp only;rw[decide_eq_false (show ¬(a.Columns.length:Int) < (a.Columns.length:Int) by omega),cond_false,Zfa,List.take_length];rfl
 rintro _ rfl;dsimp only;unfold ZBo;have s:=ZHo f.cols g.cols;have h:((ZIK a b:Int):Rat)≠0:=by
  have:((ZIK a b:Int):Rat)≠((0:Int):Rat):=fun e=>by have:=Rat.intCast_inj.1 e;omega
  simpa using this
 rw[ZTp (ZMs f g),Option.bind_some]
 change wp (bif ((0:Int) != 0)then _ else ((ZDQ (ZIK a b) 1).bind _)) _
 rw[show ((0:Int) != 0)=false from rfl,cond_false,ZIs _ _ (by decide) (by omega) (by omega) (by decide) (by decide),Option.bind_some,ZKv,
  ZLG h (ZJx f g) (ZMf ⟨s.1,s.2.1⟩) (by omega),Option.bind_some,Zfa]
 rfl
end Go.Proofs
namespace Go.Proofs
open Go Eng
def ZMr:G_api_Cell:=⟨true,[]⟩
def ZCG (b:G_api_Table) (k:Int):List G_api_Cell:=if 0<=k then (match b.Columns[k.toNat]? with |some c=>c.Cells |none=>[])else List.replicate (Zr9 b).toNat ZMr
def ZCT (b:G_api_Table) (c:G_api_Column) (k:Int):G_api_Column:=⟨c.Name,c.Cells++ZCG b k⟩
def ZJE (a b:G_api_Table) (l:List Int):G_api_Table:=⟨a.ID,a.Name,Z0G (ZCT b) a.Columns l⟩
theorem ZNM:∀n:Fin 11,Zpp [ZMr] (n.val:Int)=some (List.replicate n.val ZMr):=by decide+kernel
theorem ZLw {n:Int} (h:0<=n/\n<=10):Zpp [ZMr] n=some (List.replicate n.toNat ZMr):=by have:=ZNM ⟨n.toNat,by omega⟩;grind
theorem ZLR {l:List G_api_Cell} (h:l.length<=10000):Zra l=some l:=by
 have e:Zpc l false=some l:=by unfold Zpc;rw[cond_false,ZpN (by grind)];rfl
 unfold Zra;cases l with
 |nil=>rw[e];exact ZIW _
 |cons x r=>grind
theorem ZLQ {l:List G_api_Column} (h:l.length<=1000):Zqj l=some l:=by
 have e:ZoV l false=some l:=by unfold ZoV;rw[cond_false,ZpN (by grind)];rfl
 unfold Zqj;cases l with
 |nil=>rw[e];exact ZIW _
 |cons x r=>grind
theorem ZVz {a:G_api_Table} (c:ZLi a):ZDo a=some (a,a.Columns.length):=by
 have f:=c.cols;apply Zo1;unfold ZDo;rw[ZLQ (by omega),Option.bind_some,ZhS];refine Zjf (Zpy ZGy a.Columns (by omega) (fun i (s:List G_api_Column×Nat)=>((a.Columns.length:Int),i,a.ID,a.Name,(0:Int),([]:Str),s.1,s.2,([]:List G_api_Column))) (fun k s=>s=(a.Columns,k))
  (Q:=fun x=>x=(a.ID,a.Name,(0:Int),([]:Str),a.Columns,a.Columns.length,([]:List G_api_Column))) (a.Columns,0) rfl ?_ ?_) ?_
 ·rintro d k _ b rfl h;unfold ZBf Zzb;dsimp only;have g:=c.col _ (List.getElem_mem b);rw[decide_eq_true (show (k:Int) < (a.Columns.length:Int) by omega),cond_true,Zhr];refine⟨ZFh b, ?_⟩;rw[Int.toNat_natCast,List.getElem?_eq_getElem b,Option.bind_some,Zhr];refine⟨decide_eq_true (Nat.le_refl _), ?_⟩;rw[ZLR (by have:=g.rows;omega),Option.bind_some,Zhr,Zhr];refine⟨ZFh b,decide_eq_true rfl, ?_⟩;rw[Option.bind_some,Zhr];refine⟨ZiH (by omega), ?_⟩;have e:a.Columns.set k ⟨a.Columns[k].Name,a.Columns[k].Cells⟩=a.Columns:=by show a.Columns.set k a.Columns[k]=a.Columns;simp_all
  simp_all
 all_goals simp_all[ZBf,Zzb,Zfa,ZEu]
theorem ZJZ (l:List Int) (v:Int) (h:l.length<=1000000):ZvT l v=some (decide (v∈l)):=by
 have a:wp (Zsx big l v (l.length:Int) 0) (fun x=>(x= .brk ()/\v∉l)\/∃j:Nat,x= .ret (j:Int)/\v∈l):=by
  refine Zpy ZFG l (by omega) (fun i (_:Unit)=>(l,v,(l.length:Int),i)) (fun k _=>v∉l.take k) () (by simp) ?_ ?_
  ·rintro b k _ d e c;unfold Zyh Zuf;dsimp only;rw[decide_eq_true (show (k:Int) < (l.length:Int) by omega),cond_true,ZoM d,Option.bind_some]
   by_cases hv:v=l[k]
   ·grind[Zfa]
   ·rw[show (v == l[k])=false by simp_all,cond_false,Zhr];refine⟨ZiH (by omega),c () ?_⟩;grind[List.take_succ_eq_append_getElem]
  grind[Zyh,Zuf,Zfa]
 obtain⟨x,f,g⟩:=a;grind[ZvT,ZBx,ZzS,decide_eq_false]
theorem ZKj {a:G_api_Table} (b:ZLi a):Zue a=some true:=by have d:=b.cols;rw[ZJn a (by omega) (fun c e=>by have:=(b.col c e).rows;omega),b.ok]
theorem ZLt {b:G_api_Table}:∀(a:List G_api_Column) (l:List Int) (k:Nat) (c:k < a.length),(Z0G (ZCT b) (a.take k) (l.take k)).length=k->(Z0G (ZCT b) (a.take k) (l.take k)++a.drop k)[k]? =some a[k]:=by grind
structure AlOk (a b:G_api_Table) (l:List Int):Prop where
 len:l.length=a.Columns.length
 rng:∀k∈l, -1<=k/\k < (b.Columns.length:Int)
 dif:List.Pairwise (fun x y=>0<=y->x≠y) l
theorem ZQo {a b:G_api_Table} {l:List Int} (w:ZLi a) (F:ZLi b) (O:0<=Zr9 a/\Zr9 a<=100) (z:0<=Zr9 b/\Zr9 b<=10) (v:AlOk a b l):Zqp a b l=some (ZJE a b l,0):=by
 have P:=w.cols;have M:=F.cols;have I:=v.len;apply Zo1;unfold Zqp;rw[ZKj w,Option.bind_some,Bool.not_true,cond_false,ZKj F,Option.bind_some,Bool.not_true,cond_false,show (((l.length:Nat):Int) != (a.Columns.length:Int))=false by simp_all];unfold ZpW;rw[cond_false,ZhS];refine Zjf (Zpy ZDb l (by omega) (fun i (_:Unit)=>(l,l,(l.length:Int),i,a,b,(0:Int),([]:Str),([]:List G_api_Column))) (fun _ _=>True) (Q:=fun x=>x= .brk (l,a,b,(0:Int),([]:Str),([]:List G_api_Column))) () trivial ?_ ?_) ?_
 ·rintro m k _ e _ y;unfold Zs5 Zq5 ZuR;dsimp only;have h:=v.rng _ (List.getElem_mem e);rw[decide_eq_true (show (k:Int) < (l.length:Int) by omega),cond_true,ZoM e,Option.bind_some,decide_eq_false (show ¬l[k] < -1 by omega),cond_false,decide_eq_false (show ¬l[k]>=(b.Columns.length:Int) by omega),cond_false,Zhr];exact⟨ZiH (by omega),y () trivial⟩
 ·grind[Zs5,Zq5,Zfa]
 rintro _ rfl;dsimp only;unfold Zyu;rw[ZhS];refine Zjf (Zpy ZDa l (by omega) (fun i (_:Unit)=>(l,l,(l.length:Int),i,a,b,(0:Int),([]:Str),([]:List G_api_Column))) (fun _ _=>True) (Q:=fun x=>x= .brk (l,a,b,(0:Int),([]:Str),([]:List G_api_Column))) () trivial ?_ ?_) ?_
 ·rintro m k _ e _ y;unfold Zs4 Zq4 ZuQ;dsimp only;rw[decide_eq_true (show (k:Int) < (l.length:Int) by omega),cond_true,ZoM e,Option.bind_some];have K:inK .i64 ((k:Int)+1)=true:=ZiH (by omega)
  by_cases h0:0<=l[k]
  ·have t:l[k]∉l.take k:=by
    intro R;obtain⟨j,S,H⟩:=List.mem_iff_getElem.1 R;have C:j < k:=by grind
    rw[List.getElem_take]at H;exact List.pairwise_iff_getElem.1 v.dif j k (by omega) e C h0 H
   rw[decide_eq_true (show l[k]>=0 from h0),cond_true,Zhr];refine⟨Zpj ⟨by omega,by omega,by omega⟩, ?_⟩;rw[Int.toNat_natCast,ZJZ _ _ (by grind),Option.bind_some,decide_eq_false t,cond_false,Zhr];simp_all
  simp_all[decide_eq_false]
 ·grind[Zs4,Zq4,Zfa]
 rintro _ rfl;dsimp only;unfold ZuP;rw[ZF7,Option.bind_some,ZF7,Option.bind_some,Zhr];refine⟨ZiH (by omega), ?_⟩;rw[decide_eq_false (by omega),cond_false,ZVz w,Option.bind_some];dsimp only;rw[ZhS];have o:∀k,k<=a.Columns.length->(List.zipWith (ZCT b) (a.Columns.take k) (l.take k)).length=k:=fun k e=>by simp_all
 refine Zjf (Zpy ZC9 l (by omega) (fun i (E:List G_api_Column)=>(l,(l.length:Int),i,b,(0:Int),([]:Str),a.ID,a.Name,([]:List G_api_Column),E,a.Columns.length)) (fun k E=>E=List.zipWith (ZCT b) (a.Columns.take k) (l.take k)++a.Columns.drop k)
  (Q:=fun x=>x=((0:Int),([]:Str),a.ID,a.Name,([]:List G_api_Column),List.zipWith (ZCT b) a.Columns l,a.Columns.length)) a.Columns (by simp) ?_ ?_) ?_
 ·rintro m k _ e rfl y;unfold Zs3 Zq3;dsimp only;have d:k < a.Columns.length:=by omega
  have h:=v.rng _ (List.getElem_mem e);have G:(List.zipWith (ZCT b) (a.Columns.take k) (l.take k)++a.Columns.drop k).length=a.Columns.length:=by grind
  rw[decide_eq_true (show (k:Int) < (l.length:Int) by omega),cond_true,ZoM e,Option.bind_some,ZF7,Option.bind_some]
  change wp ((Zpp [ZMr] (Zr9 b)).bind _) _
  rw[ZLw z,Option.bind_some];have N:=w.col _ (List.getElem_mem d);have q:∀c,c=ZCG b l[k]->c.length<=1000->wp (ZqL (fun A B i b L u D g r n f=>m (A,B,i,b,L,u,D,g,r,n,f)) (k:Int) c l (l.length:Int) (k:Int) b 0 [] a.ID a.Name [] (List.zipWith (ZCT b) (a.Columns.take k) (l.take k)++a.Columns.drop k) a.Columns.length) (fun x=>x=((0:Int),([]:Str),a.ID,a.Name,([]:List G_api_Column),List.zipWith (ZCT b) a.Columns l,a.Columns.length)):=by
   rintro c s J;unfold ZqL;rw[Zhr];refine⟨Zs1 ⟨by omega,by omega⟩, ?_⟩;rw[Int.toNat_natCast,ZLt _ _ _ d (o k (by omega)),Option.bind_some,Zhr,Zhr,Zhr,Zhr];refine⟨decide_eq_true d,ZpN (by have:=N.rows;omega),Zs1 ⟨by omega,by omega⟩,decide_eq_true ⟨rfl,d⟩, ?_⟩;rw[Option.bind_some,Zhr];refine⟨ZiH (by omega),y _ ?_⟩;rw[List.set_append_right _ _ (by grind),o k (by omega),Nat.sub_self,List.drop_eq_getElem_cons d,List.set_cons_zero,List.take_succ_eq_append_getElem d,List.take_succ_eq_append_getElem e,
    List.zipWith_append (by simp_all)]
   simp[ZCT,s]
  by_cases h0:0<=l[k]
  ·have p:(l[k]).toNat < b.Columns.length:=by omega
   rw[decide_eq_true (show l[k]>=0 from h0),cond_true,Zin h0 p,Option.bind_some];refine q _ ?_ (by have:=(F.col _ (List.getElem_mem p)).rows;omega)
   grind[ZCG]
  grind[ZCG]
 ·grind[Zs3,Zq3,Zfa]
 rintro _ rfl;dsimp only;unfold Zyt;exact Zfa.2 rfl
end Go.Proofs
namespace Go.Proofs
open Go Eng
def auX:G_api_Column:=⟨[99,105,116,121],[⟨false,[120]⟩]⟩
def auY:G_api_Column:=⟨[110,97,109,101],[⟨false,[121]⟩]⟩
def auA:G_api_Table:=⟨1,[],[auX,auY]⟩
def auB:G_api_Table:=⟨2,[],[auY,auX]⟩
theorem ZIe (s:Str):ZxF [s]=[s]:=ZIf (List.pairwise_singleton _ _) (by simp) (fun x=>Iff.rfl)
theorem ZWk:ZDs auX.Name=[[99,105,116,121]]:=by
 have e:ZGh (auX.Name++[32]) []=[[99,105,116,121]]:=by decide+kernel
 unfold ZDs;rw[e,ZIe]
theorem ZWj:ZDs auY.Name=[[110,97,109,101]]:=by
 have e:ZGh (auY.Name++[32]) []=[[110,97,109,101]]:=by decide+kernel
 unfold ZDs;rw[e,ZIe]
theorem ZWm:Zw3 auX.Cells=[[120]]:=by
 have e:ZHn auX.Cells=[[120]]:=by decide+kernel
 unfold Zw3;rw[e,ZIe]
theorem ZWl:Zw3 auY.Cells=[[121]]:=by
 have e:ZHn auY.Cells=[[121]]:=by decide+kernel
 unfold Zw3;rw[e,ZIe]
theorem ZN8 {a b:G_api_Column} (c:ZId (Zw3 a.Cells) (Zw3 b.Cells)=0) (d:ZId (ZDs a.Name) (ZDs b.Name)=0):ZIU a b=0:=by
 have z:∀x y:List Str,ZId x y=0->ZCC x y=0:=fun x y h=>by simp_all[ZCC]
 grind[ZIU,ofQ]
theorem ZZe:ZIU auX auX=1:=by grind[ZLO,ZWk,ZWm]
theorem ZZc:ZIU auY auY=1:=by grind[ZLO,ZWj,ZWl]
theorem ZWn:ZIU auX auY=0:=ZN8 (by rw[ZWm,ZWl];decide) (by rw[ZWk,ZWj];decide)
theorem ZZd:ZIU auY auX=0:=by rw[ZPo,ZWn]
theorem ZRF:ZNr auA auB=[[0,1],[1,0]]:=by show [[ZIU auX auY,ZIU auX auX],[ZIU auY auY,ZIU auY auX]]=_;rw[ZZe,ZZc,ZWn,ZZd]
theorem ZRH:ZIG auX:=⟨by decide,by decide,fun x a=>by grind[auX]⟩
theorem ZRG:ZIG auY:=⟨by decide,by decide,fun x a=>by grind[auY]⟩
theorem ZRJ:ZLi auA:=⟨by kernel_rfl,by decide,fun c a=>by
 grind[auA,ZRH,ZRG]⟩
theorem ZRI:ZLi auB:=⟨by kernel_rfl,by decide,fun c a=>by
 grind[auB,ZRG,ZRH]⟩
theorem ZPy:ZHW [[0,1],[1,0]] 0=[1,0]/\ZpC [[0,1],[1,0]] 0=2:=by decide+kernel
theorem ZQZ:ZKn auA auB=1:=by unfold ZKn;rw[ZRF,ZPy.2];decide+kernel
set_option maxRecDepth 100000 in
theorem ZPx:Ztc=some true:=by unfold Ztc;show (chk true (chk true ((Zo3 auA auB).bind _)))=_;show ((Zo3 auA auB).bind _)=_;rw[ZNz ZRJ ZRI,Z0H,ZRF,ZPy.1,ZQZ];show ((Zqp auA auB [1,0]).bind _)=_;rw[ZQo ZRJ ZRI (by decide) (by decide) ⟨by decide,by decide,by decide⟩,Z0H];dsimp only;rw[show ((0:Int) == 0)=true from rfl,cond_true,cond_true,show Zp6 [1,0] [1,0]=some true by decide+kernel,Z0H,cond_true,ZO7,Z0H,ZHq _ _ (ZJC.wq (by decide)) (ZJC.wq (by decide)),Z0H,decide_eq_true rfl,cond_true,ZIm,Z0H];unfold ZpB;decide+kernel
end Go.Proofs
