/- Plain laws over the specs, part 3. -/
import Derived.Test.YtdonkbljnbaacaaGreatDoorUtM2
import Derived.Test.YtdonkbljnbaacaaGreatDoorUtM0
import Derived.Test.YtdonkbljnbaacaaGreatDoorUtM1
set_option linter.all false
open Bool renaming not_true->ZW1
open Int renaming toNat_natCast->Z2i
open List renaming getElem_mem->Z2m, take_succ_eq_append_getElem->Z2u, zipWith->Z2v, length_map->Z2p, getElem?_eq_getElem->Z2l, length_append->Z2o, length_singleton->Z2q, drop_eq_getElem_cons->Z2j, getElem_of_mem->Z2n, length_take->Z2r, mem_append->Z2s, pairwise_append->Z2t, drop_eq_nil_of_le->Z2k
open Option renaming bind_some->Z2w
namespace Go.Proofs
open Go Eng
structure OpD (o:Zk3):Prop where
 cols:o.Columns.length<=3
 text:o.Text.length<=1024
def ZPx (t:G_api_Table) (k:Int):Prop:=0<=k/\k < (t.Columns.length:Int)
def ZMa (t:G_api_Table) (o:Zk3):Prop:=((o.Kind=1\/o.Kind=2\/o.Kind=5)->ZPx t o.Column)/\(o.Kind=3->∀k∈o.Columns,ZPx t k)
theorem ZXM {t:G_api_Table} {o:Zk3} (g:OpD o):wp (ZyH t o) (fun b=>b=true->ZMa t o):=by
 have r:=g.cols;have m:∀a:Bool,(a=true->ZPx t o.Column)->wp (Zsm a t o) (fun b=>b=true->ZMa t o):=by
  intro a u;unfold Zsm Zsl;have y:∀q:Bool,(o.Kind≠1)->(q=true->o.Kind=2\/o.Kind=5)->(o.Kind=2\/o.Kind=5->q=true)->wp (Zsk a o.Kind q t o) (fun b=>b=true->ZMa t o):=by
   intro q c z f;unfold Zsk Zsj;cases q with
   |true=>
    grind[Zfa,ZMa]
   |false=>
    have w:¬(o.Kind=2\/o.Kind=5):=fun h=>by simp_all
    rw[cond_false]
    by_cases h3:o.Kind=3
    ·rw[show (o.Kind == 3)=true by simp_all,cond_true,Zhr];refine Zjf (ZpP ZFY o.Columns (by omega) (fun i (_:Unit)=>(o.Columns,(o.Columns.length:Int),i,t,o)) (fun k _=>∀j (h:j < o.Columns.length),j < k->ZPx t o.Columns[j])
      (Q:=fun x=>x= .ret false\/(x= .brk o/\∀k∈o.Columns,ZPx t k)) () (fun j _ h=>absurd h (Nat.not_lt_zero _)) ?_ ?_) ?_
     ·rintro d k _ n v p;unfold ZxV ZtD Zvs;dsimp only;rw[decide_eq_true (show (k:Int) < (o.Columns.length:Int) by omega),cond_true,ZoT n,Option.bind_some]
      by_cases hn:o.Columns[k] < 0
      ·grind[Zfa]
      ·rw[decide_eq_false hn,cond_false]
       by_cases hg:o.Columns[k]>=(t.Columns.length:Int)
       ·grind[Zfa]
       ·rw[decide_eq_false hg,cond_false,ZhS];refine⟨ZiH (by omega),p () fun j s l=> ?_⟩
        by_cases e:j=k
        ·subst e;exact⟨by omega,by omega⟩
        grind
     all_goals grind[ZxV,ZtD,Zfa,List.getElem_of_mem,ZzJ,Zsi,ZMa]
    grind[ZqI,ZMa,Zfa]
  by_cases c:o.Kind=1
  ·grind[Zfa,ZMa]
  ·rw[beq_eq_false_iff_ne.2 c,cond_false]
   by_cases h2:o.Kind=2
   ·simp_all
   ·rw[beq_eq_false_iff_ne.2 h2,cond_false]
    by_cases h5:o.Kind=5
    all_goals grind
 unfold ZyH
 by_cases h0:o.Column>=0
 ·rw[decide_eq_true h0,cond_true];exact m _ fun h=>⟨h0,of_decide_eq_true h⟩
 grind
theorem ZR4 {t:G_api_Table} (h:ZJU t) {x y:Int} (g:0<=x/\x < Zw8 t) (j:0<=y/\y < Zw8 t):wp (Zwi t x y) (fun _=>True):=by
 obtain⟨n,p,b⟩:=h.rows;have a:=h.cols;unfold Zwi;rw[Zhr];refine Zjf (ZpP ZE8 t.Columns (by omega) (fun i (_:Unit)=>(x,y,t.Columns,(t.Columns.length:Int),i)) (fun _ _=>True) (Q:=fun _=>True) () trivial ?_ ?_) ?_
 ·rintro e k _ d _ f;unfold Zwy ZsJ;dsimp only;have o:Zw8 t=(n:Int):=by
   unfold Zw8;cases hcs:t.Columns with
   |nil=>simp_all
   |cons c l=>rw[<-(b c (by simp_all)).2.1]
  have m:=(b _ (List.getElem_mem d)).2.1;rw[decide_eq_true (show (k:Int) < (t.Columns.length:Int) by omega),cond_true,ZoT d,Option.bind_some,Zin g.1 (show x.toNat < t.Columns[k].Cells.length by omega),Option.bind_some,Zin j.1 (show y.toNat < t.Columns[k].Cells.length by omega),Option.bind_some,ZoH];refine⟨fun _=>by grind[Zfa],fun _=> ?_⟩;rw[ZhS];exact⟨ZiH (by omega),f () trivial⟩
 all_goals grind[Zwy,ZsJ,Zfa,ZxU]
theorem ZUC (a b:G_api_Cell):wp (ZrG a b) (fun _=>True):=by
 grind[ZrG,wp,ZqG]
theorem ZTM {t:G_api_Table} (h:ZJU t) {o:Zk3} (hdo:ZMa t o) (h3:o.Kind≠3):wp (Zxd t o) (fun r=>r.length<=6/\∀k∈r,0<=k/\k < Zw8 t):=by
 obtain⟨n,hn,hc⟩:=h.rows;have hcols:=h.cols;obtain⟨m,hm,hm6⟩:∃m:Nat,Zw8 t=(m:Int)/\m<=6:=by
  unfold Zw8;cases hcs:t.Columns with
  |nil=>grind
  |cons c l=>exact⟨n,by rw[<-(hc c (by simp_all)).2.1],hn⟩
 have hcol:∀k,ZPx t k->∃hk:k.toNat < t.Columns.length,0<=k/\(t.Columns[k.toNat]).Cells.length=m:=fun k hk=>by
  have hlt:k.toNat < t.Columns.length:=by have:=hk.1;have:=hk.2;omega
  refine⟨hlt,hk.1, ?_⟩;have h1:=(hc _ (List.getElem_mem hlt)).2.1;have h2:Zw8 t=(n:Int):=by
   unfold Zw8;cases hcs:t.Columns with
   |nil=>grind
   |cons c l=>rw[<-(hc c (by simp_all)).2.1]
  omega
 unfold Zxd;rw[ZLL,Option.bind_some,Zhr,hm];refine Zjf (Ztf ZFA m (by omega) (fun i (out:List Int)=>((m:Int),i,t,o,out)) (fun k out=>out.length<=k/\∀x∈out,0<=x/\x < (m:Int))
  (Q:=fun r=>r.length<=6/\∀k∈r,0<=k/\k < (m:Int)) [] ⟨Nat.le_refl _,fun c hc=>absurd hc (by simp)⟩ ?_ ?_) ?_
 ·rintro rec r out hr ⟨h1,h2⟩ ih;have put:∀(a:Nat) (keep:Bool),a<=out.length->wp (Zqm (fun t14 r_ t o out=>rec (t14,r_,t,o,out)) (r:Int) (a:Int) (m:Int) (r:Int) keep t o out) (fun r=>r.length<=6/\∀k∈r,0<=k/\k < (m:Int)):=by
   intro a keep ha;unfold Zqm Zuu;cases keep with
   |false=>grind[ZhS,ZiH]
   |true=>
    rw[cond_true,Int.toNat_natCast,Int.toNat_natCast,Nat.sub_zero,List.drop_zero,List.take_of_length_le (l:=out.drop a) (by simp_all)];simp only[ZhS];refine⟨Zpc (by omega),ZpO (by grind),ZpO (by grind),Zpc (by omega),ZpO (by grind),ZiH (by omega),ih _ ⟨?_,fun x hx=> ?_⟩⟩
    all_goals grind
  unfold Zxc Zth Zqn Zy1 Zy0;dsimp only;rw[decide_eq_true (show (r:Int) < (m:Int) by omega),cond_true]
  by_cases k1:o.Kind=1
  ·obtain⟨hk,h0,hlen⟩:=hcol _ (hdo.1 (.inl k1));grind[ZoT]
  rw[beq_eq_false_iff_ne.2 k1,cond_false]
  by_cases k2:o.Kind=2
  ·obtain⟨hk,h0,hlen⟩:=hcol _ (hdo.1 (.inr (.inl k2)));grind[ZoT]
  rw[beq_eq_false_iff_ne.2 k2,cond_false]
  by_cases k4:o.Kind=4
  ·rw[show (o.Kind == 4)=true by simp_all,cond_true,Zhr];refine Zjf (ZpP ZFz out (by omega) (fun i (keep:Bool)=>((r:Int),(out.length:Int),keep,(m:Int),(r:Int),(out.length:Int),i,t,o,out)) (fun _ _=>True) (Q:=fun x=>∃keep,x=((r:Int),(out.length:Int),keep,(m:Int),(r:Int),t,o,out)) true trivial ?_ ?_) ?_
   ·rintro rec2 i keep hi _ ih2;unfold Zxb Ztg Zuw;dsimp only;rw[decide_eq_true (show (i:Int) < (out.length:Int) by omega),cond_true,ZIp hi,chk_true,Int.toNat_natCast,List.getElem?_eq_getElem hi,Option.bind_some];grind[ZhS,ZiH,Zhr,ZR4]
   all_goals grind[Zxb,Ztg,Zfa]
  rw[beq_eq_false_iff_ne.2 k4,cond_false]
  by_cases k5:o.Kind=5
  ·obtain⟨hk,h0,hlen⟩:=hcol _ (hdo.1 (.inr (.inr k5)));rw[show (o.Kind == 5)=true by simp_all,cond_true,Zin h0 hk,Option.bind_some];generalize (t.Columns[o.Column.toNat]).Cells=L at hlen;rw[Zhr];refine Zjf (ZuN ZFy (fun a:Nat=>((r:Int),(a:Int),true,L,(m:Int),(r:Int),t,o,out)) (fun a=>a<=out.length) (fun a=>a) (Q:=fun x=>∃a:Nat,x=((r:Int),(a:Int),true,(m:Int),(r:Int),t,o,out)/\a<=out.length) out.length (Nat.le_refl _) (by omega) ?_) ?_
   ·rintro rec2 a ha ih2;unfold ZB4 Zxa Zuv;dsimp only
    by_cases h0a:0 < a
    ·have hi1:a - 1 < out.length:=by omega
     have hb:=h2 _ (List.getElem_mem hi1);rw[decide_eq_true (show (a:Int) > 0 by omega),cond_true,show (a:Int) - 1=((a - 1:Nat):Int) by omega,ZhS,ZhS,Int.toNat_natCast,List.getElem?_eq_getElem hi1,Option.bind_some,Zin hb.1 (show (out[a - 1]).toNat < L.length by omega),Option.bind_some,ZoT (show r < L.length by omega),Option.bind_some,Zhr];grind[ZiH,ZIp,ZUC,ZhS,Zfa]
    grind[Zfa]
   simp_all
  grind
 all_goals grind[Zxc,Zth,Zfa,ZyZ]
theorem Z0J {t:G_api_Table} (h:ZJU t) {o:Zk3} (b:OpD o) (a:ZMa t o):wp (Zzq t o) (fun x=>ZJU x/\x.ID=t.ID):=by
 unfold Zzq
 by_cases h3:o.Kind=3
 ·rw[show (o.Kind == 3)=true by simp_all,cond_true,Zhr];refine Zjf (ZOY h b.cols (a.2 h3)) ?_;grind[Zfa]
 grind[Zhr,Zjf,ZTM,ZPT,Zfa]
theorem ZWM {t:G_api_Table} (h:ZJU t) {o:Zk3} (d:OpD o):wp (ZyI t [o]) (fun r=>r.2=0->ZJU r.1):=by
 unfold ZyI;rw[show decide ((([o]:List Zk3).length:Int) > 5)=false from rfl,cond_false,ZKx h,Option.bind_some,Bool.not_true,cond_false,Zhr];refine Zjf (ZpP ZFZ [o] (by simp) (fun i (x:G_api_Table)=>([o],(([o]:List Zk3).length:Int),i,x,(0:Int),([]:Str),([]:List G_api_Column))) (fun _ x=>ZJU x)
  (Q:=fun y=>(∃e,y= .ret e/\e.2≠0)\/∃x,y= .brk (x,(0:Int),([]:Str),([]:List G_api_Column))/\ZJU x) t h ?_ ?_) ?_
 ·rintro b k x c g f;unfold ZxW ZtE;dsimp only;have a:([o]:List Zk3)[k]=o:=by
   simp_all
  rw[decide_eq_true (show (k:Int) < (([o]:List Zk3).length:Int) by omega),cond_true,ZoT c,Option.bind_some,a,Zhr];grind[Zjf,ZXM,Zfa,Zhr,Z0J,ZhS,ZiH]
 all_goals grind[ZxW,ZtE,Zfa,ZzK,ZQu]
end Go.Proofs
namespace Go.Proofs
open Go Eng
theorem ZLR {d:ZbZ} (b:Zs5 d) {n:Int} (a:0<=n/\n<=1000000):wp (Zi5 d n) (fun r=>(0<=r.1/\(r.1 < n\/n=0/\r.1=0))/\Zs5 r.2):=by
 by_cases h0:n=0
 ·subst h0;unfold Zi5;grind[Zfa,ZhS,Zhr,ZH6,ZiH,Zup,Zs5]
 grind[ZAf]
theorem Z0u {d:ZbZ} (j:Zs5 d) {t:G_api_Table} (h:ZJU t):wp (Zyo d t) (fun r=>OpD r.1/\Zs5 r.2):=by
 obtain⟨n,W,P⟩:=h.rows;have D:=h.cols;have J:∀(d:ZbZ) (k q:Int) (s:Str) (l:List Int),Zs5 d->s.length<=1024->l.length<=3->wp (ZqT d 0 0 [] k q s [] l) (fun r=>OpD r.1/\Zs5 r.2):=by intro d k q s l j H I;unfold ZqT Zu2;rw[Zfa];exact⟨⟨I,H⟩,j⟩
 have Y:∀(k:Int) (b:Bool) (d:ZbZ),Zs5 d->wp (Zu3 (t.Columns.length:Int) k b d 0 0 [] k 0 [] [] []) (fun r=>OpD r.1/\Zs5 r.2):=by
  intro k b d j;unfold Zu3;cases b with
  |true=>
   grind[Zhr,Zjf,ZLR]
  |false=>
   rw[cond_false,ZoH];refine⟨fun _=> ?_,fun _=>J d k 0 [] [] j (by simp) (by simp)⟩;rw[Zhr];refine Zjf (ZAf j (n:=3) (by omega)) ?_;rintro⟨q,K⟩ ⟨E,a⟩;dsimp only at E a|-
   obtain⟨m,U⟩:∃m:Nat,1+q=(m:Int):=⟨(1+q).toNat,by omega⟩;rw[U,ZhS,Zhr];refine⟨ZiH (by omega),Zjf (ZuN ZG2 (fun s:Nat×ZbZ×List Int=>((t.Columns.length:Int),(s.1:Int),s.2.1,(0:Int),(0:Int),([]:Str),k,(0:Int),([]:Str),([]:List Int),s.2.2))
    (fun s=>Zs5 s.2.1/\s.2.2.length+s.1=m) (fun s=>s.1) (Q:=fun x=>∃d l,x=(d,(0:Int),(0:Int),([]:Str),k,(0:Int),([]:Str),([]:List Int),l)/\Zs5 d/\l.length<=3) (m,K,[]) ⟨a,by simp⟩ (by omega) ?_) ?_⟩
   ·rintro M ⟨z,d,l⟩ ⟨B,C⟩ L;dsimp only at B C L;unfold ZD5 ZAF ZyS;dsimp only
    by_cases hk:0 < z
    ·rw[decide_eq_true (show (z:Int) > 0 by omega),cond_true,ZoH];refine⟨fun _=> ?_,fun _=> ?_⟩
     ·rw[Zhr];refine Zjf (ZLR B (n:=(t.Columns.length:Int)) (by omega)) ?_;rintro⟨q,w⟩ ⟨_,g⟩;dsimp only at g|-
      rw[ZhS,ZhS,show (z:Int) - 1=((z - 1:Nat):Int) by omega];exact⟨ZpO (by grind),ZiH (by omega),L (z - 1,w,l++[q]) ⟨g,by grind⟩ (by omega)⟩
     grind[Zfa]
    grind[Zfa]
   ·rintro _ ⟨d,l,rfl,B,C⟩;unfold ZBQ Zu2;dsimp only;rw[Zfa];exact⟨⟨C,by simp⟩,B⟩
 unfold Zyo;rw[Zhr];refine Zjf (ZAf j (n:=5) (by omega)) ?_;rintro⟨q,V⟩ ⟨E,y⟩;dsimp only at E y|-
 rw[ZhS];refine⟨ZiH (by omega), ?_⟩;rw[ZoH];refine⟨fun _=> ?_,fun _=> ?_⟩
 ·rw[Zhr];refine Zjf (ZLR y (n:=(t.Columns.length:Int)) (by omega)) ?_;rintro⟨p,K⟩ ⟨G,a⟩;dsimp only at G a|-
  rw[Zhr];refine Zjf (ZJy a (l:=[([97]:Str),([98]:Str),([49]:Str),([50]:Str),([107,48]:Str),([]:Str)]) (by decide) (by decide)) ?_;rintro⟨s,R⟩ ⟨H,i⟩;dsimp only at H i|-
  have T:s.length<=1024:=by grind
  have F:∀w,Zs5 w->wp (ZqU false w t 0 0 [] (1+q) p s [] []) (fun r=>OpD r.1/\Zs5 r.2):=fun w g=>by grind[ZqU]
  by_cases h0:0 < t.Columns.length
  ·have f:p.toNat < t.Columns.length:=by omega
   have v:=P _ (List.getElem_mem f);rw[decide_eq_true (show (t.Columns.length:Int) > 0 by omega),cond_true,Zin (by omega) f,Option.bind_some,ZoH];refine⟨fun e=> ?_,fun _=>F R i⟩;have e:=of_decide_eq_true e;rw[Zhr];refine Zjf (ZAf i (n:=3) (by omega)) ?_;rintro⟨O,X⟩ ⟨_,A⟩;dsimp only at A|-
   cases decide (O > 0)with
   |false=>simp_all
   |true=>
    unfold ZqU;have I:=v.2.1;rw[cond_true,Zin (by omega) f,Option.bind_some,Option.bind_some,Zhr];refine Zjf (ZAf A (n:=(t.Columns[p.toNat].Cells.length:Int)) (by omega)) ?_;rintro⟨N,S⟩ ⟨u,o⟩;dsimp only at u o|-
    have c:N.toNat < (t.Columns[p.toNat]).Cells.length:=by omega
    rw[Zin u.1 c,Option.bind_some];refine J S _ p _ [] o ?_ (by simp);have:=(ZK7 (v.2.2 _ (List.getElem_mem c)).1).2;omega
  simp_all
 grind
theorem ZLr {d:ZbZ} (y:Zs5 d) {t:G_api_Table} (h:ZJU t) {id:Int} (g:0<=id/\id<=1000):wp (Zq9 d t id) (fun r=>(ZJU r.1/\r.1.ID=id)/\Zs5 r.2):=by
 unfold Zq9;rw[Zhr];refine Zjf (ZAf y (n:=3) (by omega)) ?_;rintro⟨q,v⟩ ⟨z,c⟩;dsimp only at z c|-
 obtain⟨m,rfl⟩:∃m:Nat,q=(m:Int):=⟨q.toNat,by omega⟩;rw[Zhr];refine Zjf (ZuN ZFm (fun s:Nat×ZbZ×G_api_Table=>(id,(s.1:Int),s.2.1,s.2.2,(0:Int),([]:Str),([]:List G_api_Column)))
  (fun s=>s.1<=m/\Zs5 s.2.1/\ZJU s.2.2) (fun s=>s.1) (Q:=fun x=>∃d t,x=(id,d,t,(0:Int),([]:Str),([]:List G_api_Column))/\Zs5 d/\ZJU t) (m,v,t) ⟨Nat.le_refl _,c,h⟩ (by omega) ?_) ?_
 ·rintro u ⟨k,d,t⟩ ⟨w,f,a⟩ i;dsimp only at w f a i;unfold ZBA ZwT Zt9;dsimp only
  by_cases hk:0 < k
  ·rw[decide_eq_true (show (k:Int) > 0 by omega),cond_true,Zhr];refine Zjf (Z0u f a) ?_;rintro⟨o,p⟩ ⟨j,b⟩;dsimp only at j b|-
   rw[Zhr];refine Zjf (ZWM a j) ?_;rintro⟨x,e⟩ l;dsimp only at l|-
   rw[show (k:Int) - 1=((k - 1:Nat):Int) by omega,ZoH];refine⟨fun A=> ?_,fun _=> ?_⟩
   ·rw[ZhS];exact⟨ZiH (by omega),i (k - 1,p,x) ⟨by omega,b,l (eq_of_beq A)⟩ (by omega)⟩
   ·rw[ZhS];exact⟨ZiH (by omega),i (k - 1,p,t) ⟨by omega,b,a⟩ (by omega)⟩
  grind[Zfa]
 ·rintro _ ⟨d,t,rfl,f,a⟩;unfold Zyp;dsimp only;rw[ZQu a,Option.bind_some,Zfa];exact⟨⟨⟨g,a.name,a.cols,a.rows⟩,rfl⟩,f⟩
structure ZNU (m:Nat) (b:Int) (l:List G_api_Table):Prop where
 len:l.length<=m
 ok:∀t∈l,ZJU t/\t.ID<=b
 up:l.Pairwise fun x y=>x.ID < y.ID
theorem ZNU.snoc {m:Nat} {b c:Int} {l:List G_api_Table} (h:ZNU m b l) {t:G_api_Table} (f:ZJU t) (d:t.ID=c) (g:b < c):ZNU (m+1) c (l++[t]):=by
 refine⟨by rw[List.length_append,List.length_singleton];have:=h.len;omega,fun x a=> ?_, ?_⟩
 ·rcases List.mem_append.1 a with a |a
  ·exact⟨(h.ok x a).1,by have:=(h.ok x a).2;omega⟩
  simp_all
 ·rw[List.pairwise_append];refine⟨h.up,by simp,fun x a y e=> ?_⟩;rw[List.mem_singleton.1 e];have:=(h.ok x a).2;omega
theorem ZPK {d:ZbZ} (M:Zs5 d) {most:Nat} (R:1<=most) (O:most<=10):wp (Zt7 d (most:Int)) (fun r=>(ZNU most 50 r.1/\1<=r.1.length)/\Zs5 r.2):=by
 unfold Zt7;rw[Zhr];refine Zjf (ZAf M (n:=2) (by omega)) ?_;rintro⟨A,N⟩ ⟨g,w⟩;dsimp only at g w|-
 rw[Zhr];refine Zjf (ZAf w (n:=(most:Int)) (by omega)) ?_;rintro⟨q,L⟩ ⟨B,h⟩;dsimp only at B h|-
 obtain⟨m,K⟩:∃m:Nat,1+q=(m:Int):=⟨(1+q).toNat,by omega⟩;rw[K,ZhS,Zhr];refine⟨ZiH (by omega),Zjf (ZuN ZFG (fun s:Int×Nat×ZbZ×List G_api_Table=>(s.1,(s.2.1:Int),s.2.2.1,s.2.2.2))
  (fun s=>Zs5 s.2.2.1/\s.2.2.2.length+s.2.1=m/\(0<=s.1/\s.1<=1+2*(s.2.2.2.length:Int))/\ZNU s.2.2.2.length s.1 s.2.2.2) (fun s=>s.2.1)
  (Q:=fun x=>Zs5 x.1/\ZNU most 50 x.2/\1<=x.2.length) (A,m,L,[]) ⟨h,by simp,by omega,⟨by simp,fun t b=>absurd b (by simp),by simp⟩⟩ (by grind) ?_) ?_⟩
 ·rintro z ⟨id,k,d,l⟩ ⟨D,J,H,o⟩ F;dsimp only at D J H o F;unfold ZCi Zxx ZuH;dsimp only
  by_cases hk:0 < k
  ·rw[decide_eq_true (show (k:Int) > 0 by omega),cond_true,Zhr];refine Zjf (ZAf D (n:=2) (by omega)) ?_;rintro⟨q,S⟩ ⟨B,v⟩;dsimp only at B v|-
   rw[ZhS,ZhS,Zhr];have f:0<=id+(1+q)/\id+(1+q)<=1000:=by omega
   refine⟨ZiH (by omega),ZiH (by omega),Zjf (ZRu v f) ?_⟩;rintro⟨t,T⟩ ⟨⟨b,a⟩,u⟩;dsimp only at b a u|-
   have C:∀(t:G_api_Table) (y:ZbZ),ZJU t->t.ID=id+(1+q)->Zs5 y->wp (Zr2 (fun id k d l=>z (id,k,d,l)) (id+(1+q)) (k:Int) y l t) (fun x=>Zs5 x.1/\ZNU most 50 x.2/\1<=x.2.length):=by intro t y b a E;unfold Zr2;rw[ZhS,ZhS,show (k:Int) - 1=((k - 1:Nat):Int) by omega];refine⟨ZpO (by grind),ZiH (by omega),F (id+(1+q),k - 1,y,l++[t]) ⟨E,by grind,by grind, ?_⟩ (by grind)⟩;dsimp only;rw[List.length_append,List.length_singleton];exact o.snoc b a (by omega)
   rw[ZoH];refine⟨fun j=> ?_,fun _=>by grind⟩;have j:=of_decide_eq_true j;rw[Zhr];refine Zjf (ZAf u (n:=4) (by omega)) ?_;rintro⟨U,I⟩ ⟨_,c⟩;dsimp only at c|-
   rw[ZoH];refine⟨fun _=> ?_,fun _=>C t I b a c⟩;rw[Zhr];refine Zjf (ZAf c (n:=(l.length:Int)) (by omega)) ?_;rintro⟨G,P⟩ ⟨e,p⟩;dsimp only at e p|-
   have i:G.toNat < l.length:=by omega
   rw[ZhS,List.getElem?_eq_getElem i,Option.bind_some,Zhr];refine⟨Zr4 ⟨e.1,e.2⟩,Zjf (ZLr p (o.ok _ (List.getElem_mem i)).1 f) ?_⟩;simp_all
  ·rw[decide_eq_false (show ¬(k:Int) > 0 by omega),cond_false,Zfa];refine⟨D,⟨by grind,fun t b=> ?_,o.up⟩,by grind⟩;have:=o.ok t b;grind
 grind[Zzf,Zfa]
end Go.Proofs
namespace Go.Proofs
open Go Eng
section
variable {α:Type} (lt:α->α->Bool)
def ZXn (x:α):List α->List α
 | []=>[x]
 |p::r=>if lt x p then p::ZXn x r else x::p::r
def ZNp (x:α) (A:List α):List α:=(ZXn lt x A.reverse).reverse
def ZGD (l:List α):List α:=l.foldl (fun s x=>ZNp lt x s) []
variable {lt}
theorem ZRV (x:α):ZNp lt x []=[x]:=rfl
theorem ZKL (x p:α) (A:List α):ZNp lt x (A++[p])=if lt x p then ZNp lt x A++[p]else A++[p,x]:=by grind[ZNp,ZXn]
theorem ZME (x:α):∀l:List α,(ZXn lt x l).Perm (x::l)
 | []=> .refl _
 |p::r=>by
  unfold ZXn;split
  ·exact((ZME x r).cons p).trans (.swap _ _ _)
  simp_all
theorem ZQh (x:α) (A:List α):(ZNp lt x A).Perm (A++[x]):=by unfold ZNp;refine(List.reverse_perm _).trans ((ZME x _).trans ?_);grind[List.reverse_perm]
theorem ZLn (l:List α) (x:α):ZGD lt (l++[x])=ZNp lt x (ZGD lt l):=by simp[ZGD]
theorem ZHq (l:List α):(ZGD lt l).Perm l:=by
 have b:∀(l s:List α),(l.foldl (fun s x=>ZNp lt x s) s).Perm (s++l):=by
  intro l
  induction l with
  |nil=>simp_all
  |cons x l a=>
   intro s;refine(a _).trans ?_;refine((ZQh x s).append_right l).trans ?_;simp
 grind[ZGD]
theorem ZEz (l:List α):(ZGD lt l).length=l.length:=(ZHq l).length_eq
end
theorem ZPR {a:Type} (A C:List a) (p x:a):((A++p::x::C).set (A.length+1) p).set A.length x=A++x::p::C:=by
 simp_all
end Go.Proofs
namespace Go.Proofs
open Go Eng
theorem ZKw (l:List Str):Srt l<->l.Pairwise (fun a b=>a < b):=by
 constructor
 ·grind[List.pairwise_iff_getElem,ZLe]
 ·intro h;refine⟨h.imp fun h=>List.le_of_lt h, ?_⟩;exact h.imp fun {a b} h e=>by grind
theorem ZMB {a w:Str} (h:¬a < w) (b:a≠w):w < a:=by grind
theorem ZO2:((List.range 256).all fun n=>decide (Zvw (n:Int)=some (((xwC n.toUInt8).toNat:Nat):Int)))=true:=by kernel_rfl
theorem ZQe (b:UInt8):Zvw ((b.toNat:Nat):Int)=some (((xwC b).toNat:Nat):Int):=by
 have:=of_decide_eq_true (List.all_eq_true.1 ZO2 b.toNat (List.mem_range.2 b.toNat_lt))
 simp_all
theorem ZW0 {a:List Str} {w:Str} (v:a.length<=1000):ZyK (ZxO a) w=some (ZxO (a++[w])):=by
 have m:=ZLH a;have c:=ZIx a;have d:∀x,x∈ZxO a<->x∈a:=ZEb a;generalize ZxO a=l at m c d;refine Zo1 ?_;unfold ZyK;rw[Zhr];refine Zjf (ZuN ZF3 (fun(i:Nat)=>(l,w,(i:Int))) (fun i=>i<=l.length/\∀k (h:k < l.length),k < i->l[k] < w) (fun i=>l.length - i)
  (Q:=fun x=>∃i:Nat,x=(l,w,(i:Int))/\i<=l.length/\(∀k (h:k < l.length),k < i->l[k] < w)/\∀h:i < l.length,¬l[i] < w) 0 ⟨Nat.zero_le _,fun k _ h=>absurd h (Nat.not_lt_zero _)⟩ (by omega) ?_) ?_
 ·rintro p i ⟨t,g⟩ A;unfold ZCz Zx5 Zvv;dsimp only;rw[ZoH];refine⟨fun h=> ?_,fun h=> ?_⟩
  ·simp only[decide_eq_true_eq]at h;have b:i < l.length:=by omega
   rw[ZoT b,Z2w,ZSb,ZoH];refine⟨fun f=> ?_,fun f=> ?_⟩
   ·simp only[decide_eq_true_eq]at f;rw[ZhS];refine⟨ZiH (by omega), ?_⟩;grind
   grind[Zfa]
  grind[Zfa]
 ·rintro x ⟨i,rfl,t,g,q⟩;dsimp only;unfold ZzO Zvu;have j:(∀h:i < l.length,l[i]≠w)->wp (chk (Zcp 0 (i:Int) (l.length:Int)) <| chk (ZjC (l.take ((i:Int)).toNat).length 16) <| chk (ZjC ((l.take ((i:Int)).toNat).length+([w]:(List Str)).length) 16) <| chk (Zcp (i:Int) (l.length:Int) (l.length:Int)) <|
    chk (ZjC (((l.take ((i:Int)).toNat)++([w]:(List Str))).length+(l.drop ((i:Int)).toNat).length) 16) <| some (((l.take ((i:Int)).toNat)++([w]:(List Str)))++(l.drop ((i:Int)).toNat))) (fun x=>x=ZxO (a++[w])):=by
   intro r;rw[ZhS,ZhS,ZhS,ZhS,ZhS,Zfa,Z2i];refine⟨Zpc (by omega),ZpO (by grind),ZpO (by grind),Zpc (by omega),ZpO (by grind), ?_⟩;have n:Srt ((l.take i++[w])++l.drop i):=by
    rw[ZKw,Z2t,Z2t];have y:∀x∈l.take i,x < w:=fun x o=>by grind[Z2n]
    have u:∀x∈l.drop i,w < x:=fun x o=>by obtain⟨k,z,rfl⟩:=Z2n o;grind[ZMB,List.lt_trans,ZLe]
    grind[ZKw]
   refine(ZI1 n.1 n.2 fun x=> ?_).symm;grind[List.take_append_drop]
  rw[ZoH];refine⟨fun h=> ?_,fun h=> ?_⟩
  ·simp only[decide_eq_true_eq]at h;have b:i < l.length:=by omega
   rw[ZoT b,Z2w,ZoH];refine⟨fun f=> ?_,fun f=>j fun _ e=> ?_⟩
   ·rw[Zfa];have s:l[i]=w:=by simp_all
    refine(ZI1 m.1 m.2 fun x=> ?_).symm;grind
   simp_all
  grind
theorem ZXp (s a:Str) (b:List Str) {r:List Str} (h:b++ZGS s a=r):b.length<=r.length:=by grind
theorem ZNh {a:Str} (y:a.length<=300):Zs7 a=some (ZDY a):=by
 refine Zo1 ?_;unfold Zs7 ZDY;have f:=ZI2 (a++[32]) [];rw[Z2o,Z2q]at f;generalize hR:ZGS (a++[32]) []=R at f|-
 have g:ZxO []=[]:=by kernel_rfl
 rw[Zhr,show ZoZ big a ([]:List Str) ([]:Str) 0=ZoZ big a (ZxO []) ([]:Str) 0 by rw[g]];refine Zjf (ZuN ZFf (fun(s:Nat×List Str×Str)=>(a,ZxO s.2.1,s.2.2,(s.1:Int)))
  (fun s=>s.1<=a.length+1/\s.2.1++ZGS (List.drop s.1 (a++[32])) s.2.2=R/\s.2.2.length<=s.1) (fun s=>a.length+1 - s.1)
  (Q:=fun x=>x=ZxO R) (0,[],[]) ⟨by omega,hR,by simp⟩ (by dsimp only;omega) ?_) ?_
 ·rintro k ⟨i,h,c⟩ ⟨w,b,v⟩ j;dsimp only at w b v j;have u:=ZXp _ _ _ b;unfold ZBs ZwF;dsimp only
  by_cases hle:i<=a.length
  ·have m:i < (a++[32]).length:=by rw[Z2o,Z2q];omega
   have o:(a++[32]).drop i=(a++[32])[i]::(a++[32]).drop (i+1):=Z2j m;have d:wp (Zrj (fun a q c i=>k (a,q,c,i)) a (ZxO h) c (i:Int) (((xwC (a++[32])[i]).toNat:Nat):Int)) (fun x=>x=ZxO R):=by
    rw[o]at b;unfold ZGS at b;unfold Zrj ZtN ZtM
    by_cases hc:xwC (a++[32])[i]=0
    ·rw[hc]at b|-
     rw[show ((((0:UInt8).toNat:Nat):Int) != 0)=false from rfl,cond_false];rw[show ((0:UInt8) == 0)=true from rfl,cond_true]at b;cases hwd:c with
     |nil=>
      subst hwd;rw[show (!(([]:Str) == ([]:Str)))=false from rfl,cond_false,ZhS];exact⟨ZiH (by omega),j (i+1,h,[]) ⟨by dsimp only;omega,b,by simp⟩ (by dsimp only;omega)⟩
     |cons l p=>
      rw[hwd,show (l::p).isEmpty=false from rfl,cond_false]at b;rw[show (!((l::p) == ([]:Str)))=true by simp,cond_true,ZW0 (by omega),Z2w,ZhS];exact⟨ZiH (by omega),j (i+1,h++[l::p],[]) ⟨by dsimp only;omega,by dsimp only;rw[List.append_assoc];exact b,by simp⟩ (by dsimp only;omega)⟩
    ·have r:(((((xwC (a++[32])[i]).toNat:Nat):Int)) != 0)=true:=by rw[bne_iff_ne];intro e;refine hc (UInt8.toNat_inj.1 ?_);show _=0;omega
     rw[show (xwC (a++[32])[i] == 0)=false from beq_eq_false_iff_ne.2 hc,cond_false]at b;have t:([((((xwC (a++[32])[i]).toNat:Nat):Int))].map fun n=>UInt8.ofNat (Int.toNat n))=[xwC (a++[32])[i]]:=by rw[List.map_cons,List.map_nil,Z2i,UInt8.ofNat_toNat]
     rw[r,cond_true,t,ZhS,ZhS];refine⟨decide_eq_true (by simp only[Z2q];unfold Zr;omega),ZiH (by omega),j (i+1,h,c++[xwC (a++[32])[i]]) ⟨by dsimp only;omega,b,by dsimp only;rw[Z2o,Z2q];omega⟩ (by dsimp only;omega)⟩
   rw[decide_eq_true (show (i:Int)<=(a.length:Int) by omega),cond_true]
   by_cases hlt:i < a.length
   ·rw[decide_eq_true (show (i:Int) < (a.length:Int) by omega),cond_true,ZoT hlt,Z2w,ZQe,Z2w]
    rwa [List.getElem_append_left hlt]at d
   ·obtain rfl:i=a.length:=by omega
    rw[decide_eq_false (show ¬(a.length:Int) < (a.length:Int) by omega),cond_false];rw[List.getElem_append_right (Nat.le_refl _)]at d;simp only[Nat.sub_self,List.getElem_cons_zero]at d
    rwa [show (((xwC 32).toNat:Nat):Int)=0 by decide+kernel]at d
  ·obtain rfl:i=a.length+1:=by omega
   rw[decide_eq_false (show ¬((a.length+1:Nat):Int)<=(a.length:Int) by omega),cond_false,Zfa];rw[List.drop_of_length_le (by simp)]at b;unfold ZGS at b;rw[List.append_nil]at b;rw[b]
 ·rintro x rfl;unfold Zx6;rw[Zfa]
theorem ZNw {b:List Str} (c:b.Nodup) (x:Str):(b.filter fun y=>x == y).length=if b.contains x then 1 else 0:=by
 induction b with
 |nil=>rfl
 |cons y r a=>
  grind
theorem ZLm {a b:List Str} (m:Srt a) (f:Srt b) (t:a.length<=1000) (j:b.length<=1000):ZrV a b=some (fOf (ZDa a b)):=by
 refine Zo1 ?_;have u:=ZIV a b;unfold ZrV;rw[Zhr];refine Zjf (Ztf ZED a.length (by omega) (fun i (n:Nat)=>(a,b,(n:Int),a,(a.length:Int),i,false,false,([]:List Int),([]:List Int))) (fun i n=>n=ZIZ (a.take i) b)
  (Q:=fun x=>x=(a,b,(ZIZ a b:Int),false,false,([]:List Int),([]:List Int))) 0 (by simp[ZIZ]) ?_ ?_) ?_
 ·rintro l i n o rfl p;unfold Zvb ZrB;dsimp only;have c:=ZIV (a.take i) b;rw[Z2r]at c;rw[decide_eq_true (show (i:Int) < (a.length:Int) by omega),cond_true,ZoT o,Z2w,Zhr];refine Zjf (Ztf ZEC b.length (by omega) (fun k (n:Nat)=>(a,b,(n:Int),a[i],a,(a.length:Int),(i:Int),b,(b.length:Int),k,false,false,([]:List Int),([]:List Int))) (fun k n=>n=ZIZ (a.take i) b+((b.take k).filter fun y=>a[i] == y).length)
   (Q:=fun x=>x=(a,b,((ZIZ (a.take i) b+(b.filter fun y=>a[i] == y).length:Nat):Int),a,(a.length:Int),(i:Int),false,false,([]:List Int),([]:List Int))) (ZIZ (a.take i) b) (by simp) ?_ ?_) ?_
  ·rintro d k n e rfl q;unfold Zva ZrA ZsR;dsimp only;have v:((b.take k).filter fun y=>a[i] == y).length<=k:=Nat.le_trans (List.length_filter_le _ _) (by grind);have g:((b.take (k+1)).filter fun y=>a[i] == y).length=((b.take k).filter fun y=>a[i] == y).length+(bif a[i] == b[k]then 1 else 0):=by rw[Z2u e,List.filter_append,Z2o];grind
   rw[decide_eq_true (show (k:Int) < (b.length:Int) by omega),cond_true,ZoT e,Z2w];cases h:a[i] == b[k]with
   |true=>
    rw[h]at g;rw[cond_true,ZhS,ZhS];refine⟨ZiH (by omega),ZiH (by omega), ?_⟩;grind
   |false=>
    rw[h]at g;grind[ZhS,ZiH]
  ·simp_all[Zva,ZrA,Zfa]
  ·rintro x rfl;dsimp only;unfold ZwI;rw[ZhS];refine⟨ZiH (by omega),p _ ?_⟩;rw[ZNw f.2];grind[ZIZ,Z2u]
 ·grind[Zvb,ZrB,Zfa]
 ·rintro x rfl;dsimp only;unfold ZwH;rw[ZhS,ZoH];refine⟨ZiH (by omega),fun h=> ?_,fun h=> ?_⟩
  ·have r:a.length+b.length=0:=by grind
   simp_all[Zlj,ZJi,Zfa,ZKB]
  ·have r:¬(a.length+b.length=0):=by grind
   have s:ZIZ a b<=b.length:=by have:=ZIV b a;rw[<-ZKU m.2 f.2]at this;omega
   grind[ZhS,ZKD,Zfa,ZiH,ZDa]
end Go.Proofs
namespace Go.Proofs
open Go Eng
theorem ZUb:ZxO []=[]:=by kernel_rfl
theorem ZUo {r l:List Str} {w:Str} {i:Nat} (o:Srt l) (c:∀x,x∈l<->x∈r) (d:∀k (h:k < l.length),k < i->l[k] < w) (g:∀h:i < l.length,¬l[i] < w) (m:∀h:i < l.length,l[i]≠w):ZxO (r++[w])=l.take i++(w::l.drop i):=by
 have s:Srt (l.take i++(w::l.drop i)):=by
  rw[ZKw,Z2t,List.pairwise_cons];have t:∀x∈l.take i,x < w:=fun x n=>by obtain⟨k,f,rfl⟩:=Z2n n;rw[Z2r]at f;rw[List.getElem_take];exact d k (by omega) (by omega)
  have q:∀x∈l.drop i,w < x:=fun x n=>by
   obtain⟨k,f,rfl⟩:=Z2n n;rw[List.length_drop]at f;rw[List.getElem_drop];have u:w < l[i]'(by omega):=ZMB (g (by omega)) (m (by omega));rcases Nat.eq_zero_or_pos k with rfl |v
   ·exact u
   ·exact List.lt_trans u (ZLe o (show i < i+k by omega) (by omega))
  refine⟨((ZKw l).1 o).sublist (List.take_sublist _ _),⟨q,((ZKw l).1 o).sublist (List.drop_sublist _ _)⟩,fun a p b j=> ?_⟩;rcases List.mem_cons.1 j with rfl |j
  ·exact t a p
  ·exact List.lt_trans (t a p) (q b j)
 refine ZI1 s.1 s.2 fun x=> ?_
 rw[Z2s,Z2s,List.mem_singleton,List.mem_cons,<-c x];have e:x∈l<->x∈l.take i\/x∈l.drop i:=by rw[<-Z2s,List.take_append_drop]
 rw[e];constructor
 ·rintro((h |h) |h)
  ·exact .inl h
  ·exact .inr (.inr h)
  ·exact .inr (.inl h)
 ·rintro(h |h |h)
  ·exact .inl (.inl h)
  ·exact .inr h
  ·exact .inl (.inr h)
theorem ZT6 {b l:List Str} {w:Str} (c:Srt l) (a:∀x,x∈l<->x∈b) (h:w∈l):ZxO (b++[w])=l:=by
 refine ZI1 c.1 c.2 fun x=> ?_
 simp_all
theorem ZWL {l:List Str} (z:l.length<=1000):ZyM l=some (ZxO l):=by
 refine Zo1 ?_;unfold ZyM;rw[Zhr];refine Zjf (ZpP ZF5 l (by omega) (fun i (c:List Str)=>(l,(l.length:Int),i,c)) (fun k c=>c=ZxO (l.take k)) (Q:=fun x=>x=ZxO l) [] (by grind[ZUb]) ?_ ?_) ?_
 ·rintro m k c p rfl f;have b:=ZIx (l.take k);rw[Z2r]at b;have g:=ZLH (l.take k);have a:∀x,x∈ZxO (l.take k)<->x∈l.take k:=ZEb _;have n:l.take (k+1)=l.take k++[l[k]]:=Z2u p;unfold Zyb ZtS;dsimp only;rw[decide_eq_true (show (k:Int) < (l.length:Int) by omega),cond_true,ZoT p,Z2w,Zhr];rw[n]at f;generalize l.take k=ws at a f g b;generalize ZxO ws=o at g b a;generalize l[k]=w at f;refine Zjf (ZuN ZF4 (fun i:Nat=>(w,(i:Int),l,(l.length:Int),(k:Int),o)) (fun i=>i<=o.length/\∀j (h:j < o.length),j < i->o[j] < w) (fun i=>o.length - i)
   (Q:=fun x=>∃i:Nat,x=(w,(i:Int),l,(l.length:Int),(k:Int),o)/\i<=o.length/\(∀j (h:j < o.length),j < i->o[j] < w)/\∀h:i < o.length,¬o[i] < w) 0 ⟨Nat.zero_le _,fun k _ h=>absurd h (Nat.not_lt_zero _)⟩ (by omega) ?_) ?_
  ·rintro t i ⟨u,d⟩ s;unfold ZCB Zya ZvG;dsimp only
   by_cases hio:i < o.length
   ·rw[decide_eq_true (show (i:Int) < (o.length:Int) by omega),cond_true,ZIp hio,chk_true,Z2i,Z2l hio,Z2w,ZSb]
    by_cases hc:o[i] < w
    ·rw[decide_eq_true hc,cond_true,ZhS];refine⟨ZiH (by omega),s (i+1) ⟨by omega,fun k p y=> ?_⟩ (by omega)⟩;grind
    grind[Zfa]
   grind[Zfa]
  ·rintro x ⟨i,rfl,u,d,q⟩;dsimp only;unfold ZzU ZvF ZvE;have v:(∀h:i < o.length,o[i]≠w)->wp (chk (Zcp 0 (i:Int) (o.length:Int)) <| chk (Zcp (i:Int) (o.length:Int) (o.length:Int)) <| chk (ZjC (([w]:(List Str)).length+((o.drop (((i:Int)).toNat)).take ((o.length:Int).toNat - ((i:Int)).toNat)).length) 16) <|
     chk (decide ((((i:Int)).toNat - 0)<=o.length)) <| chk (ZjC ((((i:Int)).toNat - 0)+(([w]:(List Str))++((o.drop (((i:Int)).toNat)).take ((o.length:Int).toNat - ((i:Int)).toNat))).length) 16) <|
     chk (inK .i64 ((k:Int)+1)) <| m (l,(l.length:Int),(k:Int)+1,(o.take (((i:Int)).toNat - 0)++(([w]:(List Str))++((o.drop (((i:Int)).toNat)).take ((o.length:Int).toNat - ((i:Int)).toNat)))))) (fun x=>x=ZxO l):=by
    intro r;have e:=ZUo g a d q r;rw[Z2i,Z2i,Nat.sub_zero,List.take_of_length_le (l:=o.drop i) (by simp_all)];rw[ZhS,ZhS,ZhS,ZhS,ZhS,ZhS];grind[Zpc,ZpO,ZiH]
   by_cases hio:i < o.length
   ·rw[beq_eq_false_iff_ne.2 (show ((i:Int))≠(o.length:Int) by omega),cond_false,ZIp hio,chk_true,Z2i,Z2l hio,Z2w]
    by_cases hc:o[i]=w
    ·rw[show (!(o[i] == w))=false by grind,cond_false,ZhS];exact⟨ZiH (by omega),f _ (ZT6 g a (hc▸Z2m hio)).symm⟩
    ·rw[show (!(o[i] == w))=true by grind,cond_true]
     simp_all
   grind
 all_goals grind[Zyb,ZtS,Zfa,ZzT]
theorem ZMo {c:G_api_Column} (h:c.Cells.length<=1000):Zsr c=some (Zw9 c.Cells):=by
 refine Zo1 ?_;have a:∀l:List G_api_Cell,(ZH8 l).length<=l.length:=fun l=>by grind[ZH8]
 unfold Zsr;rw[Zhr];refine Zjf (ZpP ZEQ c.Cells (by omega) (fun i (l:List Str)=>(c.Cells,(c.Cells.length:Int),i,l)) (fun k l=>l=ZH8 (c.Cells.take k)) (Q:=fun x=>x=ZH8 c.Cells) [] rfl ?_ ?_) ?_
 ·rintro g k l d rfl e;have b:c.Cells.take (k+1)=c.Cells.take k++[c.Cells[k]]:=Z2u d;have f:=a (c.Cells.take k);rw[Z2r]at f;unfold ZvZ Zsa Ztl;dsimp only;rw[decide_eq_true (show (k:Int) < (c.Cells.length:Int) by omega),cond_true,ZoT d,Z2w];rw[b]at e;cases hn:c.Cells[k].Null with
  |true=>
   grind[ZhS,ZiH,ZH8]
  |false=>
   rw[Bool.not_false,cond_true,ZhS,ZhS];exact⟨ZpO (by grind),ZiH (by omega),e _ (by grind[ZH8])⟩
 ·grind[ZvZ,Zsa,Zfa]
 ·rintro x rfl;have f:=a c.Cells;unfold Zxk;rw[ZWL (by omega),Z2w,Zfa];rfl
theorem ZOP {a b:G_api_Column} (d:a.Cells.length<=100) (c:b.Cells.length<=100):Zvx a b=some (fOf (ZDa (Zw9 a.Cells) (Zw9 b.Cells))):=by grind[ZIP,Zvx,ZMo,ZLm,ZGj]
theorem ZNj {a b:Str} (d:a.length<=300) (c:b.length<=300):Zwk a b=some (fOf (ZDa (ZDY a) (ZDY b))):=by grind[ZJx,Zwk,ZNh,ZLm,ZHa]
theorem ZKz {c:G_api_Column} (j:∀x∈c.Cells,x.Text.length<=9223372036854775807) (r:c.Cells.length<=1000):Zs8 c=some (fOf (ZxM c.Cells)):=by
 refine Zo1 ?_;unfold Zs8;rw[Zhr];refine Zjf (ZpP ZFg c.Cells (by omega) (fun i (s:Nat×Nat)=>((s.1:Int),(s.2:Int),c.Cells,(c.Cells.length:Int),i,false,false,([]:List Int),([]:List Int))) (fun k s=>s.1=ZH1 (c.Cells.take k)/\s.2=ZOo (c.Cells.take k))
  (Q:=fun x=>x=((ZH1 c.Cells:Int),(ZOo c.Cells:Int),false,false,([]:List Int),([]:List Int))) (0,0) ⟨by simp[ZH1],by simp[ZOo]⟩ ?_ ?_) ?_
 ·rintro l k ⟨f,n⟩ d ⟨m,p⟩ a;dsimp only at m p a;unfold ZwG ZsQ Zrl;dsimp only;have t:c.Cells.take (k+1)=c.Cells.take k++[c.Cells[k]]:=Z2u d;have g:=ZJl (c.Cells.take k);have o:=ZJI (c.Cells.take k);rw[Z2r]at g;have h:ZH1 (c.Cells.take (k+1))=f+(bif c.Cells[k].Null then 0 else 1):=by grind[ZH1]
  have b:ZOo (c.Cells.take (k+1))=n+(bif !c.Cells[k].Null&&isN c.Cells[k]then 1 else 0):=by grind[ZOo]
  rw[decide_eq_true (show (k:Int) < (c.Cells.length:Int) by omega),cond_true,ZoT d,Z2w];cases hnul:c.Cells[k].Null with
  |true=>
   rw[hnul]at h b;rw[cond_true,ZhS];exact⟨ZiH (by omega),a (f,n) ⟨by grind,by grind⟩⟩
  |false=>
   rw[hnul]at h b;rw[cond_false,ZhS];refine⟨ZiH (by omega), ?_⟩;rw[ZMp (j _ (Z2m d)),Z2w];cases hv:ZNA c.Cells[k]with
   |some q=>
    have e:isN c.Cells[k]=true:=by grind[isN]
    rw[e]at b;dsimp only;rw[cond_true,ZhS,ZhS];refine⟨ZiH (by omega),ZiH (by omega), ?_⟩;have:=a (f+1,n+1) ⟨by grind,by grind⟩;grind
   |none=>
    have e:isN c.Cells[k]=false:=by grind[isN]
    rw[e]at b;dsimp only;rw[cond_false,ZhS];refine⟨ZiH (by omega), ?_⟩;have:=a (f+1,n) ⟨by grind,by grind⟩;grind
 ·grind[ZwG,ZsQ,Zfa]
 ·rintro x rfl;have g:=ZJl c.Cells;have o:=ZJI c.Cells;dsimp only;unfold Zx7 ZxM
  by_cases h0:ZH1 c.Cells=0
  ·rw[h0,show (((0:Nat):Int) == 0)=true from rfl,cond_true,ZEa,Z2w,Zfa,show ZOo c.Cells=0 by omega];rfl
  grind[ZKD,Zfa]
theorem ZUn:Zo6 4=some (fOf 4):=ZJi 4 (by decide) (by decide)
theorem ZOg {a b:G_api_Column} (e:ZJu a) (i:ZJu b) {v n:Rat} (c:Sz 10 v) (m:Sz 10 n):
  Zq7 false a b false false (fOf v) (fOf n) [] []=some (fOf ((v+v+n+(1 - ZOA (ZxM a.Cells - ZxM b.Cells))) / 4)):=by
 unfold Zq7;have p:=e.rows;have q:=i.rows;have j:Sz 10 (ZxM a.Cells):=ZHb (by omega) (by decide);have d:Sz 10 (ZxM b.Cells):=ZHb (by omega) (by decide);have l:Sz 21 (ZxM a.Cells - ZxM b.Cells):=j.sub d;have k:Sz 23 (ZOA (ZxM a.Cells - ZxM b.Cells)):=ZND l (by decide);have f:=c.add c;have h:=f.add m;have g:Sz 32 (1 - ZOA (ZxM a.Cells - ZxM b.Cells)):=(ZKu.sub k).mono (by decide);have o:=h.add g;rw[cond_false,ZKz e.cells (by omega),Z2w,ZKz i.cells (by omega),Z2w,ZKj j d (by decide),Z2w,ZSg l (by decide),Z2w,ZJp c c (by decide),Z2w,ZJp f m (by decide),Z2w,ZQg,Z2w,ZKj ZKu k (by decide),Z2w,ZJp h g (by decide),Z2w,ZUn,Z2w,ZOu (by decide) o ZNd (by decide),Z2w]
theorem ZPZ {a b:G_api_Column} (c:ZJu a) (d:ZJu b):Zzr a b=some (fOf (ZJN a b)):=by
 unfold Zzr ZJN ofQ;have f:=ZM6 c.rows d.rows;have e:=ZLS c.name d.name;rw[ZOP c.rows d.rows,Z2w,ZNj c.name d.name,Z2w,ZEa,Z2w,ZE7 _ _ (f.wq (by decide)) (ZFx.wq (by decide)),Z2w]
 by_cases h1:ZDa (Zw9 a.Cells) (Zw9 b.Cells)=0
 ·rw[decide_eq_true h1,cond_true,Z2w,ZE7 _ _ (e.wq (by decide)) (ZFx.wq (by decide)),Z2w];grind[Zq7,ZEa,ZOg]
 grind[ZOg]
end Go.Proofs
namespace Go.Proofs
open Go Eng
abbrev fkT:Ty:= .st 7
abbrev fvT:Ty:= .st 4
abbrev ZK9:=List (Ziw×ZbF)
abbrev lkF (m:ZK9) (x:Ziw):Option ZbF:=Zhx (q:=ZKm) (k:=fkT) (v:=fvT) (car:=ZAj) m x
abbrev stF (m:ZK9) (x:Ziw) (y:ZbF):ZK9:=setB (q:=ZKm) (k:=fkT) (v:=fvT) (car:=ZAj) m x y
theorem ZQd (m:ZK9) (x y:Ziw) (v:ZbF):lkF (stF m x v) y=if y=x then some v else lkF m y:=by
 have o:∀a b:Ziw,Zl3 (car:=ZAj) ZKm fkT a b=decide (a=b):=by
  intro a b;obtain⟨l,k⟩:=a;obtain⟨j,i⟩:=b;show (l == j&&k == i)=_
  grind
 have c:∀m:ZK9,lkF m y=(m.find? fun e=>decide (y=e.1)).map (·.2):=fun m=>by show ((m.find? fun e=>Zl3 (car:=ZAj) ZKm fkT y e.1)).map (·.2)=_;simp_all
 rw[c,c];have f:stF m x v=if m.any (fun e=>decide (x=e.1))then m.map (fun e=>if x=e.1 then (e.1,v)else e)else m++[(x,v)]:=by show (if m.any (fun e=>Zl3 (car:=ZAj) ZKm fkT x e.1)then m.map (fun e=>if Zl3 (car:=ZAj) ZKm fkT x e.1 then (e.1,v)else e)else m++[(x,v)])=_;grind
 rw[f];split
 ·rename_i h
  induction m with
  |nil=>grind
  |cons e r d=>
   simp only[List.map_cons,List.find?_cons]
   by_cases h1:x=e.1
   ·simp only[if_pos h1]
    by_cases h2:y=e.1
    ·simp_all
    ·have n:¬y=x:=fun h=>h2 (h.trans h1)
     simp only[decide_eq_false h2,if_neg n];clear d h f c
     induction r with
     |nil=>rfl
     |cons p r d=>
      grind
   ·simp only[if_neg h1]
    by_cases h2:y=e.1
    ·grind
    ·simp only[decide_eq_false h2];have g:(r.any fun e=>decide (x=e.1))=true:=by simp_all
     exact d (by
      show (if r.any (fun e=>Zl3 (car:=ZAj) ZKm fkT x e.1)then r.map (fun e=>if Zl3 (car:=ZAj) ZKm fkT x e.1 then (e.1,v)else e)else r++[(x,v)])=_;simp_all) g
 grind
def ZJ9 (u k:Nat):Bool:=(u >>> k)&&& 1 == 1
def ZGI (u k:Nat):Nat:=u|||(1 <<< k)
theorem ZLY:∀u:Fin 256,∀k:Fin 8,(andK .i64 (shrK .i64 (u.val:Int) (k.val:Int)) 1 == 1)=ZJ9 u.val k.val/\orK .i64 (u.val:Int) (shlK .i64 1 (k.val:Int))=(ZGI u.val k.val:Nat)/\ZGI u.val k.val < 256:=by decide+kernel
theorem ZUE {u k:Nat} (hu:u < 256) (hk:k < 8):(andK .i64 (shrK .i64 (u:Int) (k:Int)) 1 == 1)=ZJ9 u k:=(ZLY ⟨u,hu⟩ ⟨k,hk⟩).1
theorem ZPS {u k:Nat} (b:u < 256) (a:k < 8):orK .i64 (u:Int) (shlK .i64 1 (k:Int))=(ZGI u k:Nat):=(ZLY ⟨u,b⟩ ⟨k,a⟩).2.1
theorem ZIa {u k:Nat} (b:u < 256) (a:k < 8):ZGI u k < 256:=(ZLY ⟨u,b⟩ ⟨k,a⟩).2.2
def ZEP (F:Nat->Rat) (u k:Nat) (x:Rat):Option Rat:=if ZJ9 u k then none else if x=0 then none else some (x+F (ZGI u k))
def goW (F:Nat->Rat) (u:Nat):Nat->List Rat->Rat->Rat
 |_,[],b=>b
 |k,x::r,b=>goW F u (k+1) r (match ZEP F u k x with |some y=>if b < y then y else b |none=>b)
def Zpx:List (List Rat)->Nat->Rat
 | [],_=>0
 |r::rest,u=>goW (Zpx rest) u 0 r (Zpx rest u)
def ZIJ (w:List (List Rat)) (m:ZK9):Prop:=∀(i u:Nat) v,lkF m ⟨(i:Int),(u:Int)⟩=some v->v=fOf (Zpx (w.drop i) u)
theorem ZQm (w:List (List Rat)):ZIJ w []:=fun i u v h=>by cases h
theorem ZIJ.set {w:List (List Rat)} {m:ZK9} (h:ZIJ w m) (i u:Nat):ZIJ w (stF m ⟨(i:Int),(u:Int)⟩ (fOf (Zpx (w.drop i) u))):=by
 intro b c v a;rw[ZQd]at a;split at a
 ·grind
 ·exact h b c v a
def Zo4 (w:List (List Rat)):List (List ZbF):=w.map fun r=>r.map fOf
structure WOk (s:Nat) (w:List (List Rat)):Prop where
 rows:w.length<=8
 cols:∀r∈w,r.length<=8
 sz:∀r∈w,∀x∈r,Sz s x
 lim:s<=600
theorem ZSM {F:Nat->Rat} {s B u:Nat} (c:∀u,Sz B (F u)):∀(r:List Rat) (k:Nat) (b:Rat),(∀x∈r,Sz s x)->Sz (s+B+1) b->Sz (s+B+1) (goW F u k r b)
 | [],k,b,_,hb=>hb
 |x::r,k,b,hr,hb=>by
  refine ZSM c r (k+1) _ (fun y a=>hr y (by grind)) ?_;unfold ZEP;split
  ·rename_i y a;split
   ·split at a
    ·grind
    ·split at a
     ·grind
     ·cases a;exact(hr x (by simp)).add (c _)
   omega
  omega
theorem ZIF {s:Nat}:∀(w:List (List Rat)) (u:Nat),(∀r∈w,∀x∈r,Sz s x)->Sz ((s+1)*w.length+1) (Zpx w u)
 | [],u,_=>by grind[Zpx,ZFx]
 |r::rest,u,h=>by
  have a:=fun u=>ZIF rest u (fun r b=>h r (by grind))
  have:(s+1)*(r::rest).length+1=s+((s+1)*rest.length+1)+1:=by grind
  rw[this];exact ZSM a r 0 _ (h r (by simp)) ((a u).mono (by omega))
theorem ZE4 {s:Nat} {w:List (List Rat)} (h:WOk s w) (i u:Nat):Sz 7000 (Zpx (w.drop i) u):=by
 refine(ZIF (w.drop i) u fun r a=>h.sz r (List.mem_of_mem_drop a)).mono ?_;have b:(w.drop i).length<=8:=by rw[List.length_drop];have:=h.rows;omega
 have c:=h.lim;have:(s+1)*(w.drop i).length<=601*8:=Nat.mul_le_mul (by omega) b;omega
end Go.Proofs
namespace Go.Proofs
open Go Eng
theorem ZLi {a:Rat}:(ZK5 a 0 == 0)=decide (a=0):=by
 grind[ZK5]
theorem ZLj (a b:Rat):decide (ZK5 a b > 0)=decide (b < a):=by
 grind[ZK5]
abbrev RF:=List (List ZbF)->Int->Int->ZK9->Option (ZbF×ZK9)
def ZZ8 (w:List (List Rat)) (rf:RF) (i:Nat):Prop:=∀(u:Nat) (m:ZK9),u < 256->ZIJ w m->∃m',rf (Zo4 w) (i:Int) (u:Int) m=some (fOf (Zpx (w.drop i) u),m')/\ZIJ w m'
theorem ZHn {w:List (List Rat)} {i:Nat} (h:i < w.length):idx (Zo4 w) (i:Int)=some (w[i].map fOf):=by grind[ZoT,Zo4]
theorem ZKy {r:List Rat} {k:Nat} (h:k < r.length):idx (r.map fOf) (k:Int)=some (fOf r[k]):=by grind[ZoT]
theorem ZPF {w:List (List Rat)} {s:Nat} (hw:WOk s w) {rf:RF} {i:Nat} (hi:i < w.length) (hrf:ZZ8 w rf (i+1)) {u k:Nat} (hu:u < 256) (hk:k < w[i].length) {m:ZK9} (hm:ZIJ w m):
 ∃x ok m',Zrb rf (Zo4 w) (i:Int) (u:Int) (k:Int) m=some (x,ok,m')/\ZIJ w m'/\
  (ZEP (Zpx (w.drop (i+1))) u k w[i][k]=none/\ok=false\/∃y,ZEP (Zpx (w.drop (i+1))) u k w[i][k]=some y/\ok=true/\x=fOf y):=by
 have hr:=hw.cols _ (Z2m hi);have hk8:k < 8:=by omega
 have hi8:=hw.rows;have hsz:=hw.sz _ (Z2m hi) _ (Z2m hk);have hlim:=hw.lim;have hj1:∀b1 b2 l1 l2,Zqf rf (Zo4 w) (i:Int) (u:Int) (k:Int) true m b1 b2 l1 l2=some (fOf 0,false,m):=by grind[Zqf,ZJw]
 unfold Zrb;rw[show decide (0<=(k:Int))=true from decide_eq_true (by omega),ZUE hu hk8];show ∃x ok m',(bif ZJ9 u k then _ else _)=_/\_;cases hb:ZJ9 u k with
 |true=>
 refine⟨_,_,_,hj1 false false [] [],hm,.inl ⟨?_,rfl⟩⟩;grind[ZEP]
 |false=>
 simp only[cond_false];rw[ZHn hi,Z2w,ZKy hk,Z2w,ZJA (hsz.wq (by omega)),Z2w,ZLi]
 by_cases hz:w[i][k]=0
 ·rw[decide_eq_true hz];refine⟨_,_,_,hj1 false false [] [],hm,.inl ⟨?_,rfl⟩⟩;grind[ZEP]
 ·rw[decide_eq_false hz];obtain⟨m',hr1,hm'⟩:=hrf (ZGI u k) m (ZIa hu hk8) hm;unfold Zqf;simp only[cond_false];have hin:inK .i64 ((i:Int)+1)=true:=ZiH (by omega);rw[ZHn hi,Z2w,ZKy hk,Z2w,hin,show decide (0<=(k:Int))=true from decide_eq_true (by omega),ZPS hu hk8];show ∃x ok m',((rf (Zo4 w) ((i:Int)+1) (ZGI u k:Nat) m).bind _)=_/\_;rw[show ((i:Int)+1)=((i+1:Nat):Int) by omega,hr1,Z2w];dsimp only;rw[ZJg hsz (ZE4 hw (i+1) (ZGI u k)) (by omega),Z2w];grind[ZEP]
theorem ZRZ {w:List (List Rat)} {s:Nat} (hw:WOk s w) {rf:RF} {i:Nat} (hi:i < w.length) (hrf:ZZ8 w rf (i+1)) {u:Nat} (hu:u < 256) (t6 t6_1:Bool) (key:Ziw) (l1 l2:List Int):
  ∀(d k n:Nat) (m:ZK9) (b:Rat),k+d=w[i].length->d < n->ZIJ w m->Sz (s+((s+1)*(w.drop (i+1)).length+1)+1) b->
   ∃m',Znd rf n (Zo4 w) (i:Int) (u:Int) (w[i].length:Int) (k:Int) m t6 t6_1 key (fOf b) l1 l2=
    some (Zo4 w,m',t6,t6_1,key,fOf (goW (Zpx (w.drop (i+1))) u k (w[i].drop k) b),l1,l2)/\ZIJ w m':=by
 have hB:s+((s+1)*(w.drop (i+1)).length+1)+1<=8000:=by
  have h1:(w.drop (i+1)).length<=8:=by rw[List.length_drop];have:=hw.rows;omega
  have h2:=hw.lim;have:(s+1)*(w.drop (i+1)).length<=601*8:=Nat.mul_le_mul (by omega) h1;omega
 have h8:=hw.cols _ (List.getElem_mem hi);intro d
 induction d with
 |zero=>
  intro k n m b hk hn hm hb;obtain⟨n,rfl⟩:∃n',n=n'+1:=⟨n - 1,by omega⟩;refine⟨m, ?_,hm⟩;rw[Znd,Zs4,show decide ((k:Int) < (w[i].length:Int))=false from decide_eq_false (by omega),cond_false,show w[i].drop k=[]from List.drop_eq_nil_of_le (by omega)];rfl
 |succ d ih=>
  intro k n m b hk hn hm hb;obtain⟨n,rfl⟩:∃n',n=n'+1:=⟨n - 1,by omega⟩;have hkl:k < w[i].length:=by omega
  rw[Znd,Zs4,show decide ((k:Int) < (w[i].length:Int))=true from decide_eq_true (by omega),cond_true];obtain⟨x,ok,m1,h1,hm1,h2⟩:=ZPF hw hi hrf hu hkl hm;rw[h1,Option.bind_some];dsimp only;have hin:inK .i64 ((k:Int)+1)=true:=ZiH (by omega);have next:∀(b':Rat),Sz (s+((s+1)*(w.drop (i+1)).length+1)+1) b'->∃m',Zru rf (Znd rf n) (Zo4 w) (i:Int) (u:Int) (w[i].length:Int) (k:Int) m1 t6 t6_1 key (fOf b') l1 l2=
    some (Zo4 w,m',t6,t6_1,key,fOf (goW (Zpx (w.drop (i+1))) u (k+1) (w[i].drop (k+1)) b'),l1,l2)/\ZIJ w m':=by
   intro b' hb';unfold Zru;rw[hin];show ∃m',Znd rf n (Zo4 w) (i:Int) (u:Int) (w[i].length:Int) ((k:Int)+1) m1 t6 t6_1 key (fOf b') l1 l2=_/\_;rw[show ((k:Int)+1)=((k+1:Nat):Int) by omega];exact ih (k+1) n m1 b' (by omega) (by omega) hm1 hb'
  have hdrop:w[i].drop k=w[i][k]::w[i].drop (k+1):=List.drop_eq_getElem_cons hkl;rw[hdrop];rcases h2 with ⟨ht,rfl⟩ |⟨y,ht,rfl,rfl⟩
  ·grind[Zrv,goW]
  ·simp only[cond_true];have hy:Sz (s+((s+1)*(w.drop (i+1)).length+1)+1) y:=by
    unfold ZEP at ht;split at ht
    ·cases ht
    ·split at ht
     ·cases ht
     ·cases ht;exact(hw.sz _ (List.getElem_mem hi) _ (List.getElem_mem hkl)).add (ZIF _ _ fun r hr=>hw.sz r (List.mem_of_mem_drop hr))
   rw[ZOw (hy.wq (by omega)) (hb.wq (by omega)),Option.bind_some,ZLj];grind[Zrv,goW]
theorem ZNr {w:List (List Rat)} {s:Nat} (hw:WOk s w):∀(n i:Nat),i<=w.length->w.length - i < n->ZZ8 w (ZjT n) i:=by
 intro n
 induction n with
 |zero=>omega
 |succ n ih=>
 intro i hi hn u m hu hm;have h8:=hw.rows;have hlim:=hw.lim;rw[ZjT,Zzn];have hl:(Zo4 w).length=w.length:=by simp[Zo4]
 by_cases he:i=w.length
 ·rw[show ((i:Int) == ((Zo4 w).length:Int))=true by simp_all,cond_true,ZJw,Z2w,show w.drop i=[]from Z2k (by omega)];exact⟨m,rfl,hm⟩
 ·have hlt:i < w.length:=by omega
  rw[show ((i:Int) == ((Zo4 w).length:Int))=false by grind,cond_false]
  change ∃m',(bif (lkF m ⟨(i:Int),(u:Int)⟩).isSome then some ((lkF m ⟨(i:Int),(u:Int)⟩).getD _,m)else _)=_/\_
  cases hlk:lkF m ⟨(i:Int),(u:Int)⟩with
  |some v=>
  rw[hm i u v hlk];simp_all
  |none=>
  have hrf:=ih (i+1) (by omega) (by omega);rw[show (none:Option ZbF).isSome=false from rfl,cond_false,ZiH (n:=(i:Int)+1) (by omega)];show ∃m',((ZjT n (Zo4 w) ((i:Int)+1) (u:Int) m).bind _)=_/\_;obtain⟨m1,h1,hm1⟩:=hrf u m hu hm;rw[show ((i:Int)+1)=((i+1:Nat):Int) by omega,h1,Z2w];dsimp only;rw[ZHn hlt,Z2w,Z2p];have hsz:=ZIF (s:=s) (w.drop (i+1)) u fun r hr=>hw.sz r (List.mem_of_mem_drop hr)
  obtain⟨m2,h2,hm2⟩:=ZRZ hw hlt hrf hu false false ⟨(i:Int),(u:Int)⟩ [] [] w[i].length 0 big m1 (Zpx (w.drop (i+1)) u) (by omega) (by rw[big_eq];have:=hw.cols _ (Z2m hlt);omega) hm1 (hsz.mono (by omega));rw[show ((0:Int))=((0:Nat):Int)from rfl,h2,Z2w];dsimp only;unfold ZyA;have hd:Zpx (w.drop i) u=goW (Zpx (w.drop (i+1))) u 0 (w[i].drop 0) (Zpx (w.drop (i+1)) u):=by grind[Z2j,Zpx]
  rw[<-hd];exact⟨_,rfl,hm2.set i u⟩
end Go.Proofs
namespace Go.Proofs
open Go Eng
structure ZQP (s m:Nat) (w:List (List Rat)):Prop extends WOk s w where
 len:∀r∈w,r.length=m
 nn:∀r∈w,∀x∈r,0<=x
theorem ZOV (a b:Rat):decide (ZK5 a b < 0)=decide (a < b):=by
 grind[ZK5]
theorem ZOW (a b:Rat):(ZK5 a b == 0)=decide (a=b):=by
 grind[ZK5]
theorem ZIh (w:List (List Rat)):(Zo4 w).length=w.length:=by simp[Zo4]
theorem ZFt {w:List (List Rat)} {k:Nat} (a:k < (Zo4 w).length):(Zo4 w)[k]=(w[k]'(by grind[ZIh])).map fOf:=by simp[Zo4]
theorem ZPI {w:List (List Rat)} {s m:Nat} (b:ZQP s m w):ZCq (Zo4 w)=some 0:=by
 have o:=b.rows;have p:=ZIh w;have h:=b.lim;apply Zo1;unfold ZCq;rw[decide_eq_false (show ¬((Zo4 w).length:Int) > 8 by omega),cond_false,Zhr];refine Zjf (ZpP ZHm (Zo4 w) (by omega) (fun i (_:Unit)=>(Zo4 w,Zo4 w,((Zo4 w).length:Int),i)) (fun _ _=>True) (Q:=fun x=>x= .brk (Zo4 w)) () trivial ?_ ?_) ?_
 ·rintro c k _ a _ e;unfold ZBg ZxK;dsimp only;rw[decide_eq_true (show (k:Int) < ((Zo4 w).length:Int) by omega),cond_true,ZoT a,Option.bind_some,ZFt a,List.length_map];have:=b.cols _ (List.getElem_mem (by omega:k < w.length));rw[decide_eq_false (by omega),cond_false,ZhS];exact⟨ZiH (by omega),e () trivial⟩
 ·grind[ZBg,ZxK,Zfa]
 rintro _ rfl;dsimp only;unfold ZC9;rw[Zhr];refine Zjf (ZpP ZHl (Zo4 w) (by omega) (fun i (_:Unit)=>(Zo4 w,Zo4 w,((Zo4 w).length:Int),i)) (fun _ _=>True) (Q:=fun x=>x= .brk (Zo4 w)) () trivial ?_ ?_) ?_
 ·rintro c k _ a _ e;unfold ZBf ZxJ;dsimp only;have g:0 < (Zo4 w).length:=by omega
  rw[decide_eq_true (show (k:Int) < ((Zo4 w).length:Int) by omega),cond_true,ZoT a,Option.bind_some,show (0:Int)=((0:Nat):Int)from rfl,ZoT g,Option.bind_some,ZFt a,ZFt g,List.length_map,List.length_map,
   b.len _ (List.getElem_mem _),b.len _ (List.getElem_mem _),show (((m:Nat):Int) != (m:Int))=false by simp,cond_false,ZhS]
  exact⟨ZiH (by omega),e () trivial⟩
 ·grind[ZBf,ZxJ,Zfa]
 rintro _ rfl;dsimp only;unfold ZC8;rw[Zhr];refine Zjf (ZpP ZHk (Zo4 w) (by omega) (fun i (_:Unit)=>(Zo4 w,((Zo4 w).length:Int),i)) (fun _ _=>True) (Q:=fun x=>x= .brk ()) () trivial ?_ ?_) ?_
 ·rintro c k _ a _ e;unfold ZBe ZxI;dsimp only;have d:k < w.length:=by omega
  rw[decide_eq_true (show (k:Int) < ((Zo4 w).length:Int) by omega),cond_true,ZoT a,Option.bind_some,ZFt a,Zhr];have n:=b.cols _ (List.getElem_mem d);refine Zjf (ZpP ZHj (w[k].map fOf) (by grind) (fun i (_:Unit)=>(Zo4 w,((Zo4 w).length:Int),(k:Int),w[k].map fOf,((w[k].map fOf).length:Int),i)) (fun _ _=>True)
   (Q:=fun x=>x= .brk (Zo4 w,((Zo4 w).length:Int),(k:Int))) () trivial ?_ ?_) ?_
  ·rintro c j _ l _ e;unfold ZBd ZxH;dsimp only;have f:j < w[k].length:=by simp_all
   rw[decide_eq_true (show (j:Int) < ((w[k].map fOf).length:Int) by omega),cond_true,ZoT l,Option.bind_some,List.getElem_map,ZJA ((b.sz _ (List.getElem_mem d) _ (List.getElem_mem f)).wq (by omega)),Option.bind_some,ZOV,
    decide_eq_false (by have:=b.nn _ (List.getElem_mem d) _ (List.getElem_mem f);grind),cond_false,ZhS]
   exact⟨ZiH (by omega),e () trivial⟩
  ·grind[ZBd,ZxH,Zfa]
  rintro _ rfl;dsimp only;unfold ZC7;rw[ZhS];exact⟨ZiH (by omega),e () trivial⟩
 all_goals grind[ZBe,ZxI,Zfa,ZC6]
def ZGH (F:Nat->Rat) (u:Nat) (b:Rat):Nat->List Rat->Option Nat
 |_,[]=>none
 |k,x::r=>if ZEP F u k x=some b then some k else ZGH F u b (k+1) r
def ZH3:List (List Rat)->Nat->List Int
 | [],_=>[]
 |r::rest,u=>match ZGH (Zpx rest) u (Zpx (r::rest) u) 0 r with
  |some k=>(k:Int)::ZH3 rest (ZGI u k)
  |none=>(-1)::ZH3 rest u
def ZJh (F:Nat->Rat) (u:Nat) (b:Rat) (r:List Rat):Nat:=match ZGH F u b 0 r with
 |some k=>ZGI u k
 |none=>u
def ZMl (F:Nat->Rat) (u:Nat) (b:Rat) (r:List Rat):Int:=match ZGH F u b 0 r with
 |some k=>(k:Int)
 |none=> -1
theorem ZJO (r:List Rat) (a:List (List Rat)) (u:Nat):ZH3 (r::a) u=ZMl (Zpx a) u (Zpx (r::a) u) r::ZH3 a (ZJh (Zpx a) u (Zpx (r::a) u) r):=by grind[ZH3,ZMl,ZJh]
theorem ZKo {F:Nat->Rat} {u:Nat} {b:Rat}:∀(r:List Rat) (k j:Nat),ZGH F u b k r=some j->k<=j/\j < k+r.length/\∃x,r[j - k]? =some x/\ZEP F u j x=some b
 | [],k,j,h=>by cases h
 |x::r,k,j,h=>by
  rw[ZGH]at h;split at h
  ·simp_all
  ·obtain⟨d,c,y,a,e⟩:=ZKo r (k+1) j h;grind
theorem ZQG {w:List (List Rat)} {s:Nat} (hw:WOk s w) {i:Nat} (hi:i < w.length) {u:Nat} (hu:u < 256) (t26:List (List ZbF)) (t27:Int) (t3 t3_1:Bool) (out:List Int) (l1 l2:List Int) {b:Rat} (hb:Sz 7000 b):
  ∀(d k n:Nat) (m:ZK9),k+d=w[i].length->d < n->ZIJ w m->
   ∃m',Zp1 n (Zo4 w) (u:Int) (i:Int) (-1) t26 t27 (i:Int) (w[i].length:Int) (k:Int) t3 t3_1 m out (fOf b) l1 l2=
    some (Zo4 w,(match ZGH (Zpx (w.drop (i+1))) u b k (w[i].drop k)with |some j=>((ZGI u j:Nat):Int) |none=>(u:Int)),(match ZGH (Zpx (w.drop (i+1))) u b k (w[i].drop k)with |some j=>(j:Int) |none=> -1),t26,t27,(i:Int),t3,t3_1,m',out,l1,l2)/\ZIJ w m':=by
 have h8:=hw.cols _ (Z2m hi);have hr8:=hw.rows;have hlim:=hw.lim;have hrf:ZZ8 w (ZjT big) (i+1):=ZNr hw big (i+1) (by omega) (by rw[big_eq];omega);intro d
 induction d with
 |zero=>
  intro k n m hk hn hm;obtain⟨n,rfl⟩:∃n',n=n'+1:=⟨n - 1,by omega⟩;refine⟨m, ?_,hm⟩;rw[Zp1,ZBW,show decide ((k:Int) < (w[i].length:Int))=false from decide_eq_false (by omega),cond_false,show w[i].drop k=[]from Z2k (by omega)];rfl
 |succ d ih=>
  intro k n m hk hn hm;obtain⟨n,rfl⟩:∃n',n=n'+1:=⟨n - 1,by omega⟩;have hkl:k < w[i].length:=by omega
  rw[Zp1,ZBW,show decide ((k:Int) < (w[i].length:Int))=true from decide_eq_true (by omega),cond_true];obtain⟨x,ok,m1,h1,hm1,h2⟩:=ZPF hw hi hrf hu hkl hm;rw[h1,Z2w];dsimp only;have hin:inK .i64 ((k:Int)+1)=true:=ZiH (by omega);have hdrop:w[i].drop k=w[i][k]::w[i].drop (k+1):=Z2j hkl;have next:∃m',Zur (Zp1 n) (Zo4 w) (u:Int) (i:Int) (-1) (k:Int) t26 t27 (i:Int) (w[i].length:Int) (k:Int) false t3 t3_1 m1 out (fOf b) l1 l2=
    some (Zo4 w,(match ZGH (Zpx (w.drop (i+1))) u b (k+1) (w[i].drop (k+1))with |some j=>((ZGI u j:Nat):Int) |none=>(u:Int)),(match ZGH (Zpx (w.drop (i+1))) u b (k+1) (w[i].drop (k+1))with |some j=>(j:Int) |none=> -1),t26,t27,(i:Int),t3,t3_1,m',out,l1,l2)/\ZIJ w m':=by
   unfold Zur;rw[cond_false,hin];show ∃m',Zp1 n (Zo4 w) (u:Int) (i:Int) (-1) t26 t27 (i:Int) (w[i].length:Int) ((k:Int)+1) t3 t3_1 m1 out (fOf b) l1 l2=_/\_;rw[show ((k:Int)+1)=((k+1:Nat):Int) by omega];exact ih (k+1) n m1 (by omega) (by omega) hm1
  rw[hdrop,ZGH];rcases h2 with ⟨ht,rfl⟩ |⟨y,ht,rfl,rfl⟩
  ·simp only[cond_false,ht,reduceCtorEq,if_false];exact next
  ·simp only[cond_true];have hy:Sz 7700 y:=by
    unfold ZEP at ht;split at ht
    ·cases ht
    ·split at ht
     ·cases ht
     ·cases ht;exact((hw.sz _ (Z2m hi) _ (Z2m hkl)).add (ZE4 hw (i+1) (ZGI u k))).mono (by omega)
   rw[ZOw (hy.wq (by omega)) (hb.wq (by omega)),Z2w,ZOW,ht]
   by_cases hby:y=b
   ·rw[decide_eq_true hby,if_pos (by rw[hby])];unfold Zur;rw[cond_true,show decide (0<=(k:Int))=true from decide_eq_true (by omega),ZPS hu (by omega)];exact⟨m1,rfl,hm1⟩
   ·rw[decide_eq_false hby,if_neg (by simpa using hby)];exact next
theorem ZQF {w:List (List Rat)} {s:Nat} (hw:WOk s w) (t3 t3_1:Bool) (l1 l2:List Int):
 ∀(d i n u:Nat) (m:ZK9) (out:List Int),i+d=w.length->d < n->u < 256->ZIJ w m->out.length=i->
  ∃m',ZqQ n (Zo4 w) (u:Int) (Zo4 w) (w.length:Int) (i:Int) t3 t3_1 m out l1 l2=some (Zo4 w,t3,t3_1,m',out++ZH3 (w.drop i) u,l1,l2)/\ZIJ w m':=by
 have hr8:=hw.rows;intro d
 induction d with
 |zero=>
 intro i n u m out hi hn hu hm ho;obtain⟨n,rfl⟩:∃n',n=n'+1:=⟨n - 1,by omega⟩;grind[ZqQ,ZBX,ZH3]
 |succ d ih=>
 intro i n u m out hi hn hu hm ho;obtain⟨n,rfl⟩:∃n',n=n'+1:=⟨n - 1,by omega⟩;have hil:i < w.length:=by omega
 have h8:=hw.cols _ (Z2m hil);rw[ZqQ,ZBX,show decide ((i:Int) < (w.length:Int))=true from decide_eq_true (by omega),cond_true,ZHn hil,Z2w];obtain⟨m1,h1,hm1⟩:=ZNr hw big i (by omega) (by grind[big_eq]) u m hu hm;rw[h1,Z2w];dsimp only;obtain⟨m2,h2,hm2⟩:=ZQG hw hil hu (Zo4 w) (w.length:Int) t3 t3_1 out l1 l2 (ZE4 hw i u) w[i].length 0 big m1 (by omega) (by grind[big_eq]) hm1;rw[Z2p,show (0:Int)=((0:Nat):Int)from rfl,h2,Z2w,List.drop_zero];dsimp only;have hd:w.drop i=w[i]::w.drop (i+1):=Z2j hil;rw[hd,ZJO,<-hd];have e1:(match ZGH (Zpx (w.drop (i+1))) u (Zpx (w.drop i) u) 0 w[i]with |some j=>((ZGI u j:Nat):Int) |none=>(u:Int))=((ZJh (Zpx (w.drop (i+1))) u (Zpx (w.drop i) u) w[i]:Nat):Int):=by grind[ZJh]
 have e2:(match ZGH (Zpx (w.drop (i+1))) u (Zpx (w.drop i) u) 0 w[i]with |some j=>(j:Int) |none=> -1)=ZMl (Zpx (w.drop (i+1))) u (Zpx (w.drop i) u) w[i]:=rfl;have hu2:ZJh (Zpx (w.drop (i+1))) u (Zpx (w.drop i) u) w[i] < 256:=by
  unfold ZJh;split
  ·rename_i j hj;have:=(ZKo _ _ _ hj).2.1;grind[ZIa]
  omega
 rw[e1,e2];unfold ZDD;rw[ZpO (by grind),ZiH (n:=(i:Int)+1) (by omega)];show ∃m',ZqQ n (Zo4 w) _ (Zo4 w) (w.length:Int) ((i:Int)+1) t3 t3_1 m2 _ l1 l2=_/\_;rw[show ((i:Int)+1)=((i+1:Nat):Int) by omega];obtain⟨m',q1,q2⟩:=ih (i+1) n _ m2 (out++[ZMl (Zpx (w.drop (i+1))) u (Zpx (w.drop i) u) w[i]]) (by omega) (by omega) hu2 hm2 (by grind);grind
theorem ZTX {q:Rat} (h:Sz 8000 q):ZI8 (fOf q)=some (fOf q):=by
 have c:=h.wq (by omega);unfold ZI8;have a:(fOf q).Num.Words.length<=256:=by grind[fOf,bg,iL]
 have b:(fOf q).Den.Words.length<=256:=by grind[fOf,bg,iL]
 rw[ZpO (by omega),ZpO (by omega)];rfl
theorem ZUI {w:List (List Rat)} {s m:Nat} (hw:ZQP s m w):ZDk (Zo4 w)=some (ZH3 w 0,fOf (Zpx w 0),0):=by have hr8:=hw.rows;unfold ZDk;rw[ZPI hw,Z2w,show ((0:Int) != 0)=false from rfl,cond_false];obtain⟨m1,h1,hm1⟩:=ZQF hw.toWOk false false [] [] w.length 0 big 0 [] [] (by omega) (by grind[big_eq]) (by omega) (ZQm w) rfl;rw[ZIh];rw[show (0:Int)=((0:Nat):Int)from rfl,h1,Z2w];dsimp only;unfold ZDC;obtain⟨m2,h2,hm2⟩:=ZNr hw.toWOk big 0 (by omega) (by grind[big_eq]) 0 m1 (by omega) hm1;rw[show (0:Int)=((0:Nat):Int)from rfl,h2,Z2w];dsimp only;rw[ZTX ((ZE4 hw.toWOk 0 0).mono (by omega)),Z2w];simp
end Go.Proofs
namespace Go.Proofs
open Go Eng
theorem ZSc:∀u:Fin 256,∀k:Fin 8,ZJ9 (ZGI u.val k.val) k.val=true/\∀j:Fin 8,ZJ9 u.val j.val=true->ZJ9 (ZGI u.val k.val) j.val=true:=by decide+kernel
theorem ZSd {u k j:Nat} (a:u < 256) (b:k < 8) (c:j < 8) (h:ZJ9 u j=true):ZJ9 (ZGI u k) j=true:=(ZSc ⟨u,a⟩ ⟨k,b⟩).2 ⟨j,c⟩ h
theorem ZMk {F:Nat->Rat} {u k:Nat} {x y:Rat} (h:ZEP F u k x=some y):ZJ9 u k=false/\x≠0/\y=x+F (ZGI u k):=by
 unfold ZEP at h;split at h
 ·cases h
 ·rename_i a;split at h
  ·cases h
  ·rename_i b;cases h;exact⟨by simpa using a,b,rfl⟩
theorem ZMN:∀(w:List (List Rat)) (u:Nat),(ZH3 w u).length=w.length
 | [],u=>rfl
 |r::rest,u=>by rw[ZJO,List.length_cons,ZMN rest,List.length_cons]
end Go.Proofs
namespace Go.Proofs
open Go Eng
structure ZJs (t:G_api_Table):Prop where
 ok:ZB0 t=true
 cols:t.Columns.length<=8
 col:∀c∈t.Columns,ZJu c
noncomputable def ZPy (b:G_api_Table) (x:G_api_Column):List Rat:=b.Columns.map fun y=>ZJN x y
noncomputable def ZM2 (a b:G_api_Table):List (List Rat):=a.Columns.map fun x=>ZPy b x
theorem ZNn {a b:G_api_Table} (f:ZJs a) (g:ZJs b):ZQP 100 b.Columns.length (ZM2 a b):=by
 have h:∀r∈ZM2 a b,∃x∈a.Columns,r=ZPy b x:=fun r c=>by obtain⟨x,e,rfl⟩:=List.mem_map.1 c;grind
 have j:∀r∈ZM2 a b,∀q∈r,∃x∈a.Columns,∃y∈b.Columns,q=ZJN x y:=fun r c q d=>by obtain⟨x,e,rfl⟩:=h r c;obtain⟨y,i,rfl⟩:=List.mem_map.1 d;grind
 refine⟨⟨by rw[ZM2,Z2p];exact f.cols,fun r c=> ?_,fun r c q d=> ?_,by omega⟩,fun r c=> ?_,fun r c q d=> ?_⟩
 ·obtain⟨x,_,rfl⟩:=h r c;rw[ZPy,Z2p];exact g.cols
 ·obtain⟨x,e,y,i,rfl⟩:=j r c q d;exact ZUA (f.col x e) (g.col y i)
 all_goals grind[ZPy,ZNz]
def ZJB (a b:G_api_Table):Int:=if (1:Int) > (if (b.Columns.length:Int) > (a.Columns.length:Int)then (b.Columns.length:Int)else (a.Columns.length:Int))then (1:Int)else (if (b.Columns.length:Int) > (a.Columns.length:Int)then (b.Columns.length:Int)else (a.Columns.length:Int))
noncomputable def ZGl (a b:G_api_Table):Rat:=Zpx (ZM2 a b) 0 / (ZJB a b:Rat)
theorem ZH9 {a b:G_api_Table} (d:a.Columns.length<=8) (c:b.Columns.length<=8):1<=ZJB a b/\ZJB a b<=8/\(a.Columns.length:Int)<=ZJB a b:=by grind[ZJB]
theorem ZNc {n:Int} (h:1<=n/\n<=8):Sz 4 (n:Rat):=by
 unfold Sz;have a:(n:Rat).num=n:=by simp
 have b:(n:Rat).den=1:=by simp
 omega
theorem ZKr {a b:G_api_Table} (d:ZJs a) (c:ZJs b):Sz 7000 (Zpx (ZM2 a b) 0):=by
 have:=ZE4 (ZNn d c).toWOk 0 0
 simp_all
theorem ZLI {a b:G_api_Table} (f:ZJs a) (d:ZJs b):Sz 7004 (ZGl a b):=by
 have h:=ZH9 f.cols d.cols;have c:((ZJB a b:Int):Rat)≠0:=by
  have:((ZJB a b:Int):Rat)≠((0:Int):Rat):=fun e=>by simp_all
  omega
 exact(Sz.div c (ZKr f d) (ZNc ⟨h.1,h.2.1⟩)).mono (by omega)
theorem ZWn (w:List (List Rat)) (r:List Rat):Zo4 (w++[r])=Zo4 w++[r.map fOf]:=by simp[Zo4]
theorem ZOz {a b:G_api_Table} (f:ZJs a) (g:ZJs b):Zqr a b=some (ZH3 (ZM2 a b) 0,fOf (ZGl a b),0):=by
 have u:=f.cols;have t:=g.cols;have o:ZrL a=some true:=by rw[ZKi a (by omega) (fun c h=>by have:=(f.col c h).rows;omega),f.ok]
 have n:ZrL b=some true:=by rw[ZKi b (by omega) (fun c h=>by have:=(g.col c h).rows;omega),g.ok]
 apply Zo1;unfold Zqr;rw[o,Option.bind_some,Bool.not_true,cond_false,n,Option.bind_some,Bool.not_true];unfold ZuU;rw[cond_false,decide_eq_false (by omega),cond_false,decide_eq_false (by omega)];unfold ZyG;rw[cond_false,Zhr];refine Zjf (ZpP ZG1 a.Columns (by omega) (fun i (w:List (List ZbF))=>(a.Columns,(a.Columns.length:Int),i,a,b,false,false,w,([]:List Int),([]:List Int))) (fun k w=>w=Zo4 ((a.Columns.take k).map fun x=>ZPy b x))
  (Q:=fun x=>x=(a,b,false,false,Zo4 (ZM2 a b),([]:List Int),([]:List Int))) [] rfl ?_ ?_) ?_
 ·rintro d k w p rfl q;unfold ZAx Zwg;dsimp only;rw[decide_eq_true (show (k:Int) < (a.Columns.length:Int) by omega),cond_true,ZoT p,Option.bind_some,Zhr];have v:=f.col _ (List.getElem_mem p);refine Zjf (ZpP ZG0 b.Columns (by omega) (fun j (r:List ZbF)=>(a.Columns,(a.Columns.length:Int),(k:Int),b.Columns,(b.Columns.length:Int),j,a,b,false,false,Zo4 ((a.Columns.take k).map fun x=>ZPy b x),a.Columns[k],r,([]:List Int),([]:List Int)))
   (fun j r=>r=((b.Columns.take j).map fun y=>ZJN a.Columns[k] y).map fOf)
   (Q:=fun x=>x=(a.Columns,(a.Columns.length:Int),(k:Int),a,b,false,false,Zo4 ((a.Columns.take k).map fun x=>ZPy b x),(ZPy b a.Columns[k]).map fOf,([]:List Int),([]:List Int))) [] rfl ?_ ?_) ?_
  ·rintro d j r l rfl q;unfold ZAw Zwf;dsimp only;rw[decide_eq_true (show (j:Int) < (b.Columns.length:Int) by omega),cond_true,ZoT l,Option.bind_some,ZXJ v (g.col _ (List.getElem_mem l)),Option.bind_some,ZhS,ZhS];refine⟨ZpO (by simp;omega),ZiH (by omega),q _ ?_⟩;rw[List.take_succ_eq_append_getElem l,List.map_append,List.map_append];rfl
  ·rintro d r rfl;unfold ZAw Zwf;dsimp only;rw[decide_eq_false (show ¬(b.Columns.length:Int) < (b.Columns.length:Int) by omega),cond_false,Zfa,List.take_length];rfl
  rintro _ rfl;grind[ZBN,ZhS,ZpO,Zo4,ZiH,List.take_succ_eq_append_getElem]
 ·rintro d w rfl;unfold ZAx Zwg;dsimp only;rw[decide_eq_false (show ¬(a.Columns.length:Int) < (a.Columns.length:Int) by omega),cond_false,Zfa,List.take_length];rfl
 rintro _ rfl;dsimp only;unfold ZBM;have s:=ZH9 f.cols g.cols;have m:((ZJB a b:Int):Rat)≠0:=by
  have:((ZJB a b:Int):Rat)≠((0:Int):Rat):=fun e=>by have:=Rat.intCast_inj.1 e;omega
  simpa using this
 rw[ZUI (ZNn f g),Option.bind_some]
 change wp (bif ((0:Int) != 0)then _ else ((ZEl (ZJB a b) 1).bind _)) _
 rw[show ((0:Int) != 0)=false from rfl,cond_false,ZJe _ _ (by decide) (by omega) (by omega) (by decide) (by decide),Option.bind_some,ZLq,
  ZMz m (ZKr f g) (ZNc ⟨s.1,s.2.1⟩) (by omega),Option.bind_some,Zfa]
 rfl
end Go.Proofs
namespace Go.Proofs
open Go Eng
def ZO1:G_api_Cell:=⟨true,[]⟩
def ZOy (b:G_api_Table) (k:Int):List G_api_Cell:=if 0<=k then (match b.Columns[k.toNat]? with |some c=>c.Cells |none=>[])else List.replicate (Zw8 b).toNat ZO1
def ZIK (b:G_api_Table) (c:G_api_Column) (k:Int):G_api_Column:=⟨c.Name,c.Cells++ZOy b k⟩
def ZWJ (a b:G_api_Table) (l:List Int):G_api_Table:=⟨a.ID,a.Name,Z2v (ZIK b) a.Columns l⟩
theorem ZOO:∀n:Fin 11,ZpI [ZO1] (n.val:Int)=some (List.replicate n.val ZO1):=by decide+kernel
theorem ZPX {n:Int} (h:0<=n/\n<=10):ZpI [ZO1] n=some (List.replicate n.toNat ZO1):=by have:=ZOO ⟨n.toNat,by omega⟩;grind
theorem ZQA {l:List G_api_Cell} (h:l.length<=10000):Zrd l=some l:=by
 have e:Zpb l false=some l:=by unfold Zpb;rw[cond_false,ZpO (by grind)];rfl
 unfold Zrd;cases l with
 |nil=>rw[e];exact ZJP _
 |cons x r=>grind
theorem ZQz {l:List G_api_Column} (h:l.length<=1000):Zqj l=some l:=by
 have e:ZoS l false=some l:=by unfold ZoS;rw[cond_false,ZpO (by grind)];rfl
 unfold Zqj;cases l with
 |nil=>rw[e];exact ZJP _
 |cons x r=>grind
theorem ZW3 {a:G_api_Table} (c:ZJs a):ZGs a=some (a,a.Columns.length):=by
 have g:=c.cols;apply Zo1;unfold ZGs;rw[ZQz (by omega),Option.bind_some,Zhr];refine Zjf (ZpP ZJC a.Columns (by omega) (fun i (s:List G_api_Column×Nat)=>((a.Columns.length:Int),i,a.ID,a.Name,(0:Int),([]:Str),s.1,s.2,([]:List G_api_Column))) (fun k s=>s=(a.Columns,k))
  (Q:=fun x=>x=(a.ID,a.Name,(0:Int),([]:Str),a.Columns,a.Columns.length,([]:List G_api_Column))) (a.Columns,0) rfl ?_ ?_) ?_
 ·rintro d k _ b rfl h;unfold ZFK ZDR;dsimp only;have f:=c.col _ (List.getElem_mem b);rw[decide_eq_true (show (k:Int) < (a.Columns.length:Int) by omega),cond_true,ZhS];refine⟨ZIp b, ?_⟩;rw[Int.toNat_natCast,List.getElem?_eq_getElem b,Option.bind_some,ZhS];refine⟨decide_eq_true (Nat.le_refl _), ?_⟩;rw[ZQA (by have:=f.rows;omega),Option.bind_some,ZhS,ZhS];refine⟨ZIp b,decide_eq_true rfl, ?_⟩;rw[Option.bind_some,ZhS];refine⟨ZiH (by omega), ?_⟩;have e:a.Columns.set k ⟨a.Columns[k].Name,a.Columns[k].Cells⟩=a.Columns:=by show a.Columns.set k a.Columns[k]=a.Columns;simp_all
  simp_all
 all_goals simp_all[ZFK,ZDR,Zfa,ZG5]
theorem ZNx (l:List Int) (v:Int) (h:l.length<=1000000):ZvT l v=some (decide (v∈l)):=by
 have a:wp (ZsG big l v (l.length:Int) 0) (fun x=>(x= .brk ()/\v∉l)\/∃j:Nat,x= .ret (j:Int)/\v∈l):=by
  refine ZpP ZGe l (by omega) (fun i (_:Unit)=>(l,v,(l.length:Int),i)) (fun k _=>v∉l.take k) () (by simp) ?_ ?_
  ·rintro b k _ c g d;unfold Zyq Zud;dsimp only;rw[decide_eq_true (show (k:Int) < (l.length:Int) by omega),cond_true,ZoT c,Option.bind_some]
   by_cases hv:v=l[k]
   ·grind[Zfa]
   ·rw[show (v == l[k])=false by simp_all,cond_false,ZhS];refine⟨ZiH (by omega),d () ?_⟩;grind[List.take_succ_eq_append_getElem]
  grind[Zyq,Zud,Zfa]
 obtain⟨x,f,e⟩:=a;grind[ZvT,ZBT,Zz8,decide_eq_false]
theorem ZIC {a:G_api_Table} (b:ZJs a):ZrL a=some true:=by have e:=b.cols;rw[ZKi a (by omega) (fun c d=>by have:=(b.col c d).rows;omega),b.ok]
theorem ZPO {b:G_api_Table}:∀(a:List G_api_Column) (l:List Int) (k:Nat) (c:k < a.length),(Z2v (ZIK b) (a.take k) (l.take k)).length=k->(Z2v (ZIK b) (a.take k) (l.take k)++a.drop k)[k]? =some a[k]:=by grind
structure AlOk (a b:G_api_Table) (l:List Int):Prop where
 len:l.length=a.Columns.length
 rng:∀k∈l, -1<=k/\k < (b.Columns.length:Int)
 dif:List.Pairwise (fun x y=>0<=y->x≠y) l
theorem ZRw {a b:G_api_Table} {l:List Int} (v:ZJs a) (z:ZJs b) (J:0<=Zw8 a/\Zw8 a<=100) (A:0<=Zw8 b/\Zw8 b<=10) (w:AlOk a b l):ZxT a b l=some (ZWJ a b l,0):=by
 have O:=v.cols;have P:=z.cols;have N:=w.len;apply Zo1;unfold ZxT;rw[ZIC v,Option.bind_some,Bool.not_true,cond_false,ZIC z,Option.bind_some,Bool.not_true,cond_false,show (((l.length:Nat):Int) != (a.Columns.length:Int))=false by simp_all];unfold ZuS;rw[cond_false,Zhr];refine Zjf (ZpP ZGZ l (by omega) (fun i (_:Unit)=>(l,l,(l.length:Int),i,a,b,(0:Int),([]:Str),([]:List G_api_Column))) (fun _ _=>True) (Q:=fun x=>x= .brk (l,a,b,(0:Int),([]:Str),([]:List G_api_Column))) () trivial ?_ ?_) ?_
 ·rintro m k _ e _ y;unfold ZAv Zwe ZyE;dsimp only;have h:=w.rng _ (List.getElem_mem e);rw[decide_eq_true (show (k:Int) < (l.length:Int) by omega),cond_true,ZoT e,Option.bind_some,decide_eq_false (show ¬l[k] < -1 by omega),cond_false,decide_eq_false (show ¬l[k]>=(b.Columns.length:Int) by omega),cond_false,ZhS];exact⟨ZiH (by omega),y () trivial⟩
 ·grind[ZAv,Zwe,Zfa]
 rintro _ rfl;dsimp only;unfold ZBL;rw[Zhr];refine Zjf (ZpP ZGY l (by omega) (fun i (_:Unit)=>(l,l,(l.length:Int),i,a,b,(0:Int),([]:Str),([]:List G_api_Column))) (fun _ _=>True) (Q:=fun x=>x= .brk (l,a,b,(0:Int),([]:Str),([]:List G_api_Column))) () trivial ?_ ?_) ?_
 ·rintro m k _ e _ y;unfold ZAu Zwd ZyD;dsimp only;rw[decide_eq_true (show (k:Int) < (l.length:Int) by omega),cond_true,ZoT e,Option.bind_some];have K:inK .i64 ((k:Int)+1)=true:=ZiH (by omega)
  by_cases h0:0<=l[k]
  ·have u:l[k]∉l.take k:=by
    intro M;obtain⟨j,S,H⟩:=List.mem_iff_getElem.1 M;have E:j < k:=by grind
    rw[List.getElem_take]at H;exact List.pairwise_iff_getElem.1 w.dif j k (by omega) e E h0 H
   rw[decide_eq_true (show l[k]>=0 from h0),cond_true,ZhS];refine⟨Zpc ⟨by omega,by omega,by omega⟩, ?_⟩;rw[Int.toNat_natCast,ZNx _ _ (by grind),Option.bind_some,decide_eq_false u,cond_false,ZhS];simp_all
  simp_all[decide_eq_false]
 ·grind[ZAu,Zwd,Zfa]
 rintro _ rfl;dsimp only;unfold ZBK;rw[ZI5,Option.bind_some,ZI5,Option.bind_some,ZhS];refine⟨ZiH (by omega), ?_⟩;rw[decide_eq_false (by omega),cond_false,ZW3 v,Option.bind_some];dsimp only;rw[Zhr];have t:∀k,k<=a.Columns.length->(List.zipWith (ZIK b) (a.Columns.take k) (l.take k)).length=k:=fun k e=>by simp_all
 refine Zjf (ZpP ZGX l (by omega) (fun i (B:List G_api_Column)=>(l,(l.length:Int),i,b,(0:Int),([]:Str),a.ID,a.Name,([]:List G_api_Column),B,a.Columns.length)) (fun k B=>B=List.zipWith (ZIK b) (a.Columns.take k) (l.take k)++a.Columns.drop k)
  (Q:=fun x=>x=((0:Int),([]:Str),a.ID,a.Name,([]:List G_api_Column),List.zipWith (ZIK b) a.Columns l,a.Columns.length)) a.Columns (by simp) ?_ ?_) ?_
 ·rintro m k _ e rfl y;unfold ZAt Zwc;dsimp only;have d:k < a.Columns.length:=by omega
  have h:=w.rng _ (List.getElem_mem e);have G:(List.zipWith (ZIK b) (a.Columns.take k) (l.take k)++a.Columns.drop k).length=a.Columns.length:=by grind
  rw[decide_eq_true (show (k:Int) < (l.length:Int) by omega),cond_true,ZoT e,Option.bind_some,ZI5,Option.bind_some]
  change wp ((ZpI [ZO1] (Zw8 b)).bind _) _
  rw[ZPX A,Option.bind_some];have R:=v.col _ (List.getElem_mem d);have r:∀c,c=ZOy b l[k]->c.length<=1000->wp (ZuR (fun C F i b L s D n o g f=>m (C,F,i,b,L,s,D,n,o,g,f)) (k:Int) c l (l.length:Int) (k:Int) b 0 [] a.ID a.Name [] (List.zipWith (ZIK b) (a.Columns.take k) (l.take k)++a.Columns.drop k) a.Columns.length) (fun x=>x=((0:Int),([]:Str),a.ID,a.Name,([]:List G_api_Column),List.zipWith (ZIK b) a.Columns l,a.Columns.length)):=by
   rintro c q I;unfold ZuR;rw[ZhS];refine⟨Zr4 ⟨by omega,by omega⟩, ?_⟩;rw[Int.toNat_natCast,ZPO _ _ _ d (t k (by omega)),Option.bind_some,ZhS,ZhS,ZhS,ZhS];refine⟨decide_eq_true d,ZpO (by have:=R.rows;omega),Zr4 ⟨by omega,by omega⟩,decide_eq_true ⟨rfl,d⟩, ?_⟩;rw[Option.bind_some,ZhS];refine⟨ZiH (by omega),y _ ?_⟩;rw[List.set_append_right _ _ (by grind),t k (by omega),Nat.sub_self,List.drop_eq_getElem_cons d,List.set_cons_zero,List.take_succ_eq_append_getElem d,List.take_succ_eq_append_getElem e,
    List.zipWith_append (by simp_all)]
   simp[ZIK,q]
  by_cases h0:0<=l[k]
  ·have p:(l[k]).toNat < b.Columns.length:=by omega
   rw[decide_eq_true (show l[k]>=0 from h0),cond_true,Zin h0 p,Option.bind_some];refine r _ ?_ (by have:=(z.col _ (List.getElem_mem p)).rows;omega)
   grind[ZOy]
  grind[ZOy]
 ·grind[ZAt,Zwc,Zfa]
 rintro _ rfl;dsimp only;unfold ZBJ;exact Zfa.2 rfl
end Go.Proofs
namespace Go.Proofs
open Go Eng
def auX:G_api_Column:=⟨[99,105,116,121],[⟨false,[120]⟩]⟩
def auY:G_api_Column:=⟨[110,97,109,101],[⟨false,[121]⟩]⟩
def auA:G_api_Table:=⟨1,[],[auX,auY]⟩
def auB:G_api_Table:=⟨2,[],[auY,auX]⟩
theorem ZI0 (s:Str):ZxO [s]=[s]:=ZI1 (List.pairwise_singleton _ _) (by simp) (fun x=>Iff.rfl)
theorem ZXP:ZDY auX.Name=[[99,105,116,121]]:=by
 have e:ZGS (auX.Name++[32]) []=[[99,105,116,121]]:=by decide+kernel
 unfold ZDY;rw[e,ZI0]
theorem ZXO:ZDY auY.Name=[[110,97,109,101]]:=by
 have e:ZGS (auY.Name++[32]) []=[[110,97,109,101]]:=by decide+kernel
 unfold ZDY;rw[e,ZI0]
theorem ZXR:Zw9 auX.Cells=[[120]]:=by
 have e:ZH8 auX.Cells=[[120]]:=by decide+kernel
 unfold Zw9;rw[e,ZI0]
theorem ZXQ:Zw9 auY.Cells=[[121]]:=by
 have e:ZH8 auY.Cells=[[121]]:=by decide+kernel
 unfold Zw9;rw[e,ZI0]
theorem ZPc {a b:G_api_Column} (d:ZIZ (Zw9 a.Cells) (Zw9 b.Cells)=0) (c:ZIZ (ZDY a.Name) (ZDY b.Name)=0):ZJN a b=0:=by
 have z:∀x y:List Str,ZIZ x y=0->ZDa x y=0:=fun x y h=>by simp_all[ZDa]
 grind[ZJN,ofQ]
theorem Z0N:ZJN auX auX=1:=by grind[ZMJ,ZXP,ZXR]
theorem Z0L:ZJN auY auY=1:=by grind[ZMJ,ZXO,ZXQ]
theorem ZXS:ZJN auX auY=0:=ZPc (by rw[ZXR,ZXQ];decide) (by rw[ZXP,ZXO];decide)
theorem Z0M:ZJN auY auX=0:=by rw[ZQx,ZXS]
theorem ZSR:ZM2 auA auB=[[0,1],[1,0]]:=by show [[ZJN auX auY,ZJN auX auX],[ZJN auY auY,ZJN auY auX]]=_;rw[Z0N,Z0L,ZXS,Z0M]
theorem ZST:ZJu auX:=⟨by decide,by decide,fun x a=>by grind[auX]⟩
theorem ZSS:ZJu auY:=⟨by decide,by decide,fun x a=>by grind[auY]⟩
theorem ZSV:ZJs auA:=⟨by kernel_rfl,by decide,fun c a=>by
 grind[auA,ZST,ZSS]⟩
theorem ZSU:ZJs auB:=⟨by kernel_rfl,by decide,fun c a=>by
 grind[auB,ZSS,ZST]⟩
theorem ZQH:ZH3 [[0,1],[1,0]] 0=[1,0]/\Zpx [[0,1],[1,0]] 0=2:=by decide+kernel
theorem ZSe:ZGl auA auB=1:=by unfold ZGl;rw[ZSR,ZQH.2];decide+kernel
set_option maxRecDepth 100000 in
theorem ZL0:Zq8=some true:=by unfold Zq8;show (chk true (chk true ((Zqr auA auB).bind _)))=_;show ((Zqr auA auB).bind _)=_;rw[ZOz ZSV ZSU,Z2w,ZSR,ZQH.1,ZSe];show ((ZxT auA auB [1,0]).bind _)=_;rw[ZRw ZSV ZSU (by decide) (by decide) ⟨by decide,by decide,by decide⟩,Z2w];dsimp only;rw[show ((0:Int) == 0)=true from rfl,cond_true,cond_true,show Zp2 [1,0] [1,0]=some true by decide+kernel,Z2w,cond_true,ZQg,Z2w,ZE7 _ _ (ZKu.wq (by decide)) (ZKu.wq (by decide)),Z2w,decide_eq_true rfl,cond_true,ZLL,Z2w];unfold Zpw;decide+kernel
end Go.Proofs
