/- Plain laws over the specs, part 4. -/
import Derived.Test.YtpddhnpfnefdeaaGreatDoorQtM3
import Derived.Test.YtpddhnpfnefdeaaGreatDoorQtM0
import Derived.Test.YtpddhnpfnefdeaaGreatDoorQtM2
import Derived.Test.YtpddhnpfnefdeaaGreatDoorQtM1
import Derived.Test.YtpddhnpfnefdeaaGreatDoorQ
import Derived.Test.YtpddhnpfnefdeaaGreatDoorE4
import Derived.Test.YtpddhnpfnefdeaaGreatDoorQtU
set_option linter.all false
open Bool renaming not_true->ZXi, not_false->ZSL
open Int renaming toNat_natCast->ZXj
open List renaming length_singleton->ZXq, getElem_mem->ZXm, length_append->ZXn, mem_append->ZXs, length_take->ZXr, mem_singleton->ZXv, getElem?_eq_getElem->ZXl, take_succ_eq_append_getElem->ZXy, take_length->ZXw, mem_of_mem_take->ZXu, mem_map->ZXt, take_of_length_le->ZXx, length_drop->ZXo, length_map->ZXp, getElem?_cons_zero->ZXk
open Nat renaming le_refl->ZXz
open Option renaming bind_some->ZXA, some.inj->ZXB
namespace Go.Proofs
open Go Eng
structure ZHG (t:G_api_Table):Prop where
 id:0<=t.ID/\t.ID<=1000
 name:t.Name∈ZFp
 cols:t.Columns.length<=3
 rows:∃n:Nat,n<=6/\∀c∈t.Columns,ZPi n c
theorem ZN9 {x:G_api_Cell} (h:ZHP x):ZGK x=true:=by
 unfold ZGK;rw[(ZHL h.1).1,Bool.true_and];cases hn:x.Null with
 |false=>rfl
 |true=>rw[h.2 hn];rfl
theorem ZPt {t:G_api_Table} (h:ZHG t):ZEU t=true:=by
 obtain⟨n,m,g⟩:=h.rows;have d:=h.cols;have e:=h.id;unfold ZEU;have i:t.Columns≠[]->ZwR t=(n:Int):=fun b=>by
  unfold ZwR;cases hcs:t.Columns with
  |nil=>exact absurd hcs b
  |cons c l=>rw[<-(g c (by rw[hcs];simp)).2.1]
 have j:0<=ZwR t/\ZwR t<=6:=by
  by_cases b:t.Columns=[]
  ·unfold ZwR;rw[b];decide
  ·rw[i b];omega
 rw[decide_eq_true e.1,decide_eq_true (show t.ID<=1073741824 by omega),(ZHL h.name).1,decide_eq_true (show (t.Columns.length:Int)<=64 by omega),decide_eq_true (show ZwR t<=4096 by omega)];simp only[Bool.true_and,List.all_eq_true];intro c a;have f:=g c a;unfold ZNn;rw[(ZHL f.1).1,i (List.ne_nil_of_mem a),f.2.1,Bool.true_and,beq_self_eq_true,Bool.true_and,List.all_eq_true];exact fun x k=>ZN9 (f.2.2 x k)
theorem ZLj {t:G_api_Table} (h:ZHG t):ZHA t:=by obtain⟨n,e,b⟩:=h.rows;refine⟨by have:=(ZHL h.name).2;omega,fun c a=>⟨by have:=(ZHL (b c a).1).2;omega,fun x d=>by have:=(ZHL ((b c a).2.2 x d).1).2;omega⟩⟩
theorem ZH1 {t:G_api_Table} (h:ZHG t):Zpf t=some true:=by have:=h.cols;rw[ZJw t (ZLj h) (by omega),ZPt h]
theorem ZNt {d:ZnC} (B:Ztf d) {f:Int} (l:0<=f/\f<=1000):wp (Zu7 d f) (fun r=>(ZHG r.1/\r.1.ID=f)/\Ztf r.2):=by
 unfold Zu7;rw[ZnD];refine ZnK (ZHi B (by decide) (by decide)) ?_;rintro⟨w,H⟩ ⟨b,u⟩;dsimp only at b u|-
 have p:w∈ZFp:=ZLk (by decide+kernel) b;rw[ZnD];refine ZnK (ZAy u (n:=7) (by omega)) ?_;rintro⟨q,G⟩ ⟨C,i⟩;dsimp only at C i|-
 obtain⟨n,rfl⟩:∃n:Nat,q=(n:Int):=⟨q.toNat,by omega⟩;rw[ZnD];refine ZnK (ZAy i (n:=3) (by omega)) ?_;rintro⟨q,D⟩ ⟨y,h⟩;dsimp only at y h|-
 obtain⟨m,F⟩:∃m:Nat,1+q=(m:Int):=⟨(1+q).toNat,by omega⟩;rw[F,ZnF,ZnD];refine⟨ZnH (by omega),ZnK (Zoh ZEK (fun s:Nat×ZnC×List G_api_Column=>((n:Int),(s.1:Int),s.2.1,(0:Int),([]:Str),f,w,([]:List G_api_Column),s.2.2))
  (fun s=>Ztf s.2.1/\s.2.2.length+s.1=m/\∀c∈s.2.2,ZPi n c) (fun s=>s.1)
  (Q:=fun x=>∃d e,x=(d,(0:Int),([]:Str),f,w,([]:List G_api_Column),e)/\Ztf d/\e.length<=3/\∀c∈e,ZPi n c) (m,D,[]) ⟨h,by simp,fun c g=>absurd g (by simp)⟩ (by dsimp only;omega) ?_) ?_⟩
 ·rintro E ⟨k,d,e⟩ ⟨t,v,o⟩ A;dsimp only at t v o A;unfold ZBB Zx0;dsimp only
  by_cases hk:0 < k
  ·rw[decide_eq_true (show (k:Int) > 0 by omega),cond_true,ZnD];refine ZnK (ZJJ t n (by omega)) ?_;rintro⟨c,z⟩ ⟨g,a⟩;dsimp only at g a|-
   rw[ZnF,ZnF,show (k:Int) - 1=((k - 1:Nat):Int) by omega];refine⟨Ztn (by rw[ZXq];omega),ZnH (by omega),A (k - 1,z,e++[c]) ⟨a,by dsimp only;rw[ZXn,ZXq];omega,fun x j=> ?_⟩ (by dsimp only;omega)⟩;rcases ZXs.1 j with j |j
   ·exact o x j
   ·rw[ZXv.1 j];exact g
  ·rw[decide_eq_false (show ¬(k:Int) > 0 by omega),cond_false,ZnA];exact⟨d,e,rfl,t,by omega,o⟩
 ·rintro _ ⟨d,e,rfl,t,v,o⟩;unfold Zzq ZvX;dsimp only;rw[ZnD];refine ZnK (ZAy t (n:=15) (by omega)) ?_;rintro⟨q,z⟩ ⟨_,a⟩;dsimp only at a|-
  rw[ZnP];refine⟨fun _=> ?_,fun _=> ?_⟩
  ·rw[ZnA];exact⟨⟨⟨l,p,by simp,0,by omega,fun c g=>absurd g (by simp)⟩,rfl⟩,a⟩
  ·rw[ZnA];exact⟨⟨⟨l,p,v,n,by omega,o⟩,rfl⟩,a⟩
theorem ZMH {t:G_api_Table} (h:ZHG t):ZtR t=some t:=by
 obtain⟨n,j,d⟩:=h.rows;have g:=h.cols;refine ZpD ?_;unfold ZtR;rw[ZnD];refine ZnK (ZwT ZEf t.Columns (by omega) (fun i (a:List G_api_Column)=>(t.Columns,(t.Columns.length:Int),i,(0:Int),([]:Str),t.ID,t.Name,([]:List G_api_Column),a)) (fun k a=>a=t.Columns.take k)
  (Q:=fun x=>x=((0:Int),([]:Str),t.ID,t.Name,([]:List G_api_Column),t.Columns)) [] rfl ?_ ?_) ?_
 ·rintro b k a c rfl f;unfold Zw8 Zty;dsimp only;have e:=d _ (ZXm c);rw[decide_eq_true (show (k:Int) < (t.Columns.length:Int) by omega),cond_true,Zqj c,ZXA,ZnF,ZnF,ZnF];refine⟨Ztn (by rw[e.2.1];omega),Ztn (by rw[ZXr,ZXq];omega),ZnH (by omega),f _ (ZXy c).symm⟩
 ·rintro b a rfl;unfold Zw8 Zty;dsimp only;rw[decide_eq_false (show ¬(t.Columns.length:Int) < (t.Columns.length:Int) by omega),cond_false,ZnA,ZXw]
 ·rintro _ rfl;unfold Zyy;dsimp only;rw[ZnA]
theorem ZLt {t:G_api_Table} (h:ZHG t) {l:List Int} (v:l.length<=3) (q:∀k∈l,0<=k/\k < (t.Columns.length:Int)):wp (ZuS t l) (fun r=>ZHG r.1/\r.1.ID=t.ID):=by
 obtain⟨n,s,g⟩:=h.rows;have f:=h.cols;unfold ZuS;rw[ZH1 h,ZXA,ZXi,cond_false,ZnD];refine ZnK (ZwT ZDw l (by omega) (fun i (a:List G_api_Column)=>(l,l,(l.length:Int),i,t,(0:Int),([]:Str),t.ID,t.Name,([]:List G_api_Column),a)) (fun k a=>a.length=k/\∀c∈a,ZPi n c)
  (Q:=fun x=>∃a,x= .brk (l,(0:Int),([]:Str),t.ID,t.Name,([]:List G_api_Column),a)/\a.length<=3/\∀c∈a,ZPi n c) [] ⟨rfl,fun c g=>absurd g (by simp)⟩ ?_ ?_) ?_
 ·rintro m k a d ⟨o,e⟩ u;unfold Zvs ZrQ Zs5;dsimp only;have p:=q _ (ZXm d);have j:(l[k]).toNat < t.Columns.length:=by omega
  rw[decide_eq_true (show (k:Int) < (l.length:Int) by omega),cond_true,Zqj d,ZXA,decide_eq_false (show ¬l[k] < 0 by omega),cond_false,decide_eq_false (show ¬l[k]>=(t.Columns.length:Int) by omega),cond_false,ZhP p.1 j,ZXA,ZnF,ZnF];refine⟨Ztn (by rw[ZXq];omega),ZnH (by omega),u _ ⟨by rw[ZXn,ZXq];omega,fun c b=> ?_⟩⟩;rcases ZXs.1 b with b |b
  ·exact e c b
  ·rw[ZXv.1 b];exact g _ (ZXm _)
 ·rintro m a ⟨o,e⟩;unfold Zvs ZrQ;dsimp only;rw[decide_eq_false (show ¬(l.length:Int) < (l.length:Int) by omega),cond_false,ZnA];exact⟨a,rfl,by omega,e⟩
 ·rintro _ ⟨a,rfl,o,e⟩;dsimp only;unfold ZwH;rw[decide_eq_false (show ¬(l.length:Int) > 64 by omega),cond_false,ZnA];exact⟨⟨h.id,h.name,o,n,s,e⟩,rfl⟩
theorem ZMa {t:G_api_Table} (h:ZHG t) {l:List Int} (J:l.length<=6) (H:∀k∈l,0<=k/\k < ZwR t):wp (ZvN t l) (fun r=>ZHG r.1/\r.1.ID=t.ID):=by
 obtain⟨n,M,f⟩:=h.rows;have z:=h.cols;unfold ZvN;rw[ZH1 h,ZXA,ZXi,cond_false,ZnD];refine ZnK (ZwT ZDH l (by omega) (fun i (_:Unit)=>(l,l,(l.length:Int),i,t,(0:Int),([]:Str),([]:List G_api_Column))) (fun _ _=>True)
  (Q:=fun x=>x= .brk (l,t,(0:Int),([]:Str),([]:List G_api_Column))) () trivial ?_ ?_) ?_
 ·rintro g k _ v _ B;unfold Zwa Zsv ZtH;dsimp only;have L:=H _ (ZXm v);rw[decide_eq_true (show (k:Int) < (l.length:Int) by omega),cond_true,Zqj v,ZXA,decide_eq_false (show ¬l[k] < 0 by omega),cond_false,ZKV,ZXA,decide_eq_false (show ¬l[k]>=ZwR t by omega),cond_false,ZnF];exact⟨ZnH (by omega),B () trivial⟩
 ·rintro g _ _;unfold Zwa Zsv;dsimp only;rw[decide_eq_false (show ¬(l.length:Int) < (l.length:Int) by omega),cond_false,ZnA]
 ·rintro _ rfl;dsimp only;unfold Zxf;rw[decide_eq_false (show ¬(l.length:Int) > 4096 by omega),cond_false,ZnD];have C:∀c∈t.Columns,∀k∈l,∃u:k.toNat < c.Cells.length,0<=k:=fun c b k A=>by
   have:=H k A;have K:ZwR t=(n:Int):=by
    unfold ZwR;cases hcs:t.Columns with
    |nil=>rw[hcs]at b;cases b
    |cons c l=>rw[<-(f c (by rw[hcs];simp)).2.1]
   have m:=(f c b).2.1;exact⟨by omega,this.1⟩
  refine ZnK (ZwT ZDG t.Columns (by omega) (fun i (a:List G_api_Column)=>(l,t.Columns,(t.Columns.length:Int),i,(0:Int),([]:Str),t.ID,t.Name,([]:List G_api_Column),a)) (fun k a=>a.length=k/\∀c∈a,ZPi l.length c)
   (Q:=fun x=>∃a,x=((0:Int),([]:Str),t.ID,t.Name,([]:List G_api_Column),a)/\a.length<=3/\∀c∈a,ZPi l.length c) [] ⟨rfl,fun c f=>absurd f (by simp)⟩ ?_ ?_) ?_
  ·rintro g i a hi ⟨D,m⟩ B;unfold Zv9 Zsu;dsimp only;obtain⟨c,e⟩:∃c,c=t.Columns[i]:=⟨_,rfl⟩;have b:c∈t.Columns:=e▸ZXm hi;have G:=f c b;rw[decide_eq_true (show (i:Int) < (t.Columns.length:Int) by omega),cond_true,Zqj hi,ZXA,<-e,ZnD];refine ZnK (ZwT ZDF l (by omega) (fun j (d:List G_api_Cell)=>(l,t.Columns,(t.Columns.length:Int),(i:Int),l,(l.length:Int),j,(0:Int),([]:Str),t.ID,t.Name,c,c.Name,([]:List G_api_Column),a,d)) (fun k d=>d.length=k/\∀x∈d,ZHP x)
    (Q:=fun y=>∃d,y=(l,t.Columns,(t.Columns.length:Int),(i:Int),(0:Int),([]:Str),t.ID,t.Name,c.Name,([]:List G_api_Column),a,d)/\d.length=l.length/\∀x∈d,ZHP x) [] ⟨rfl,fun c f=>absurd f (by simp)⟩ ?_ ?_) ?_
   ·rintro s j d F ⟨w,p⟩ E;unfold Zv8 Zst;dsimp only;obtain⟨u,I⟩:=C c b _ (ZXm F);rw[decide_eq_true (show (j:Int) < (l.length:Int) by omega),cond_true,Zqj F,ZXA,ZhP I u,ZXA,ZnF,ZnF];refine⟨Ztn (by rw[ZXq];omega),ZnH (by omega),E _ ⟨by rw[ZXn,ZXq];omega,fun x o=> ?_⟩⟩;rcases ZXs.1 o with o |o
    ·exact p x o
    ·rw[ZXv.1 o];exact G.2.2 _ (ZXm _)
   ·rintro s d ⟨w,p⟩;unfold Zv8 Zst;dsimp only;rw[decide_eq_false (show ¬(l.length:Int) < (l.length:Int) by omega),cond_false,ZnA];exact⟨d,rfl,w,p⟩
   ·rintro _ ⟨d,rfl,w,p⟩;unfold Zxe;dsimp only;rw[ZnF,ZnF];refine⟨Ztn (by rw[ZXq];omega),ZnH (by omega),B _ ⟨by rw[ZXn,ZXq];omega,fun y q=> ?_⟩⟩;rcases ZXs.1 q with q |q
    ·exact m y q
    ·rw[ZXv.1 q];exact⟨G.1,w,p⟩
  ·rintro g a ⟨D,m⟩;unfold Zv9 Zsu;dsimp only;rw[decide_eq_false (show ¬(t.Columns.length:Int) < (t.Columns.length:Int) by omega),cond_false,ZnA];exact⟨a,rfl,by omega,m⟩
  ·rintro _ ⟨a,rfl,D,m⟩;dsimp only;unfold Zxd;rw[ZnA];exact⟨⟨h.id,h.name,D,l.length,J,m⟩,rfl⟩
end Go.Proofs
namespace Go.Proofs
open Go Eng
structure OpD (o:ZnQ):Prop where
 cols:o.Columns.length<=3
 text:o.Text.length<=1024
def ZLX (t:G_api_Table) (k:Int):Prop:=0<=k/\k < (t.Columns.length:Int)
def ZJl (t:G_api_Table) (o:ZnQ):Prop:=((o.Kind=1\/o.Kind=2\/o.Kind=5)->ZLX t o.Column)/\(o.Kind=3->∀k∈o.Columns,ZLX t k)
theorem ZTs {t:G_api_Table} {o:ZnQ} (v:OpD o):wp (Zyd t o) (fun b=>b=true->ZJl t o):=by
 have A:=v.cols;have u:∀c:Bool,(c=true->ZLX t o.Column)->wp (ZsF c t o) (fun b=>b=true->ZJl t o):=by
  intro c s;unfold ZsF ZsE;have r:∀q:Bool,(o.Kind≠1)->(q=true->o.Kind=2\/o.Kind=5)->(o.Kind=2\/o.Kind=5->q=true)->wp (ZsD c o.Kind q t o) (fun b=>b=true->ZJl t o):=by
   intro q d y p;unfold ZsD ZsC;cases q with
   |true=>
    rw[cond_true];cases c with
    |false=>rw[cond_false,ZnA];exact fun h=>by cases h
    |true=>
     rw[cond_true];have m:=y rfl;have a:∀b:Bool,b=true->ZJl t o:=fun b _=>⟨fun _=>s rfl,fun f=>by omega⟩
     rw[ZnP];exact⟨fun _=>by rw[ZnA];exact a _,fun _=>by rw[ZnA];exact fun h=>by cases h⟩
   |false=>
    have B:¬(o.Kind=2\/o.Kind=5):=fun h=>by have:=p h;cases this
    rw[cond_false]
    by_cases f:o.Kind=3
    ·rw[show (o.Kind == 3)=true by rw[f];rfl,cond_true,ZnD];refine ZnK (ZwT ZEy o.Columns (by omega) (fun i (_:Unit)=>(o.Columns,(o.Columns.length:Int),i,t,o)) (fun k _=>∀j (h:j < o.Columns.length),j < k->ZLX t o.Columns[j])
      (Q:=fun x=>x= .ret false\/(x= .brk o/\∀k∈o.Columns,ZLX t k)) () (fun j _ h=>absurd h (Nat.not_lt_zero _)) ?_ ?_) ?_
     ·rintro n k _ m g z;unfold ZxF ZtP ZvE;dsimp only;rw[decide_eq_true (show (k:Int) < (o.Columns.length:Int) by omega),cond_true,Zqj m,ZXA]
      by_cases hn:o.Columns[k] < 0
      ·rw[decide_eq_true hn,cond_true,cond_true,ZnA];exact .inl rfl
      ·rw[decide_eq_false hn,cond_false]
       by_cases hg:o.Columns[k]>=(t.Columns.length:Int)
       ·rw[decide_eq_true hg,cond_true,ZnA];exact .inl rfl
       ·rw[decide_eq_false hg,cond_false,ZnF];refine⟨ZnH (by omega),z () fun j l w=> ?_⟩
        by_cases e:j=k
        ·subst e;exact⟨by omega,by omega⟩
        ·exact g j l (by omega)
     ·rintro n _ g;unfold ZxF ZtP;dsimp only;rw[decide_eq_false (show ¬(o.Columns.length:Int) < (o.Columns.length:Int) by omega),cond_false,ZnA];refine .inr ⟨rfl,fun k m=> ?_⟩;obtain⟨j,l,rfl⟩:=List.getElem_of_mem m;exact g j l l
     ·rintro _ (rfl |⟨rfl,g⟩)
      ·dsimp only;rw[ZnA];exact fun h=>by cases h
      ·dsimp only;unfold Zy6 ZsB;have a:∀b:Bool,b=true->ZJl t o:=fun b _=>⟨fun h=>by omega,fun _=>g⟩
       rw[ZnP];refine⟨fun _=> ?_,fun _=>by rw[ZnA];exact a _⟩;rw[ZnP];exact⟨fun _=>by rw[ZnA];exact a _,fun _=>by rw[ZnA];exact a _⟩
    ·rw[beq_eq_false_iff_ne.2 f,cond_false];unfold Zq2;have a:∀b:Bool,b=true->ZJl t o:=fun b _=>⟨fun h=>by omega,fun h=>absurd h f⟩
     rw[ZnP];refine⟨fun _=> ?_,fun _=>by rw[ZnA];exact a _⟩;rw[ZnP];refine⟨fun _=> ?_,fun _=>by rw[ZnA];exact a _⟩;rw[ZnP];exact⟨fun _=>by rw[ZnA];exact a _,fun _=>by rw[ZnA];exact a _⟩
  by_cases d:o.Kind=1
  ·rw[show (o.Kind == 1)=true by rw[d];rfl,cond_true];cases c with
   |false=>rw[cond_false,ZnA];exact fun h=>by cases h
   |true=>
    rw[cond_true];have a:∀b:Bool,b=true->ZJl t o:=fun b _=>⟨fun _=>s rfl,fun f=>by omega⟩
    rw[ZnP];exact⟨fun _=>by rw[ZnA];exact a _,fun _=>by rw[ZnA];exact a _⟩
  ·rw[beq_eq_false_iff_ne.2 d,cond_false]
   by_cases h2:o.Kind=2
   ·rw[show (o.Kind == 2)=true by rw[h2];rfl,cond_true];exact r true d (fun _=> .inl h2) (fun _=>rfl)
   ·rw[beq_eq_false_iff_ne.2 h2,cond_false]
    by_cases h5:o.Kind=5
    ·rw[show (o.Kind == 5)=true by rw[h5];rfl];exact r true d (fun _=> .inr h5) (fun _=>rfl)
    ·rw[beq_eq_false_iff_ne.2 h5];exact r false d (fun h=>by cases h) (fun h=>h.elim (fun h=>absurd h h2) fun h=>absurd h h5)
 unfold Zyd
 by_cases h0:o.Column>=0
 ·rw[decide_eq_true h0,cond_true];exact u _ fun h=>⟨h0,of_decide_eq_true h⟩
 ·rw[decide_eq_false h0,cond_false];exact u false fun h=>by cases h
theorem ZN3 {t:G_api_Table} (h:ZHG t) {x y:Int} (f:0<=x/\x < ZwR t) (g:0<=y/\y < ZwR t):wp (Zwk t x y) (fun _=>True):=by
 obtain⟨n,o,e⟩:=h.rows;have b:=h.cols;unfold Zwk;rw[ZnD];refine ZnK (ZwT ZDS t.Columns (by omega) (fun i (_:Unit)=>(x,y,t.Columns,(t.Columns.length:Int),i)) (fun _ _=>True) (Q:=fun _=>True) () trivial ?_ ?_) ?_
 ·rintro d k _ a _ j;unfold ZwB Zs1;dsimp only;have p:ZwR t=(n:Int):=by
   unfold ZwR;cases hcs:t.Columns with
   |nil=>rw[hcs]at a;simp at a
   |cons c l=>rw[<-(e c (by rw[hcs];simp)).2.1]
  have m:=(e _ (ZXm a)).2.1;rw[decide_eq_true (show (k:Int) < (t.Columns.length:Int) by omega),cond_true,Zqj a,ZXA,ZhP f.1 (show x.toNat < t.Columns[k].Cells.length by omega),ZXA,ZhP g.1 (show y.toNat < t.Columns[k].Cells.length by omega),ZXA,ZnP];refine⟨fun _=>by rw[ZnA];trivial,fun _=> ?_⟩;rw[ZnF];exact⟨ZnH (by omega),j () trivial⟩
 ·rintro d _ _;unfold ZwB Zs1;dsimp only;rw[decide_eq_false (show ¬(t.Columns.length:Int) < (t.Columns.length:Int) by omega),cond_false,ZnA];trivial
 ·rintro(_ |_) _
  ·dsimp only;unfold ZxE;rw[ZnA];trivial
  ·dsimp only;rw[ZnA];trivial
theorem ZQo (a b:G_api_Cell):wp (ZrR a b) (fun _=>True):=by
 unfold ZrR;have j:∀q,wp (Zph q a b) (fun _=>True):=by intro q;unfold Zph;cases q<;>cases a.Null<;>cases b.Null<;>cases (Op.bytesLess a.Text b.Text)<;>cases (a.Text == b.Text)<;>exact⟨_,rfl,trivial⟩
 cases a.Null with
 |true=>rw[cond_true];exact j _
 |false=>rw[cond_false];exact j _
theorem ZPF {t:G_api_Table} (h:ZHG t) {o:ZnQ} (hdo:ZJl t o) (h3:o.Kind≠3):wp (Zw7 t o) (fun r=>r.length<=6/\∀k∈r,0<=k/\k < ZwR t):=by
 obtain⟨n,hn,hc⟩:=h.rows;have hcols:=h.cols;obtain⟨m,hm,hm6⟩:∃m:Nat,ZwR t=(m:Int)/\m<=6:=by
  unfold ZwR;cases hcs:t.Columns with
  |nil=>exact⟨0,rfl,by omega⟩
  |cons c l=>exact⟨n,by rw[<-(hc c (by rw[hcs];simp)).2.1],hn⟩
 have hcol:∀k,ZLX t k->∃hk:k.toNat < t.Columns.length,0<=k/\(t.Columns[k.toNat]).Cells.length=m:=fun k hk=>by
  have hlt:k.toNat < t.Columns.length:=by have:=hk.1;have:=hk.2;omega
  refine⟨hlt,hk.1, ?_⟩;have h1:=(hc _ (ZXm hlt)).2.1;have h2:ZwR t=(n:Int):=by
   unfold ZwR;cases hcs:t.Columns with
   |nil=>rw[hcs]at hlt;simp at hlt
   |cons c l=>rw[<-(hc c (by rw[hcs];simp)).2.1]
  omega
 unfold Zw7;rw[ZKV,ZXA,ZnD,hm];refine ZnK (ZvD ZEe m (by omega) (fun i (out:List Int)=>((m:Int),i,t,o,out)) (fun k out=>out.length<=k/\∀x∈out,0<=x/\x < (m:Int))
  (Q:=fun r=>r.length<=6/\∀k∈r,0<=k/\k < (m:Int)) [] ⟨ZXz _,fun c hc=>absurd hc (by simp)⟩ ?_ ?_) ?_
 ·rintro rec r out hr ⟨h1,h2⟩ ih;have put:∀(a:Nat) (keep:Bool),a<=out.length->wp (Zqv (fun t14 r_ t o out=>rec (t14,r_,t,o,out)) (r:Int) (a:Int) (m:Int) (r:Int) keep t o out) (fun r=>r.length<=6/\∀k∈r,0<=k/\k < (m:Int)):=by
   intro a keep ha;unfold Zqv ZuK;cases keep with
   |false=>rw[cond_false,ZnF];exact⟨ZnH (by omega),ih out ⟨by omega,h2⟩⟩
   |true=>
    rw[cond_true,ZXj,ZXj,Nat.sub_zero,List.drop_zero,ZXx (l:=out.drop a) (by rw[ZXo];omega)];simp only[ZnF];refine⟨Zou (by omega),Ztn (by rw[ZXr];omega),Ztn (by rw[ZXr,ZXq];omega),Zou (by omega),Ztn (by rw[ZXn,ZXr,ZXo,ZXq];omega),ZnH (by omega),ih _ ⟨?_,fun x hx=> ?_⟩⟩
    ·rw[ZXn,ZXn,ZXr,ZXo,ZXq];omega
    ·rcases ZXs.1 hx with hx |hx
     ·rcases ZXs.1 hx with hx |hx
      ·exact h2 x (ZXu hx)
      ·rw[ZXv.1 hx];omega
     ·exact h2 x (List.mem_of_mem_drop hx)
  unfold Zw6 Ztx Zqw Zyx Zyw;dsimp only;rw[decide_eq_true (show (r:Int) < (m:Int) by omega),cond_true]
  by_cases k1:o.Kind=1
  ·obtain⟨hk,h0,hlen⟩:=hcol _ (hdo.1 (.inl k1));rw[show (o.Kind == 1)=true by rw[k1];rfl,cond_true,ZhP h0 hk,ZXA,Zqj (show r < (t.Columns[o.Column.toNat]).Cells.length by omega),ZXA,ZnP];exact⟨fun _=>put out.length _ (ZXz _),fun _=>put out.length _ (ZXz _)⟩
  rw[beq_eq_false_iff_ne.2 k1,cond_false]
  by_cases k2:o.Kind=2
  ·obtain⟨hk,h0,hlen⟩:=hcol _ (hdo.1 (.inr (.inl k2)));rw[show (o.Kind == 2)=true by rw[k2];rfl,cond_true,ZhP h0 hk,ZXA,Zqj (show r < (t.Columns[o.Column.toNat]).Cells.length by omega),ZXA];exact put out.length _ (ZXz _)
  rw[beq_eq_false_iff_ne.2 k2,cond_false]
  by_cases k4:o.Kind=4
  ·rw[show (o.Kind == 4)=true by rw[k4];rfl,cond_true,ZnD];refine ZnK (ZwT ZEd out (by omega) (fun i (keep:Bool)=>((r:Int),(out.length:Int),keep,(m:Int),(r:Int),(out.length:Int),i,t,o,out)) (fun _ _=>True) (Q:=fun x=>∃keep,x=((r:Int),(out.length:Int),keep,(m:Int),(r:Int),t,o,out)) true trivial ?_ ?_) ?_
   ·rintro rec2 i keep hi _ ih2;unfold Zw5 Ztw ZuM;dsimp only;rw[decide_eq_true (show (i:Int) < (out.length:Int) by omega),cond_true,Zoj hi,chk_true,ZXj,ZXl hi,ZXA];cases keep with
    |false=>rw[cond_false,ZnF];exact⟨ZnH (by omega),ih2 false trivial⟩
    |true=>
     rw[cond_true,ZnD];refine ZnK (ZN3 h (x:=out[i]) (y:=(r:Int)) (by rw[hm];exact h2 _ (ZXm hi)) (by rw[hm];omega)) fun q _=> ?_
     rw[ZnF];exact⟨ZnH (by omega),ih2 (!q) trivial⟩
   ·rintro rec2 keep _;unfold Zw5 Ztw;dsimp only;rw[decide_eq_false (show ¬(out.length:Int) < (out.length:Int) by omega),cond_false,ZnA];exact⟨keep,rfl⟩
   ·rintro _ ⟨keep,rfl⟩;exact put out.length _ (ZXz _)
  rw[beq_eq_false_iff_ne.2 k4,cond_false]
  by_cases k5:o.Kind=5
  ·obtain⟨hk,h0,hlen⟩:=hcol _ (hdo.1 (.inr (.inr k5)));rw[show (o.Kind == 5)=true by rw[k5];rfl,cond_true,ZhP h0 hk,ZXA];generalize (t.Columns[o.Column.toNat]).Cells=L at hlen;rw[ZnD];refine ZnK (Zoh ZEc (fun a:Nat=>((r:Int),(a:Int),true,L,(m:Int),(r:Int),t,o,out)) (fun a=>a<=out.length) (fun a=>a) (Q:=fun x=>∃a:Nat,x=((r:Int),(a:Int),true,(m:Int),(r:Int),t,o,out)/\a<=out.length) out.length (ZXz _) (by omega) ?_) ?_
   ·rintro rec2 a ha ih2;unfold ZAZ Zw4 ZuL;dsimp only
    by_cases h0a:0 < a
    ·have hi1:a - 1 < out.length:=by omega
     have hb:=h2 _ (ZXm hi1);rw[decide_eq_true (show (a:Int) > 0 by omega),cond_true,show (a:Int) - 1=((a - 1:Nat):Int) by omega,ZnF,ZnF,ZXj,ZXl hi1,ZXA,ZhP hb.1 (show (out[a - 1]).toNat < L.length by omega),ZXA,Zqj (show r < L.length by omega),ZXA,ZnD];refine⟨ZnH (by omega),Zoj hi1,ZnK (ZQo _ _) fun q _=> ?_⟩;rw[ZnP];refine⟨fun _=> ?_,fun _=> ?_⟩
     ·rw[ZnF];exact⟨ZnH (by omega),ih2 (a - 1) (by omega) (by omega)⟩
     ·rw[ZnA];exact⟨a,by rw[show ((a:Nat):Int)=(a:Int)from rfl],ha⟩
    ·rw[decide_eq_false (show ¬(a:Int) > 0 by omega),cond_false,cond_false,ZnA];exact⟨a,rfl,ha⟩
   ·rintro _ ⟨a,rfl,ha⟩;exact put a _ ha
  rw[beq_eq_false_iff_ne.2 k5,cond_false];exact put out.length _ (ZXz _)
 ·rintro rec out ⟨h1,h2⟩;unfold Zw6 Ztx;dsimp only;rw[decide_eq_false (show ¬(m:Int) < (m:Int) by omega),cond_false,ZnA];exact⟨by omega,h2⟩
 ·rintro r hr;unfold Zyv;rw[ZnA];exact hr
theorem ZV0 {t:G_api_Table} (h:ZHG t) {o:ZnQ} (c:OpD o) (a:ZJl t o):wp (ZyQ t o) (fun x=>ZHG x/\x.ID=t.ID):=by
 unfold ZyQ
 by_cases h3:o.Kind=3
 ·rw[show (o.Kind == 3)=true by rw[h3];rfl,cond_true,ZnD];refine ZnK (ZLt h c.cols (a.2 h3)) ?_;rintro⟨x,e⟩ b;rw[ZnA];exact b
 ·rw[beq_eq_false_iff_ne.2 h3,cond_false,ZnD];refine ZnK (ZPF h a h3) ?_;rintro r ⟨f,d⟩;rw[ZnD];refine ZnK (ZMa h f d) ?_;rintro⟨x,e⟩ b;rw[ZnA];exact b
theorem ZSE {t:G_api_Table} (h:ZHG t) {o:ZnQ} (j:OpD o):wp (Zye t [o]) (fun r=>r.2=0->ZHG r.1):=by
 unfold Zye;rw[show decide ((([o]:List ZnQ).length:Int) > 5)=false from rfl,cond_false,ZH1 h,ZXA,ZXi,cond_false,ZnD];refine ZnK (ZwT ZEz [o] (by simp) (fun i (x:G_api_Table)=>([o],(([o]:List ZnQ).length:Int),i,x,(0:Int),([]:Str),([]:List G_api_Column))) (fun _ x=>ZHG x)
  (Q:=fun y=>(∃e,y= .ret e/\e.2≠0)\/∃x,y= .brk (x,(0:Int),([]:Str),([]:List G_api_Column))/\ZHG x) t h ?_ ?_) ?_
 ·rintro d k x f a p;unfold ZxG ZtQ;dsimp only;have c:([o]:List ZnQ)[k]=o:=by
   have:k=0:=by simp at f;omega
   subst this;rfl
  rw[decide_eq_true (show (k:Int) < (([o]:List ZnQ).length:Int) by omega),cond_true,Zqj f,ZXA,c,ZnD];refine ZnK (ZTs j) fun b l=> ?_
  cases b with
  |false=>rw[ZSL,cond_true,ZnA];exact .inl ⟨_,rfl,by decide⟩
  |true=>
   rw[ZXi,cond_false,ZnD];refine ZnK (ZV0 a j (l rfl)) ?_;rintro n ⟨g,_⟩;rw[ZnF];exact⟨ZnH (by simp at f;omega),p n g⟩
 ·rintro d x a;unfold ZxG ZtQ;dsimp only;rw[decide_eq_false (show ¬(([o]:List ZnQ).length:Int) < (([o]:List ZnQ).length:Int) by omega),cond_false,ZnA];exact .inr ⟨x,rfl,a⟩
 ·rintro _ (⟨e,rfl,m⟩ |⟨x,rfl,a⟩)
  ·dsimp only;rw[ZnA];exact fun h=>absurd h m
  ·dsimp only;unfold Zy7;rw[ZMH a,ZXA,ZnA];exact fun _=>a
end Go.Proofs
namespace Go.Proofs
open Go Eng
theorem ZJb {d:ZnC} (b:Ztf d) {n:Int} (i:0<=n/\n<=1000000):wp (ZnL d n) (fun r=>(0<=r.1/\(r.1 < n\/n=0/\r.1=0))/\Ztf r.2):=by
 by_cases f:n=0
 ·subst f;unfold ZnL;have a:=b;obtain⟨f,c,e⟩:=a;rw[ZnP];refine⟨fun h=> ?_,fun h=> ?_⟩
  ·rw[ZnA];exact⟨⟨by simp,.inr ⟨rfl,rfl⟩⟩,b⟩
  ·simp only[decide_eq_false_iff_not]at h;simp only[ZnF,ZnD,ZF9,ZnA];refine⟨ZnH (by omega),ZnH (by omega),by omega,by omega, ?_⟩;unfold Zsl;rw[show decide ((0:Int) < 1)=true from rfl,cond_true,ZnA];exact⟨⟨by simp,.inr (by simp)⟩,by simp only[Ztf];omega⟩
 ·refine ZnK (ZAy b (n:=n) (by omega)) ?_;rintro⟨q,g⟩ ⟨c,e⟩;exact⟨⟨c.1,.inl c.2⟩,e⟩
theorem ZVK {d:ZnC} (p:Ztf d) {t:G_api_Table} (h:ZHG t):wp (Zx1 d t) (fun r=>OpD r.1/\Ztf r.2):=by
 obtain⟨n,Y,T⟩:=h.rows;have F:=h.cols;have D:∀(d:ZnC) (k q:Int) (s:Str) (l:List Int),Ztf d->s.length<=1024->l.length<=3->wp (Zq9 d 0 0 [] k q s [] l) (fun r=>OpD r.1/\Ztf r.2):=by intro d k q s l p E O;unfold Zq9 Zu9;rw[ZnA];exact⟨⟨O,E⟩,p⟩
 have P:∀(k:Int) (b:Bool) (d:ZnC),Ztf d->wp (Zva (t.Columns.length:Int) k b d 0 0 [] k 0 [] [] []) (fun r=>OpD r.1/\Ztf r.2):=by
  intro k b d p;unfold Zva;cases b with
  |true=>
   rw[cond_true,ZnD];refine ZnK (ZJb p (n:=(t.Columns.length:Int)) (by omega)) ?_;rintro⟨q,i⟩ ⟨_,a⟩;exact D i k q [] [] a (by simp) (by simp)
  |false=>
   rw[cond_false,ZnP];refine⟨fun _=> ?_,fun _=>D d k 0 [] [] p (by simp) (by simp)⟩;rw[ZnD];refine ZnK (ZAy p (n:=3) (by omega)) ?_;rintro⟨q,M⟩ ⟨H,c⟩;dsimp only at H c|-
   obtain⟨m,X⟩:∃m:Nat,1+q=(m:Int):=⟨(1+q).toNat,by omega⟩;rw[X,ZnF,ZnD];refine⟨ZnH (by omega),ZnK (Zoh ZFu (fun s:Nat×ZnC×List Int=>((t.Columns.length:Int),(s.1:Int),s.2.1,(0:Int),(0:Int),([]:Str),k,(0:Int),([]:Str),([]:List Int),s.2.2))
    (fun s=>Ztf s.2.1/\s.2.2.length+s.1=m) (fun s=>s.1) (Q:=fun x=>∃d l,x=(d,(0:Int),(0:Int),([]:Str),k,(0:Int),([]:Str),([]:List Int),l)/\Ztf d/\l.length<=3) (m,M,[]) ⟨c,by simp⟩ (by dsimp only;omega) ?_) ?_⟩
   ·rintro V ⟨w,d,l⟩ ⟨y,J⟩ L;dsimp only at y J L;unfold ZCW ZzZ Zyk;dsimp only
    by_cases hk:0 < w
    ·rw[decide_eq_true (show (w:Int) > 0 by omega),cond_true,ZnP];refine⟨fun _=> ?_,fun _=> ?_⟩
     ·rw[ZnD];refine ZnK (ZJb y (n:=(t.Columns.length:Int)) (by omega)) ?_;rintro⟨q,i⟩ ⟨_,a⟩;dsimp only at a|-
      rw[ZnF,ZnF,show (w:Int) - 1=((w - 1:Nat):Int) by omega];exact⟨Ztn (by rw[ZXq];omega),ZnH (by omega),L (w - 1,i,l++[q]) ⟨a,by dsimp only;rw[ZXn,ZXq];omega⟩ (by dsimp only;omega)⟩
     ·rw[ZnA];exact⟨d,l,rfl,y,by omega⟩
    ·rw[decide_eq_false (show ¬(w:Int) > 0 by omega),cond_false,cond_false,ZnA];exact⟨d,l,rfl,y,by omega⟩
   ·rintro _ ⟨d,l,rfl,y,J⟩;unfold ZAR Zu9;dsimp only;rw[ZnA];exact⟨⟨J,by simp⟩,y⟩
 unfold Zx1;rw[ZnD];refine ZnK (ZAy p (n:=5) (by omega)) ?_;rintro⟨q,N⟩ ⟨H,f⟩;dsimp only at H f|-
 rw[ZnF];refine⟨ZnH (by omega), ?_⟩;rw[ZnP];refine⟨fun _=> ?_,fun _=> ?_⟩
 ·rw[ZnD];refine ZnK (ZJb f (n:=(t.Columns.length:Int)) (by omega)) ?_;rintro⟨z,M⟩ ⟨I,c⟩;dsimp only at I c|-
  rw[ZnD];refine ZnK (ZHi c (l:=[([97]:Str),([98]:Str),([49]:Str),([50]:Str),([107,48]:Str),([]:Str)]) (by decide) (by decide)) ?_;rintro⟨s,K⟩ ⟨E,e⟩;dsimp only at E e|-
  have G:s.length<=1024:=by have:=(ZHL (ZLk (l:=[([97]:Str),([98]:Str),([49]:Str),([50]:Str),([107,48]:Str),([]:Str)]) (by decide+kernel) E)).2;omega
  have o:∀i,Ztf i->wp (Zra false i t 0 0 [] (1+q) z s [] []) (fun r=>OpD r.1/\Ztf r.2):=fun i a=>by unfold Zra;rw[cond_false];exact D i _ z s [] a G (by simp)
  by_cases h0:0 < t.Columns.length
  ·have v:z.toNat < t.Columns.length:=by omega
   have A:=T _ (ZXm v);rw[decide_eq_true (show (t.Columns.length:Int) > 0 by omega),cond_true,ZhP (by omega) v,ZXA,ZnP];refine⟨fun j=> ?_,fun _=>o K e⟩;have j:=of_decide_eq_true j;rw[ZnD];refine ZnK (ZAy e (n:=3) (by omega)) ?_;rintro⟨U,S⟩ ⟨_,u⟩;dsimp only at u|-
   cases decide (U > 0)with
   |false=>exact o S u
   |true=>
    unfold Zra;have O:=A.2.1;rw[cond_true,ZhP (by omega) v,ZXA,ZXA,ZnD];refine ZnK (ZAy u (n:=(t.Columns[z.toNat].Cells.length:Int)) (by omega)) ?_;rintro⟨R,W⟩ ⟨C,B⟩;dsimp only at C B|-
    have g:R.toNat < (t.Columns[z.toNat]).Cells.length:=by omega
    rw[ZhP C.1 g,ZXA];refine D W _ z _ [] B ?_ (by simp);have:=(ZHL (A.2.2 _ (ZXm g)).1).2;omega
  ·rw[decide_eq_false (show ¬(t.Columns.length:Int) > 0 by omega),cond_false];exact o K e
 ·rw[ZnP];exact⟨fun _=>P _ _ N f,fun _=>P _ _ N f⟩
theorem ZLF {d:ZnC} (y:Ztf d) {t:G_api_Table} (h:ZHG t) {c:Int} (i:0<=c/\c<=1000):wp (Ztr d t c) (fun r=>(ZHG r.1/\r.1.ID=c)/\Ztf r.2):=by
 unfold Ztr;rw[ZnD];refine ZnK (ZAy y (n:=3) (by omega)) ?_;rintro⟨q,A⟩ ⟨z,g⟩;dsimp only at z g|-
 obtain⟨m,rfl⟩:∃m:Nat,q=(m:Int):=⟨q.toNat,by omega⟩;rw[ZnD];refine ZnK (Zoh ZDX (fun s:Nat×ZnC×G_api_Table=>(c,(s.1:Int),s.2.1,s.2.2,(0:Int),([]:Str),([]:List G_api_Column)))
  (fun s=>s.1<=m/\Ztf s.2.1/\ZHG s.2.2) (fun s=>s.1) (Q:=fun x=>∃d t,x=(c,d,t,(0:Int),([]:Str),([]:List G_api_Column))/\Ztf d/\ZHG t) (m,A,t) ⟨ZXz _,g,h⟩ (by dsimp only;omega) ?_) ?_
 ·rintro w ⟨k,d,t⟩ ⟨B,f,a⟩ j;dsimp only at B f a j;unfold ZAI ZwN Zuf;dsimp only
  by_cases hk:0 < k
  ·rw[decide_eq_true (show (k:Int) > 0 by omega),cond_true,ZnD];refine ZnK (ZVK f a) ?_;rintro⟨o,l⟩ ⟨p,b⟩;dsimp only at p b|-
   rw[ZnD];refine ZnK (ZSE a p) ?_;rintro⟨x,e⟩ u;dsimp only at u|-
   rw[show (k:Int) - 1=((k - 1:Nat):Int) by omega,ZnP];refine⟨fun v=> ?_,fun _=> ?_⟩
   ·rw[ZnF];exact⟨ZnH (by omega),j (k - 1,l,x) ⟨by dsimp only;omega,b,u (eq_of_beq v)⟩ (by dsimp only;omega)⟩
   ·rw[ZnF];exact⟨ZnH (by omega),j (k - 1,l,t) ⟨by dsimp only;omega,b,a⟩ (by dsimp only;omega)⟩
  ·rw[decide_eq_false (show ¬(k:Int) > 0 by omega),cond_false,ZnA];exact⟨d,t,rfl,f,a⟩
 ·rintro _ ⟨d,t,rfl,f,a⟩;unfold Zx2;dsimp only;rw[ZMH a,ZXA,ZnA];exact⟨⟨⟨i,a.name,a.cols,a.rows⟩,rfl⟩,f⟩
structure ZKF (m:Nat) (b:Int) (l:List G_api_Table):Prop where
 len:l.length<=m
 ok:∀t∈l,ZHG t/\t.ID<=b
 up:l.Pairwise fun x y=>x.ID < y.ID
theorem ZKF.snoc {m:Nat} {b c:Int} {l:List G_api_Table} (h:ZKF m b l) {t:G_api_Table} (e:ZHG t) (d:t.ID=c) (g:b < c):ZKF (m+1) c (l++[t]):=by
 refine⟨by rw[ZXn,ZXq];have:=h.len;omega,fun x a=> ?_, ?_⟩
 ·rcases ZXs.1 a with a |a
  ·exact⟨(h.ok x a).1,by have:=(h.ok x a).2;omega⟩
  ·rw[ZXv.1 a];exact⟨e,by omega⟩
 ·rw[List.pairwise_append];refine⟨h.up,by simp,fun x a y f=> ?_⟩;rw[ZXv.1 f];have:=(h.ok x a).2;omega
theorem ZL4 {d:ZnC} (M:Ztf d) {most:Nat} (W:1<=most) (h2:most<=10):wp (Zud d (most:Int)) (fun r=>(ZKF most 50 r.1/\1<=r.1.length)/\Ztf r.2):=by
 unfold Zud;rw[ZnD];refine ZnK (ZAy M (n:=2) (by omega)) ?_;rintro⟨G,X⟩ ⟨u,B⟩;dsimp only at u B|-
 rw[ZnD];refine ZnK (ZAy B (n:=(most:Int)) (by omega)) ?_;rintro⟨q,P⟩ ⟨F,o⟩;dsimp only at F o|-
 obtain⟨m,U⟩:∃m:Nat,1+q=(m:Int):=⟨(1+q).toNat,by omega⟩;rw[U,ZnF,ZnD];refine⟨ZnH (by omega),ZnK (Zoh ZEj (fun s:Int×Nat×ZnC×List G_api_Table=>(s.1,(s.2.1:Int),s.2.2.1,s.2.2.2))
  (fun s=>Ztf s.2.2.1/\s.2.2.2.length+s.2.1=m/\(0<=s.1/\s.1<=1+2*(s.2.2.2.length:Int))/\ZKF s.2.2.2.length s.1 s.2.2.2) (fun s=>s.2.1)
  (Q:=fun x=>Ztf x.1/\ZKF most 50 x.2/\1<=x.2.length) (G,m,P,[]) ⟨o,by simp,by dsimp only;simp;omega,⟨by simp,fun t b=>absurd b (by simp),by simp⟩⟩ (by dsimp only;omega) ?_) ?_⟩
 ·rintro J ⟨g,k,d,l⟩ ⟨i,C,E,z⟩ L;dsimp only at i C E z L;unfold ZBb Zxm ZuX;dsimp only
  by_cases hk:0 < k
  ·rw[decide_eq_true (show (k:Int) > 0 by omega),cond_true,ZnD];refine ZnK (ZAy i (n:=2) (by omega)) ?_;rintro⟨q,V⟩ ⟨F,j⟩;dsimp only at F j|-
   rw[ZnF,ZnF,ZnD];have v:0<=g+(1+q)/\g+(1+q)<=1000:=by omega
   refine⟨ZnH (by omega),ZnH (by omega),ZnK (ZNt j v) ?_⟩;rintro⟨t,O⟩ ⟨⟨b,a⟩,c⟩;dsimp only at b a c|-
   have h:∀(t:G_api_Table) (D:ZnC),ZHG t->t.ID=g+(1+q)->Ztf D->wp (Zsb (fun g k d l=>J (g,k,d,l)) (g+(1+q)) (k:Int) D l t) (fun x=>Ztf x.1/\ZKF most 50 x.2/\1<=x.2.length):=by intro t D b a K;unfold Zsb;rw[ZnF,ZnF,show (k:Int) - 1=((k - 1:Nat):Int) by omega];refine⟨Ztn (by rw[ZXq];omega),ZnH (by omega),L (g+(1+q),k - 1,D,l++[t]) ⟨K,by dsimp only;rw[ZXn,ZXq];omega,by dsimp only;rw[ZXn,ZXq];omega, ?_⟩ (by dsimp only;omega)⟩;dsimp only;rw[ZXn,ZXq];exact z.snoc b a (by omega)
   rw[ZnP];refine⟨fun p=> ?_,fun _=>by rw[cond_false];exact h t O b a c⟩;have p:=of_decide_eq_true p;rw[ZnD];refine ZnK (ZAy c (n:=4) (by omega)) ?_;rintro⟨Z,S⟩ ⟨_,e⟩;dsimp only at e|-
   rw[ZnP];refine⟨fun _=> ?_,fun _=>h t S b a e⟩;rw[ZnD];refine ZnK (ZAy e (n:=(l.length:Int)) (by omega)) ?_;rintro⟨N,Y⟩ ⟨f,w⟩;dsimp only at f w|-
   have A:N.toNat < l.length:=by omega
   rw[ZnF,ZXl A,ZXA,ZnD];refine⟨ZoH ⟨f.1,f.2⟩,ZnK (ZLF w (z.ok _ (ZXm A)).1 v) ?_⟩;rintro⟨R,T⟩ ⟨⟨H,y⟩,I⟩;exact h R T H y I
  ·rw[decide_eq_false (show ¬(k:Int) > 0 by omega),cond_false,ZnA];refine⟨i,⟨by dsimp only;omega,fun t b=> ?_,z.up⟩,by dsimp only;omega⟩;have:=z.ok t b;exact⟨this.1,by omega⟩
 ·rintro⟨d,l⟩ ⟨i,C,E⟩;unfold ZyI;dsimp only at i C E|-
  rw[ZnA];exact⟨⟨C,E⟩,i⟩
end Go.Proofs
namespace Go.Proofs
open Go Eng
noncomputable def ZTp (A B:List Rat):Int:= @Classical.epsilon Int ⟨0⟩ (fun r=>DistR A B 0 0 0 r)
noncomputable def ZIz (A B:List Rat):Option Rat:=if A.length=0\/B.length=0 then none else some (Rat.divInt (ZTp A B) ((A.length*B.length:Nat):Int))
theorem ZLc {A B:List Rat} {r:Int} (h:DistR A B 0 0 0 r):ZTp A B=r:=by have:= @Classical.epsilon_spec Int (fun r=>DistR A B 0 0 0 r) ⟨r,h⟩;exact this.det h
theorem ZIw {m:Int} {n:Nat} (b:0<=m) (a:m<=(n:Int)) (d:n<=40000) (c:0 < n):Sz 20 (Rat.divInt m (n:Int)):=ZFB (by omega) (by omega) (by omega)
theorem ZJh {a b:List Rat} (l:∀q∈a,Sz 400 q) (j:∀q∈b,Sz 400 q) (e:a.length<=200) (g:b.length<=200):
  ZqQ (a.map fOf) (b.map fOf)=some (match ZIz a b with |some q=>(fOf q,0) |none=>(zf,5))/\∀q,ZIz a b=some q->Sz 20 q:=by
 have d:a.length*b.length<=200*200:=Nat.mul_le_mul e g;unfold ZIz
 by_cases h:a.length=0\/b.length=0
 ·rw[if_pos h];refine⟨?_,fun q f=>by cases f⟩;unfold ZqQ Zvf;rw[ZXp,ZXp]
  by_cases h1:a.length=0
  ·rw[h1];rfl
  ·rw[show b.length=0 by omega,beq_eq_false_iff_ne.2 (show (a.length:Int)≠0 by omega)];rfl
 ·rw[if_neg h];obtain⟨r,m,i⟩:=ZMF l j (by omega) (by omega) (by omega) (by omega);have c:=i.bound (Int.le_refl 0) (by omega);have k:0 < a.length*b.length:=Nat.mul_pos (by omega) (by omega);rw[m,ZLc i];refine⟨rfl,fun q f=> ?_⟩;obtain rfl:=ZXB f;exact ZIw c.1 c.2 d k
structure ZMW (l:List G_api_Table):Prop where
 len:l.length<=10
 cols:∀t∈l,t.Columns.length<=6/\∀c∈t.Columns,c.Cells.length<=12/\ZGy c.Cells
noncomputable def ZNW (a:List Rat) (b:Int) (i:Nat) (c:G_api_Column):Option Zoi:=match ZIz a (ZC3 c.Cells)with
 |some q=>if q < 1 then some ⟨⟨b,(i:Int)⟩,fOf (1 - q)⟩else none
 |none=>none
noncomputable def ZGU (a:List Rat) (t:G_api_Table) (k:Nat):List Zoi:=(List.range k).filterMap fun i=>(t.Columns[i]?).bind (ZNW a t.ID i)
noncomputable def ZFY (a:List Rat) (l:List G_api_Table):List Zoi:=l.flatMap fun t=>ZGU a t t.Columns.length
theorem ZIN (a:List Rat) (t:G_api_Table) (k:Nat) (b:k < t.Columns.length):ZGU a t (k+1)=ZGU a t k++(ZNW a t.ID k t.Columns[k]).toList:=by unfold ZGU;rw[List.range_succ,List.filterMap_append];congr 1;rw[List.filterMap_cons,ZXl b,ZXA];cases ZNW a t.ID k t.Columns[k]<;>rfl
theorem ZIh (a:List Rat) (t:G_api_Table) (k:Nat):(ZGU a t k).length<=k:=Nat.le_trans (List.length_filterMap_le _ _) (by rw[List.length_range];omega)
theorem ZIM (a:List Rat) (l:List G_api_Table) (t:G_api_Table):ZFY a (l++[t])=ZFY a l++ZGU a t t.Columns.length:=by unfold ZFY;rw[List.flatMap_append];simp
theorem ZGp (a:List Rat):∀(l:List G_api_Table),(∀t∈l,t.Columns.length<=6)->(ZFY a l).length<=6*l.length
 | [],_=>by simp[ZFY]
 |t::l,h=>by
  have e:=ZIh a t t.Columns.length;have d:=h t (by simp);have c:=ZGp a l fun x b=>h x (by simp[b])
  show ((ZGU a t t.Columns.length)++ZFY a l).length<=_;rw[ZXn,List.length_cons];omega
theorem ZII:Sz 1 1:=by unfold Sz;decide
theorem ZMy {a:List Rat} (d:∀q∈a,Sz 400 q) (f:a.length<=200) {b:Int} {i:Nat} {c:G_api_Column} (j:c.Cells.length<=12) {x:Zoi} (h:ZNW a b i c=some x):∃q,ZIz a (ZC3 c.Cells)=some q/\q < 1/\x=⟨⟨b,(i:Int)⟩,fOf (1 - q)⟩/\Sz 20 q:=by
 have g:=ZFb c.Cells;have e:=ZJh d (ZFn (l:=c.Cells)) f (by omega);unfold ZNW at h;cases hq:ZIz a (ZC3 c.Cells)with
 |none=>rw[hq]at h;cases h
 |some q=>
  rw[hq]at h;dsimp only at h
  by_cases h1:q < 1
  ·rw[if_pos h1]at h;exact⟨q,rfl,h1,(ZXB h).symm,e.2 q hq⟩
  ·rw[if_neg h1]at h;cases h
theorem ZKn {a:List Rat} (d:∀q∈a,Sz 400 q) (f:a.length<=200) {g:Int} {i:Nat} {c:G_api_Column} (e:c.Cells.length<=12) {x:Zoi} (h:ZNW a g i c=some x):Gdm x:=by obtain⟨q,_,_,rfl,b⟩:=ZMy d f e h;exact⟨1 - q,rfl,(ZII.sub b).mono (by decide)⟩
theorem ZJc {a:List Rat} (e:∀q∈a,Sz 400 q) (g:a.length<=200) {l:List G_api_Table} (d:ZMW l):Gds (ZFY a l):=⟨fun x b=>by
 obtain⟨t,f,b⟩:=List.mem_flatMap.1 b;obtain⟨i,_,hi⟩:=List.mem_filterMap.1 b;cases hc:t.Columns[i]? with
 |none=>rw[hc]at hi;cases hi
 |some c=>
  rw[hc,ZXA]at hi;exact ZKn e g ((d.cols t f).2 c (List.mem_of_getElem? hc)).1 hi⟩
theorem ZK8:ZGB 1 1=some (fOf 1):=by
 have:=ZK7 1 1 (by decide) (by decide) (by decide) (by decide) (by decide)
 rwa [show Rat.divInt 1 1=1 by decide+kernel]at this
theorem ZSx (a:ZnB):ZFC a zf=some zf:=by unfold ZFC ZCK;rw[show Zte zf=some false by kernel_rfl];rfl
theorem ZKi {q:Rat} (b:Sz 100 q):ZCL (fOf q)=some (decide (0 < q)):=by
 unfold ZCL;rw[ZPw (b.wq (by decide)),ZXA];congr 1;rw[decide_eq_decide];have:=ZKY q 0;have a:=ZI6 0 q;constructor
 ·intro h;exact a.1 (by omega)
 ·intro h;have:=a.2 h;omega
theorem ZSv {a:List Rat} (u:∀q∈a,Sz 400 q) (z:a.length<=200) {t:G_api_Table} (p:t.Columns.length<=6/\∀c∈t.Columns,c.Cells.length<=12/\ZGy c.Cells) (k:Int) (l:List G_api_Table) (n j:Int) {b:List Zoi} (r:b.length<=1000):
  wp (Zvv big k (a.map fOf) l n j t.Columns (t.Columns.length:Int) 0 b t) (fun x=>x=(k,a.map fOf,l,n,j,b++ZGU a t t.Columns.length)):=by
 have v:=p.1;refine ZwT ZGG t.Columns (by omega) (fun i (o:List Zoi)=>(k,a.map fOf,l,n,j,t.Columns,(t.Columns.length:Int),i,o,t)) (fun i o=>o=b++ZGU a t i) b (by simp[ZGU]) ?_ ?_
 ·rintro h i o hi rfl d;have m:=p.2 _ (ZXm hi);have A:=ZFb t.Columns[i].Cells;have w:=ZIh a t i;rw[ZIN a t i hi]at d;unfold ZCQ ZAp ZB8 ZB7;dsimp only;obtain⟨y,s⟩:=ZJh u (ZFn (l:=t.Columns[i].Cells)) z (by omega);have e:∀x:Zoi,ZiZ ((b++ZGU a t i).length+[x].length) 80=true:=fun x=>Ztn (by rw[ZXn,ZXq];omega)
  rw[decide_eq_true (show (i:Int) < (t.Columns.length:Int) by omega),cond_true,Zqj hi,ZXA,ZIa m.2 m.1,ZXA,y,ZXA];unfold ZNW at d;cases hq:ZIz a (ZC3 t.Columns[i].Cells)with
  |none=>
   rw[hq]at d;dsimp only;rw[ZK8,ZXA,ZSx,ZXA,show ((5:Int) == 0)=false from rfl,cond_false,cond_false,ZnF];exact⟨ZnH (by omega),d _ (by simp)⟩
  |some q=>
   rw[hq]at d;dsimp only at d|-
   have f:=s q hq;have g:Sz 22 (1 - q):=ZII.sub f;rw[ZK8,ZXA,ZMl ZII f (by decide),ZXA,show ((0:Int) == 0)=true from rfl,cond_true,ZKi (g.mono (by decide)),ZXA]
   by_cases h1:q < 1
   ·rw[if_pos h1]at d;rw[decide_eq_true (show 0 < 1 - q by grind),cond_true,e,chk_true,ZnF];exact⟨ZnH (by omega),d _ (by simp)⟩
   ·rw[if_neg h1]at d;rw[decide_eq_false (show ¬0 < 1 - q by grind),cond_false,ZnF];exact⟨ZnH (by omega),d _ (by simp)⟩
 ·rintro h o rfl;unfold ZCQ ZAp;dsimp only;rw[decide_eq_false (show ¬(t.Columns.length:Int) < (t.Columns.length:Int) by omega),cond_false,ZnA]
theorem ZSu {l:List G_api_Table} (d:ZMW l) (f:ZxD l=some true) {c:G_api_Column} (m:c.Cells.length<=12/\ZGy c.Cells) {k:Int} (B:0<=k) (A:k<=1024):
  wp (Zxz l c k) (fun r=>∃H:List Zoi,H.Perm (ZFY (ZC3 c.Cells) l)/\H.Pairwise Le/\r=(H.take k.toNat,0)):=by
 have y:=d.len;have j:∀q∈ZC3 c.Cells,Sz 400 q:=ZFn;have g:=ZFb c.Cells;have w:=m.1;unfold Zxz Zvw Zz1;rw[decide_eq_false (show ¬k < 0 by omega),cond_false,decide_eq_false (show ¬k > 1024 by omega),cond_false,f,ZXA,ZXi,cond_false,decide_eq_false (show ¬(c.Cells.length:Int) > 4096 by omega),cond_false,ZIa m.2 m.1,ZXA,ZnD];generalize ZC3 c.Cells=a at j g;refine ZnK (ZwT ZGH l (by omega) (fun i (o:List Zoi)=>(k,a.map fOf,l,(l.length:Int),i,o)) (fun i o=>o=ZFY a (l.take i)) (Q:=fun x=>x=(k,ZFY a l)) [] rfl ?_ ?_) ?_
 ·rintro n i o hi rfl u;have e:∀t∈l.take i,t.Columns.length<=6:=fun t p=>(d.cols t (ZXu p)).1
  have b:=ZGp a (l.take i) e;rw[ZXr]at b;rw[ZXy hi,ZIM]at u;unfold ZCR ZAq ZDJ;dsimp only;rw[decide_eq_true (show (i:Int) < (l.length:Int) by omega),cond_true,Zqj hi,ZXA,ZnD];refine ZnK (ZSv j (by omega) (d.cols _ (ZXm hi)) k l (l.length:Int) (i:Int) (by omega)) ?_;rintro _ rfl;dsimp only;rw[ZnF];exact⟨ZnH (by omega),u _ rfl⟩
 ·rintro n o rfl;unfold ZCR ZAq;dsimp only;rw[decide_eq_false (show ¬(l.length:Int) < (l.length:Int) by omega),cond_false,ZnA,ZXw]
 ·rintro _ rfl;dsimp only;have b:=ZGp a l fun t p=>(d.cols t p).1
  haveI:=ZJc j (by omega) d;obtain⟨H,v,f,z⟩:=ZNw (D:=ZFY a l) (by omega);have s:=f.length_eq;unfold ZDI ZAr ZBK;rw[v,ZXA,Zou (by split<;>omega),chk_true,ZXA,s];rw[show (decide ((ZFY a l).length=(ZFY a l).length)&&true)=true by simp,chk_true,ZXA];dsimp only;rw[ZnA];refine⟨H,f,z, ?_⟩;rw[List.drop_zero,Nat.sub_zero];congr 1;split
  ·rename_i h;rw[ZXj,ZXx (by omega),ZXx (by omega)]
  ·rfl
end Go.Proofs
namespace Go.Proofs
open Go Eng
end Go.Proofs
namespace Go.Proofs
open Go Eng
end Go.Proofs
namespace Go.Proofs
open Go Eng
def ZLi:ZnB:=⟨⟨false,[3]⟩,⟨false,[1]⟩⟩
def nil0:ZnB:=⟨⟨false,[]⟩,⟨false,[]⟩⟩
def ZIR:List G_api_Cell:=[G_api_Cell.mk false ([51]:Str),G_api_Cell.mk true ([]:Str),G_api_Cell.mk false ([120]:Str)]
theorem val0:ZBJ (G_api_Cell.mk false ([51]:Str))=some (ZLi,true):=by kernel_rfl
theorem val1:ZBJ (G_api_Cell.mk true ([]:Str))=some (fOf 0,false):=by unfold ZBJ;dsimp only;rw[cond_true,ZJ3];rfl
theorem val2:ZBJ (G_api_Cell.mk false ([120]:Str))=some (nil0,false):=by kernel_rfl
theorem ZVt:Zoe [ZLi]=some [ZLi]:=by kernel_rfl
theorem ZNM:Zsw (G_api_Column.mk ([]:Str) ZIR)=some [ZLi]:=by
 refine ZpD ?_;unfold Zsw;rw[ZnD];refine ZnK (Zoh ZCY (fun k:Nat=>(ZIR,(3:Int),(k:Int),if k=0 then []else [ZLi])) (fun k=>k<=3) (fun k=>3 - k) (Q:=fun x=>x=[ZLi]) 0 (by omega) (by omega) ?_) ?_
 ·intro b k c a;unfold Zxr Zuo Zwh;dsimp only;have h:k=0\/k=1\/k=2\/k=3:=by omega
  rcases h with rfl |rfl |rfl |rfl
  ·rw[show decide (((0:Nat):Int) < 3)=true from rfl,cond_true,show idx ZIR ((0:Nat):Int)=some (G_api_Cell.mk false ([51]:Str))from rfl,ZnD,ZnA,val0,ZnD,ZnA];dsimp only;rw[cond_true,ZnF,ZnF];exact⟨rfl,rfl,a 1 (by omega) (by omega)⟩
  ·rw[show decide (((1:Nat):Int) < 3)=true from rfl,cond_true,show idx ZIR ((1:Nat):Int)=some (G_api_Cell.mk true ([]:Str))from rfl,ZnD,ZnA,val1,ZnD,ZnA];dsimp only;rw[cond_false,ZnF];exact⟨rfl,a 2 (by omega) (by omega)⟩
  ·rw[show decide (((2:Nat):Int) < 3)=true from rfl,cond_true,show idx ZIR ((2:Nat):Int)=some (G_api_Cell.mk false ([120]:Str))from rfl,ZnD,ZnA,val2,ZnD,ZnA];dsimp only;rw[cond_false,ZnF];exact⟨rfl,a 3 (by omega) (by omega)⟩
  ·rw[show decide (((3:Nat):Int) < 3)=false from rfl,cond_false,ZnA];rfl
 ·rintro x rfl;unfold ZyV;rw[ZVt,ZnD,ZnA,ZnA]
def fi (n:Int):ZnB:=⟨⟨false,[n]⟩,⟨false,[1]⟩⟩
def hlf:ZnB:=⟨⟨false,[1]⟩,⟨false,[2]⟩⟩
theorem ZIo:Zqe=some true:=by
 have h:ZnM 1=some (fi 1):=by
  unfold ZnM;rw[ZFA]
  kernel_rfl
 have c:ZnM 2=some (fi 2):=by
  unfold ZnM;rw[ZFA]
  kernel_rfl
 have d:ZnM 3=some (fi 3):=by
  unfold ZnM;rw[ZFA]
  kernel_rfl
 have e:ZnM 4=some (fi 4):=by
  unfold ZnM;rw[ZFA]
  kernel_rfl
 have j:Zpz 1 2=some hlf:=by kernel_rfl
 have g:ZE1 [fi 1,fi 2,fi 3,fi 4] 1 2=some (fi 2,0):=by kernel_rfl
 have i:ZqQ (([fi 1,fi 2,fi 3,fi 4].drop 0).take (((2:Int)).toNat - 0)) (([fi 1,fi 2,fi 3,fi 4].drop (((1:Int)).toNat)).take (((3:Int)).toNat - ((1:Int)).toNat))=some (hlf,0):=by kernel_rfl
 have f:ZoY (fi 2) (fi 2)=some true:=by kernel_rfl
 have b:ZoY hlf hlf=some true:=by kernel_rfl
 have a:=ZNM;unfold ZIR at a;unfold Zqe Zo8;rw[h,ZXA,c,ZXA,d,ZXA,e,ZXA,g,ZXA];dsimp only;rw[i,ZXA,ZXA];dsimp only;rw[show ((0:Int) == 0)=true from rfl,cond_true,cond_true,f,ZXA,cond_true,j,ZXA,b,ZXA,cond_true,a,ZXA];rfl
end Go.Proofs
namespace Go.Proofs
open Go Eng
theorem ZND (a b:ZpV):Zxg a b=some (decide (ZH2 a b < 0)):=by
 unfold Zxg Zr5 ZH2
 by_cases h1:a.Table < b.Table
 ·rw[decide_eq_true h1,cond_true,if_pos h1];rfl
 ·rw[decide_eq_false h1,cond_false,if_neg h1]
  by_cases h2:b.Table < a.Table
  ·rw[if_pos h2,beq_eq_false_iff_ne.2 (by omega),cond_false];rfl
  ·rw[if_neg h2,show (a.Table == b.Table)=true by rw[beq_iff_eq];omega,cond_true]
   by_cases h3:a.Column < b.Column
   ·rw[decide_eq_true h3,if_pos h3];rfl
   ·rw[decide_eq_false h3,if_neg h3];split<;>rfl
theorem ZPN {L:List En1} {h:En1} [Gds L] [hg:Gdm h] (K:L.length<=1000):Zyf L h=some (ZHS ltE h L):=by
 obtain⟨q,v,u⟩:=hg.ok;refine ZpD ?_;unfold Zyf;rw[ZnD];refine ZnK (Zoh ZEC (fun i:Nat=>(L,(i:Int),h)) (fun i=>i<=L.length/\∀j (c:j < L.length),i<=j->ltE h L[j]=true) (fun i=>i)
  (Q:=fun x=>∃i:Nat,x=(L,(i:Int),h)/\i<=L.length/\(∀j (c:j < L.length),i<=j->ltE h L[j]=true)/\∀c:i - 1 < L.length,0 < i->ltE h L[i - 1]=false) L.length ⟨ZXz _,fun j h H=>by omega⟩ (by omega) ?_) ?_
 ·rintro t i ⟨s,k⟩ E;unfold ZBs ZxJ;dsimp only
  by_cases hi:0 < i
  ·have d:i - 1 < L.length:=by omega
   have G:Gdm L[i - 1]:=inferInstance;obtain⟨p,n,f⟩:=G.ok;have o:idx L ((i:Int) - 1)=some L[i - 1]:=by rw[show (i:Int) - 1=((i - 1:Nat):Int) by omega];exact Zqj d
   have a:ZCN h L[i - 1]=if ZGL p q≠0 then ZGL p q else ZH2 h.Ref L[i - 1].Ref:=by unfold ZCN;rw[v,n,ZHk,ZHk]
   have g:=ZI6 p q;have m:∀b,ltE h L[i - 1]=b->wp (Zo1 (fun l i C=>t (l,i,C)) L (i:Int) b h) (fun x=>∃i:Nat,x=(L,(i:Int),h)/\i<=L.length/\(∀j (c:j < L.length),i<=j->ltE h L[j]=true)/\∀c:i - 1 < L.length,0 < i->ltE h L[i - 1]=false):=by
    intro b z;unfold Zo1;cases b with
    |true=>
     rw[cond_true,ZnF];have:=E (i - 1) ⟨by omega,fun j c A=>by
      by_cases hj':j=i - 1
      ·subst hj';exact z
      ·exact k j c (by omega)⟩ (by omega)
     rw[show ((i - 1:Nat):Int)=(i:Int) - 1 by omega]at this;exact⟨ZnH (by omega),this⟩
    |false=>
     rw[cond_false,ZnA];exact⟨i,rfl,s,k,fun _ _=>z⟩
   rw[decide_eq_true (show (i:Int) > 0 by omega),cond_true,ZnF];refine⟨ZnH (by omega), ?_⟩;rw[o,ZXA,n,v,ZD9 (f.wq (by omega)) (u.wq (by omega)),ZXA]
   by_cases c1:p < q
   ·rw[decide_eq_true c1,cond_true];refine m true ?_;unfold ltE;have:=g.2 c1;rw[a,if_pos (by omega)];exact decide_eq_true this
   ·rw[decide_eq_false c1,cond_false,ZnF];refine⟨ZnH (by omega), ?_⟩;rw[ZXA,n,ZJu _ _ (f.wq (by omega)) (u.wq (by omega)),ZXA]
    by_cases c2:p=q
    ·rw[decide_eq_true c2,cond_true,ZnF];refine⟨ZnH (by omega), ?_⟩;rw[ZXA,ZND,ZXA];refine m _ ?_;unfold ltE;rw[a,if_neg (by subst c2;unfold ZGL;simp[Rat.lt_irrefl])]
    ·rw[decide_eq_false c2,cond_false];refine m false ?_;unfold ltE;have r:¬ZGL p q < 0:=fun h=>c1 (g.1 h)
     have A:ZGL p q≠0:=fun h=>c2 (ZJy h)
     rw[a,if_pos A];exact decide_eq_false r
  ·rw[decide_eq_false (show ¬(i:Int) > 0 by omega),cond_false];unfold Zo1;rw[cond_false,ZnA];exact⟨i,rfl,s,k,fun _ h=>absurd h hi⟩
 ·rintro _ ⟨i,rfl,s,k,r⟩;dsimp only;unfold Zza;have J:(L.take (i:Int).toNat).length<=1000:=by rw[ZXr];omega
  have I:(L.drop (i:Int).toNat).length<=1000:=by rw[ZXo];omega
  rw[Zou (by omega),chk_true,Ztn (by omega),chk_true,Ztn (by rw[ZXq];omega),chk_true,Zou (by omega),chk_true,Ztn (by rw[ZXn,ZXq];omega),chk_true,ZnA,ZXj];have e:=ZMv (lt:=ltE) h (L.take i) (fun B p w=> ?_) _ (L.drop i) rfl (fun y D=> ?_)
  ·rw[List.take_append_drop]at e;rw[e];simp
  ·have F:=congrArg List.length w;rw[ZXr,ZXn,ZXq]at F;have f:(L.take i)[B.length]? =some p:=by rw[w];simp
   rw[List.getElem?_take]at f;have d:B.length < i:=by omega
   rw[if_pos d,ZXl (by omega)]at f;have:=r (by omega) (by omega);rw[<-ZXB f];simpa[show i - 1=B.length by omega]using this
  ·obtain⟨j,c,rfl⟩:=List.getElem_of_mem D;rw[ZXo]at c;rw[List.getElem_drop];exact k (i+j) (by omega) (by omega)
end Go.Proofs
namespace Go.Proofs
open Go Eng
theorem ZKd {a b:List Rat} (f:∀q∈a,Sz 400 q) (e:∀q∈b,Sz 400 q) (c:a.length<=200) (d:b.length<=200):
  Zp3 (a.map fOf) (b.map fOf)=some (match ZIz a b with |some q=>(fOf q,0) |none=>(zf,5)):=by
 unfold ZIz
 by_cases h:a.length=0\/b.length=0
 ·rw[if_pos h];unfold Zp3 Zqt;rw[ZXp,ZXp]
  by_cases h1:a.length=0
  ·rw[h1];rfl
  ·rw[show b.length=0 by omega,beq_eq_false_iff_ne.2 (show (a.length:Int)≠0 by omega)];rfl
 ·rw[if_neg h];obtain⟨r,_,g⟩:=ZMF f e (by omega) (by omega) (by omega) (by omega);rw[ZLp f e c d (by omega) (by omega) g,ZLc g]
theorem ZPE:ZpX (fOf 1) zf=some zf:=by unfold ZpX Zu6;rw[ZGa (1:Rat) (ZII.wq (by decide)),ZXA,ZXi,cond_false,show Zpg zf=some false by kernel_rfl];rfl
theorem ZMu:ZnM 1=some (fOf 1):=ZLa 1 (by decide) (by decide)
theorem ZQg {a:List Rat} (c:∀q∈a,Sz 400 q) (e:a.length<=200) {l:List G_api_Table} (b:ZMW l) {L:List En1} (h:∀x∈L,x∈ZFY a l):Gds L:=⟨fun x d=>(ZJc c e b).all x (h x d)⟩
theorem ZPC {a:List Rat} (p:∀q∈a,Sz 400 q) (r:a.length<=200) {t:G_api_Table} (s:t.Columns.length<=6/\∀c∈t.Columns,c.Cells.length<=12/\ZGy c.Cells) (k:Int) (l:List G_api_Table) (n j:Int) {b:List Zoi} (y:b.length<=900) [hgo:Gds b]:
  wp (ZpE big k (a.map fOf) l n j t.Columns (t.Columns.length:Int) 0 (ZzG ltE b) t) (fun x=>x=(k,a.map fOf,l,n,j,ZzG ltE (b++ZGU a t t.Columns.length))):=by
 have E:=s.1;refine ZwT ZEA t.Columns (by omega) (fun i (o:List Zoi)=>(k,a.map fOf,l,n,j,t.Columns,(t.Columns.length:Int),i,o,t)) (fun i o=>o=ZzG ltE (b++ZGU a t i)) (ZzG ltE b) (by simp[ZGU]) ?_ ?_
 ·rintro v i o hi rfl e;have w:=s.2 _ (ZXm hi);have F:=ZFb t.Columns[i].Cells;have B:=ZIh a t i;rw[ZIN a t i hi]at e;unfold ZxH ZtS ZvH ZvG;dsimp only;have z:=(ZJh p (ZFn (l:=t.Columns[i].Cells)) r (by omega)).2;have A:=ZKd p (ZFn (l:=t.Columns[i].Cells)) r (by omega);rw[decide_eq_true (show (i:Int) < (t.Columns.length:Int) by omega),cond_true,Zqj hi,ZXA,ZG7 w.2 (by omega),ZXA,A,ZXA];have d:∀x,ZNW a t.ID i t.Columns[i]=some x->Gdm x:=fun x h=>ZKn p r w.1 h
  unfold ZNW at e d;cases hq:ZIz a (ZC3 t.Columns[i].Cells)with
  |none=>
   rw[hq]at e;dsimp only;rw[ZMu,ZXA,ZPE,ZXA,show ((5:Int) == 0)=false from rfl,cond_false,cond_false,ZnF];exact⟨ZnH (by omega),e _ (by simp)⟩
  |some q=>
   rw[hq]at e d;dsimp only at e d|-
   have m:=z q hq;have u:Sz 22 (1 - q):=ZII.sub m;rw[ZMu,ZXA,ZI1 ZII m (by decide),ZXA,show ((0:Int) == 0)=true from rfl,cond_true,ZHU,ZXA,ZD9 (ZI0.wq (by decide)) ((u.mono (by decide:22<=100)).wq (by decide)),ZXA]
   by_cases h1:q < 1
   ·rw[if_pos h1]at e d;haveI:=d _ rfl;have D:Gds (ZzG ltE (b++ZGU a t i)):=⟨fun x g=>by
     rcases ZXs.1 ((ZDP _).mem_iff.1 g)with g |g
     ·exact hgo.all x g
     ·obtain⟨C,_,f⟩:=List.mem_filterMap.1 g;cases hcc:t.Columns[C]? with
      |none=>rw[hcc]at f;cases f
      |some c=>
       rw[hcc,ZXA]at f;exact ZKn p r (s.2 c (List.mem_of_getElem? hcc)).1 f⟩
    rw[decide_eq_true (show 0 < 1 - q by grind),cond_true,ZPN (by rw[ZDp,ZXn];omega),ZXA,ZnF];exact⟨ZnH (by omega),e _ (by rw[Option.toList_some,<-List.append_assoc,ZGF])⟩
   ·rw[if_neg h1]at e;rw[decide_eq_false (show ¬0 < 1 - q by grind),cond_false,ZnF];exact⟨ZnH (by omega),e _ (by simp)⟩
 ·rintro v o rfl;unfold ZxH ZtS;dsimp only;rw[decide_eq_false (show ¬(t.Columns.length:Int) < (t.Columns.length:Int) by omega),cond_false,ZnA]
theorem ZPD {l:List G_api_Table} (d:ZMW l) (r:ZpO l=some true) {c:G_api_Column} (n:c.Cells.length<=12/\ZGy c.Cells) {k:Int} (w:0<=k) (v:k<=1024):
  ZpW l c k=some ((ZzG ltE (ZFY (ZC3 c.Cells) l)).take k.toNat,0):=by
 have u:=d.len;have f:∀q∈ZC3 c.Cells,Sz 400 q:=ZFn;have e:=ZFb c.Cells;have s:=n.1;refine ZpD ?_;unfold ZpW ZpF ZsH;rw[decide_eq_false (show ¬k < 0 by omega),cond_false,decide_eq_false (show ¬k > 1024 by omega),cond_false,r,ZXA,ZXi,cond_false,decide_eq_false (show ¬(c.Cells.length:Int) > 4096 by omega),cond_false,ZG7 n.2 (by omega),ZXA,ZnD];generalize ZC3 c.Cells=own at f e;refine ZnK (ZwT ZEB l (by omega) (fun i (o:List Zoi)=>(k,own.map fOf,l,(l.length:Int),i,o)) (fun i o=>o=ZzG ltE (ZFY own (l.take i))) (Q:=fun x=>x=(k,ZzG ltE (ZFY own l))) [] rfl ?_ ?_) ?_
 ·rintro j i o hi rfl p;have a:∀t∈l.take i,t.Columns.length<=6:=fun t m=>(d.cols t (ZXu m)).1
  have b:=ZGp own (l.take i) a;rw[ZXr]at b;rw[ZXy hi,ZIM]at p;haveI:Gds (ZFY own (l.take i)):=ZQg f (by omega) d fun x g=>by obtain⟨t,m,g⟩:=List.mem_flatMap.1 g;exact List.mem_flatMap.2 ⟨t,ZXu m,g⟩
  unfold ZxI ZtT Zy9;dsimp only;rw[decide_eq_true (show (i:Int) < (l.length:Int) by omega),cond_true,Zqj hi,ZXA,ZnD];refine ZnK (ZPC f (by omega) (d.cols _ (ZXm hi)) k l (l.length:Int) (i:Int) (by omega)) ?_;rintro _ rfl;dsimp only;rw[ZnF];exact⟨ZnH (by omega),p _ rfl⟩
 ·rintro j o rfl;unfold ZxI ZtT;dsimp only;rw[decide_eq_false (show ¬(l.length:Int) < (l.length:Int) by omega),cond_false,ZnA,ZXw]
 ·rintro _ rfl;dsimp only;unfold Zy8;rw[Zou (by split<;>omega),chk_true,ZnA];rw[List.drop_zero,Nat.sub_zero];congr 1;split
  ·rename_i h;rw[ZXj,ZXx (by omega),ZXx (by omega)]
  ·rfl
theorem ZNV {H D:List En1} [hg:Gds D] (h:H.Perm D) (n:H.Pairwise Le):H=ZzG ltE D:=by
 refine ZJs (fun x=>Gdm x) Le (fun a b l k i g=> ?_) (fun y o=>hg.all y (h.mem_iff.1 o)) (h.trans (ZDP D).symm) n ?_
 ·obtain⟨p,f,_⟩:=l.ok;obtain⟨q,e,_⟩:=k.ok;have r:=ZFm a b;unfold Le at i g;have d:ZCN a b=0:=by omega
  unfold ZCN at d;rw[f,e,ZHk,ZHk]at d
  by_cases hz:ZGL q p=0
  ·rw[if_neg (by simp[hz])]at d;have j:=ZOC d;have m:=ZJy hz;obtain⟨v,s⟩:=a;obtain⟨u,t⟩:=b;dsimp only at j f e;rw[j,f,e,m]
  ·rw[if_pos hz]at d;exact absurd d hz
 ·refine ZHE (fun x=>Gdm x) Le (fun x p _ _ h=> ?_) (fun x p _ _ h=> ?_) (fun a b c _ _ _ i g=> ?_) D hg.all
  ·unfold ltE at h;have:=of_decide_eq_true h;unfold Le;omega
  ·unfold ltE at h;have:=of_decide_eq_false h;have:=ZFm x p;unfold Le;omega
  ·exact i.trans g
end Go.Proofs
namespace Go.Proofs
open Go Eng
def upL (l:List G_api_Table) (n:Nat):Prop:=∀i (h:i < l.length),0 < i->i < n->l[i - 1].ID < l[i].ID
def ZTB (l:List G_api_Table):Prop:=upL l l.length/\∀t∈l,ZEU t=true
structure ZGP (l:List G_api_Table):Prop where
 len:l.length<=10
 cols:∀t∈l,ZHA t/\t.Columns.length<=6/\∀c∈t.Columns,c.Cells.length<=12
theorem ZN1 {l:List G_api_Table} (e:ZGP l):Zxp l=some (l.all ZEU):=by
 have j:=e.len;refine ZpD ?_;unfold Zxp;rw[ZnD];refine ZnK (ZwT ZEl l (by omega) (fun i (_:Unit)=>(l,(l.length:Int),i)) (fun i _=>(l.take i).all ZEU=true) (Q:=fun x=>(x= .brk ()/\l.all ZEU=true)\/(x= .ret false/\l.all ZEU=false)) () (by simp) ?_ ?_) ?_
 ·rintro a k _ b hi m;have f:l[k]∈l:=ZXm b;have g:=(e.cols _ f).2;unfold Zxo ZtL;dsimp only;rw[decide_eq_true (show (k:Int) < (l.length:Int) by omega),cond_true,Zqj b,ZXA,ZNu l[k] (by omega) (fun c d=>by have:=g.2 c d;omega),ZXA];cases hv:ZEU l[k]with
  |true=>
   rw[ZXi,cond_false,ZnF];exact⟨ZnH (by omega),m () (by rw[ZXy b,List.all_append,hi];simp[hv])⟩
  |false=>
   rw[ZSL,cond_true,ZnA];refine .inr ⟨rfl, ?_⟩;rw[List.all_eq_false];exact⟨_,f,by simp[hv]⟩
 ·rintro a _ hi;unfold Zxo ZtL;dsimp only;rw[decide_eq_false (show ¬(l.length:Int) < (l.length:Int) by omega),cond_false,ZnA];rw[ZXw]at hi;exact .inl ⟨rfl,hi⟩
 ·rintro x (⟨rfl,h⟩ |⟨rfl,h⟩)
  ·dsimp only;unfold ZyK;rw[ZnA,h]
  ·dsimp only;rw[ZnA,h]
theorem ZPP {l:List G_api_Table} (d:ZGP l):wp (ZxD l) (fun r=>r=true<->ZTB l):=by
 have k:=d.len;unfold ZxD;rw[ZnD]
 suffices hv:wp (ZB2 l) (fun r=>r=true<->ZTB l)from ZnK hv fun r h=>by rw[ZnA];exact h
 unfold ZB2;rw[ZnD];refine ZnK (Zoh ZFU (fun i:Nat=>(l,(i:Int))) (fun i=>1<=i/\upL l i) (fun i=>l.length+1 - i) (Q:=fun x=>(x= .brk l/\upL l l.length)\/(x= .ret false/\¬upL l l.length)) 1 ⟨ZXz _,fun i _ g a=>by omega⟩ (by omega) ?_) ?_
 ·rintro f i ⟨hi,e⟩ m;unfold ZDC ZAT;dsimp only
  by_cases hc:i < l.length
  ·rw[decide_eq_true (show (i:Int) < (l.length:Int) by omega),cond_true,ZnF,show (i:Int) - 1=((i - 1:Nat):Int) by omega,Zqj (show i - 1 < l.length by omega),ZXA,Zqj hc,ZXA];refine⟨ZnH (by omega), ?_⟩
   by_cases hg:l[i - 1].ID>=l[i].ID
   ·rw[decide_eq_true hg,cond_true,ZnA];exact .inr ⟨rfl,fun h=>by have:=h i hc (by omega) hc;omega⟩
   ·rw[decide_eq_false hg,cond_false,ZnF];refine⟨ZnH (by omega),m (i+1) ⟨by omega,fun j b c g=> ?_⟩ (by omega)⟩
    by_cases hji:j=i
    ·subst hji;omega
    ·exact e j b c (by omega)
  ·rw[decide_eq_false (show ¬(i:Int) < (l.length:Int) by omega),cond_false,ZnA];exact .inl ⟨rfl,fun j b c _=>e j b c (by omega)⟩
 ·rintro x (⟨rfl,h⟩ |⟨rfl,h⟩)
  ·dsimp only;unfold ZCn ZzI;rw[decide_eq_true (show (l.length:Int)<=1024 by omega),cond_true,ZN1 d,ZXA,ZnA];rw[List.all_eq_true];exact⟨fun a=>⟨h,a⟩,fun a=>a.2⟩
  ·dsimp only;rw[ZnA];exact⟨fun a=>by simp at a,fun a=>absurd a.1 h⟩
theorem ZNB {l:List G_api_Table} (n:ZGP l):wp (ZpO l) (fun r=>r=true<->ZTB l):=by
 have u:=n.len;unfold ZpO;rw[ZnD];refine ZnK (ZwT ZC2 l (by omega) (fun i (_:Unit)=>(l,l,(l.length:Int),i)) (fun i _=>upL l i/\∀t∈l.take i,ZEU t=true) (Q:=fun x=>(x= .brk l/\ZTB l)\/(x= .ret false/\¬ZTB l)) () ⟨fun i _ _ h=>by omega,fun t h=>by simp at h⟩ ?_ ?_) ?_
 ·rintro f k _ d ⟨g,e⟩ q;have p:l[k]∈l:=ZXm d;have s:=n.cols _ p;unfold ZtY Zrj Zp9;dsimp only;rw[decide_eq_true (show (k:Int) < (l.length:Int) by omega),cond_true,Zqj d,ZXA,ZJw l[k] s.1 (by omega),ZXA];cases hv:ZEU l[k]with
  |false=>
   rw[ZSL,cond_true,cond_true,ZnA];exact .inr ⟨rfl,fun h=>by have:=h.2 _ p;rw[hv]at this;cases this⟩
  |true=>
   have b:∀t∈l.take (k+1),ZEU t=true:=fun t a=>by
    rw[ZXy d]at a;rcases ZXs.1 a with a |a
    ·exact e t a
    ·simp only[ZXv]at a;subst a;exact hv
   rw[ZXi,cond_false]
   by_cases h0:0 < k
   ·rw[decide_eq_true (show (k:Int) > 0 by omega),cond_true,ZnF];refine⟨ZnH (by omega), ?_⟩;rw[show (k:Int) - 1=((k - 1:Nat):Int) by omega,Zqj (show k - 1 < l.length by omega),ZXA]
    by_cases hg:l[k - 1].ID>=l[k].ID
    ·rw[decide_eq_true hg,cond_true,ZnA];exact .inr ⟨rfl,fun h=>by have:=h.1 k d h0 d;omega⟩
    ·rw[decide_eq_false hg,cond_false,ZnF];refine⟨ZnH (by omega),q () ⟨fun j m o c=> ?_,b⟩⟩
     by_cases hji:j=k
     ·subst hji;omega
     ·exact g j m o (by omega)
   ·rw[decide_eq_false (show ¬(k:Int) > 0 by omega),cond_false,cond_false,ZnF];exact⟨ZnH (by omega),q () ⟨fun j m o c=>by omega,b⟩⟩
 ·rintro f _ ⟨g,e⟩;unfold ZtY Zrj;dsimp only;rw[decide_eq_false (show ¬(l.length:Int) < (l.length:Int) by omega),cond_false,ZnA];rw[ZXw]at e;exact .inl ⟨rfl,g,e⟩
 ·rintro x (⟨rfl,h⟩ |⟨rfl,h⟩)
  ·dsimp only;unfold Zvr;rw[ZnA,decide_eq_true (show (l.length:Int)<=1024 by omega)];exact⟨fun _=>h,fun _=>rfl⟩
  ·dsimp only;rw[ZnA];exact⟨fun c=>by simp at c,fun c=>absurd c h⟩
theorem ZLg {l:List G_api_Table} (a:ZGP l):∃b,ZxD l=some b/\ZpO l=some b:=by obtain⟨b,d,g⟩:=ZPP a;obtain⟨c,e,f⟩:=ZNB a;refine⟨b,d, ?_⟩;rw[e,Bool.eq_iff_iff.2 (f.trans g.symm)]
theorem ZMb {L:List En1} [hg:Gds L] (f:L.length<=1000):ZtU L L=some true:=by
 refine ZpD ?_;unfold ZtU;rw[bne_self_eq_false,cond_false,ZnD];refine ZnK (ZwT ZC5 L (by omega) (fun i (_:Unit)=>(L,L,(L.length:Int),i)) (fun _ _=>True) (Q:=fun x=>x= .brk ()) () trivial ?_ ?_) ?_
 ·rintro a k _ c _ e;obtain⟨p,d,b⟩:=(hg.all _ (ZXm c)).ok;unfold ZuF Zrw Zsp;dsimp only;rw[decide_eq_true (show (k:Int) < (L.length:Int) by omega),cond_true,Zqj c,ZXA,ZXA,beq_self_eq_true,beq_self_eq_true,Bool.and_true,Bool.and_true,ZXi,cond_false,ZXA,d,ZJu _ _ (b.wq (by omega)) (b.wq (by omega)),ZXA,decide_eq_true rfl,ZXi,cond_false,ZnF];exact⟨ZnH (by omega),e () trivial⟩
 ·rintro a _ _;unfold ZuF Zrw;dsimp only;rw[decide_eq_false (show ¬(L.length:Int) < (L.length:Int) by omega),cond_false,ZnA]
 ·rintro _ rfl;dsimp only;unfold Zv2;rw[ZnA]
end Go.Proofs
namespace Go.Proofs
open Go Eng
theorem ZGP.q {l:List G_api_Table} (h:ZGP l):ZMW l:=⟨h.len,fun t a=>⟨(h.cols t a).2.1,fun c b=>⟨(h.cols t a).2.2 c b,((h.cols t a).1.2 c b).2⟩⟩⟩
theorem ZHZ {m:Nat} {b:Int} {l:List G_api_Table} (h:∀t∈l,ZHG t) (g:l.length<=10):ZGP l:=⟨g,fun t e=>by obtain⟨n,j,d⟩:=(h t e).rows;have i:=(h t e).cols;refine⟨⟨by have:=(ZHL (h t e).name).2;omega,fun c a=>⟨by have:=(ZHL (d c a).1).2;omega,fun x f=>by have:=(ZHL ((d c a).2.2 x f).1).2;omega⟩⟩,by omega,fun c a=>by have:=(d c a).2.1;omega⟩⟩
theorem ZNr {l:List G_api_Table} (d:ZGP l) {c:G_api_Column} (h:c.Cells.length<=12/\ZGy c.Cells) (n:Int):
  ∃(H:List Zoi) (e:Int),Zxz l c n=some (H,e)/\ZpW l c n=some (H,e)/\Gds H/\H.length<=1000:=by
 have a:Gds ([]:List Zoi):=⟨fun x g=>by simp at g⟩
 by_cases h0:n < 0
 ·refine⟨[],2, ?_, ?_,a,by simp⟩
  ·unfold Zxz Zvw;rw[decide_eq_true h0,cond_true,cond_true]
  ·unfold ZpW ZpF;rw[decide_eq_true h0,cond_true,cond_true]
 by_cases h1:n > 1024
 ·refine⟨[],2, ?_, ?_,a,by simp⟩
  ·unfold Zxz Zvw;rw[decide_eq_false h0,cond_false,decide_eq_true h1,cond_true]
  ·unfold ZpW ZpF;rw[decide_eq_false h0,cond_false,decide_eq_true h1,cond_true]
 obtain⟨b,j,f⟩:=ZLg d;cases b with
 |false=>
  refine⟨[],1, ?_, ?_,a,by simp⟩
  ·unfold Zxz Zvw Zz1;rw[decide_eq_false h0,cond_false,decide_eq_false h1,cond_false,j,ZXA,ZSL,cond_true,cond_true]
  ·unfold ZpW ZpF ZsH;rw[decide_eq_false h0,cond_false,decide_eq_false h1,cond_false,f,ZXA,ZSL,cond_true,cond_true]
 |true=>
  have w:=d.len;have r:∀q∈ZC3 c.Cells,Sz 400 q:=ZFn;have p:=ZFb c.Cells;have v:=h.1;obtain⟨_,u,H,i,z,rfl⟩:=ZSu d.q j h (k:=n) (by omega) (by omega);have s:Gds (ZFY (ZC3 c.Cells) l):=ZJc r (by omega) d.q;have m:=ZGp (ZC3 c.Cells) l fun t y=>(d.cols t y).2.1
  have A:=i.length_eq;have o:=ZPD d.q f h (k:=n) (by omega) (by omega);rw[<-ZNV i z]at o;exact⟨_,_,u,o,⟨fun x g=>s.all x (i.mem_iff.1 (ZXu g))⟩,by rw[ZXr];omega⟩
theorem ZVv {g:List G_api_Table} (j:ZGP g) {c:G_api_Column} (l:c.Cells.length<=12/\ZGy c.Cells) (k b d:Int) (f:List (List G_api_Table)) (a:List Int) (r:a.length<=1000):
  wp (ZoK big k g b d (a.length:Int) 0 c f a) (fun x=>x= .brk (k,b,d,c,f)):=by
 refine ZwT ZCD a (by omega) (fun i (_:Unit)=>(k,g,b,d,(a.length:Int),i,c,f,a)) (fun _ _=>True) () trivial ?_ ?_
 ·rintro h i _ hi _ p;obtain⟨H,e,n,o,q,m⟩:=ZNr j l a[i];unfold Ztg ZqB Zrm;dsimp only;rw[decide_eq_true (show (i:Int) < (a.length:Int) by omega),cond_true,ZnF,ZXj,ZXl hi,ZXA,n,ZXA];refine⟨ZoH (by omega), ?_⟩;dsimp only;rw[o,ZXA];dsimp only;rw[ZMb m,ZXA,ZXi,cond_false,bne_self_eq_false,cond_false,ZnF];exact⟨ZnH (by omega),p () trivial⟩
 ·rintro h _ _;unfold Ztg ZqB;dsimp only;rw[decide_eq_false (show ¬(a.length:Int) < (a.length:Int) by omega),cond_false,ZnA]
theorem ZVw {ls:List (List G_api_Table)} (g:ls.length<=1000) (b:∀l∈ls,ZGP l) {c:G_api_Column} (f:c.Cells.length<=12/\ZGy c.Cells) (k:Int):
  wp (ZoL big k (ls.length:Int) 0 c ls) (fun x=>x= .brk ()):=by
 refine ZwT ZCE ls (by omega) (fun i (_:Unit)=>(k,(ls.length:Int),i,c,ls)) (fun _ _=>True) () trivial ?_ ?_
 ·rintro a i _ hi _ h;unfold Zth ZqC Zua;dsimp only;rw[decide_eq_true (show (i:Int) < (ls.length:Int) by omega),cond_true,ZnF,ZXj,ZXl hi,ZXA];refine⟨ZoH (by omega), ?_⟩;rw[ZnD];refine ZnK (ZMo k (m:=8) (by omega)) fun q _=> ?_
  rw[ZnD];refine ZnK (ZMo k (m:=2) (by omega)) fun e d=> ?_
  rw[ZnF];refine⟨ZnH (by omega), ?_⟩;rw[ZnD];refine ZnK (ZVv (b _ (ZXm hi)) f k (ls.length:Int) (i:Int) ls [k,q,1024+e] (by simp)) ?_;rintro _ rfl;dsimp only;rw[ZnF];exact⟨ZnH (by omega),h () trivial⟩
 ·rintro a _ _;unfold Zth ZqC;dsimp only;rw[decide_eq_false (show ¬(ls.length:Int) < (ls.length:Int) by omega),cond_false,ZnA]
theorem ZVx (t:List Int) (k:Int) (f e:List G_api_Table) (d g:Int) (b:List G_api_Column) (l:b.length<=6):
  wp (ZpA big t k f e d g b (b.length:Int) 0) (fun x=>x= .ret true\/(x= .brk (t,k,f,e,d,g)/\∀c∈b,c.Cells.length<=12)):=by
 refine ZwT ZCF b (by omega) (fun i (_:Unit)=>(t,k,f,e,d,g,b,(b.length:Int),i)) (fun i _=>∀c∈b.take i,c.Cells.length<=12) () (by simp) ?_ ?_
 ·rintro j i _ hi h m;unfold Zti ZqD;dsimp only;rw[decide_eq_true (show (i:Int) < (b.length:Int) by omega),cond_true,Zqj hi,ZXA]
  by_cases hc:(b[i].Cells.length:Int) > 12
  ·rw[decide_eq_true hc,cond_true,ZIo,ZXA,ZnA];exact .inl rfl
  ·rw[decide_eq_false hc,cond_false,ZnF];refine⟨ZnH (by omega),m () fun c a=> ?_⟩;rw[ZXy hi]at a;rcases ZXs.1 a with a |a
   ·exact h c a
   ·rw[ZXv.1 a];omega
 ·rintro j _ h;unfold Zti ZqD;dsimp only;rw[decide_eq_false (show ¬(b.length:Int) < (b.length:Int) by omega),cond_false,ZnA];rw[ZXw]at h;exact .inr ⟨rfl,h⟩
theorem ZVy (t:List Int) (k:Int) (a:List G_api_Table) (g:a.length<=6):
  wp (ZoM big t k a a (a.length:Int) 0) (fun x=>x= .ret true\/(x= .brk (t,k,a)/\∀y∈a,y.Columns.length<=6/\∀c∈y.Columns,c.Cells.length<=12)):=by
 refine ZwT ZCG a (by omega) (fun i (_:Unit)=>(t,k,a,a,(a.length:Int),i)) (fun i _=>∀y∈a.take i,y.Columns.length<=6/\∀c∈y.Columns,c.Cells.length<=12) () (by simp) ?_ ?_
 ·rintro d i _ hi h f;unfold Ztj ZqE Zuc;dsimp only;rw[decide_eq_true (show (i:Int) < (a.length:Int) by omega),cond_true,Zqj hi,ZXA]
  by_cases hc:(a[i].Columns.length:Int) > 6
  ·rw[decide_eq_true hc,cond_true,ZIo,ZXA,ZnA];exact .inl rfl
  ·rw[decide_eq_false hc,cond_false,ZnD];refine ZnK (ZVx t k a a (a.length:Int) (i:Int) a[i].Columns (by omega)) ?_;rintro x (rfl |⟨rfl,e⟩)
   ·dsimp only;rw[ZnA];exact .inl rfl
   ·dsimp only;rw[ZnF];refine⟨ZnH (by omega),f () fun y b=> ?_⟩;rw[ZXy hi]at b;rcases ZXs.1 b with b |b
    ·exact h y b
    ·rw[ZXv.1 b];exact⟨by omega,e⟩
 ·rintro d _ h;unfold Ztj ZqE;dsimp only;rw[decide_eq_false (show ¬(a.length:Int) < (a.length:Int) by omega),cond_false,ZnA];rw[ZXw]at h;exact .inr ⟨rfl,h⟩
theorem quantileTop_law (t:List Int) (k:Int) (a:List G_api_Table) (i:∀y∈a,ZHA y):Zwc t k a=some true:=by
 refine ZpD ?_;unfold Zwc ZAS Zrn;rw[ZXA]
 by_cases hlt:(t.length:Int)<=500
 ·rw[decide_eq_true hlt,ZXi,cond_false]
  by_cases hr:(a.length:Int) > 6
  ·rw[decide_eq_true hr,cond_true,ZIo,ZXA,ZnA]
  ·rw[decide_eq_false hr,cond_false,ZnD];refine ZnK (ZVy t k a (by omega)) ?_;rintro x (rfl |⟨rfl,h⟩)
   ·dsimp only;rw[ZnA]
   dsimp only;unfold Zub ZBC;rw[ZnD,ZnA,ZnD];refine ZnK (ZL4 (d:=⟨t,0⟩) ⟨by simp,by simp,by simp only;omega⟩ (most:=4) (by omega) (by omega)) ?_;rintro⟨l,z⟩ ⟨⟨g,r⟩,j⟩;dsimp only at g r j|-
   rw[ZnD];refine ZnK (ZJJ j 6 (by omega)) ?_;rintro⟨c,w⟩ ⟨q,p⟩;dsimp only at q p|-
   have e:c.Cells.length<=12/\ZGy c.Cells:=⟨by have:=q.2.1;omega,fun x n=>by have:=(ZHL (q.2.2 x n).1).2;omega⟩;have s:=g.len;have v:l[(0:Int).toNat]? =some l[0]:=ZXl (by omega);rw[ZnF,ZnF,v,ZXA,ZnF,ZnF];refine⟨decide_eq_true (by omega),ZoH (by omega),by rfl,Ztn (by rw[ZXr,ZXq];omega), ?_⟩;have o:=ZHZ (m:=4) (b:=50) (l:=l) (fun t f=>(g.ok t f).1) (by omega);rw[ZnD];refine ZnK (ZVw (ls:=[l,a,l.take (l.length:Int).toNat++[l[0]]]) (by simp) (fun x n=> ?_) e k) ?_
   ·simp only[List.mem_cons,List.not_mem_nil,or_false]at n;rcases n with rfl |rfl |rfl
    ·exact o
    ·exact⟨by omega,fun y u=>⟨i y u,h y u⟩⟩
    ·refine ZHZ (m:=4) (b:=50) (fun t f=> ?_) (by rw[ZXn,ZXr,ZXq];omega);rcases ZXs.1 f with f |f
     ·exact(g.ok t (ZXu f)).1
     ·rw[ZXv.1 f];exact(g.ok _ (ZXm _)).1
   ·rintro _ rfl;dsimp only;unfold Zt9;rw[ZIo,ZXA,ZnA]
 ·rw[decide_eq_false hlt,ZSL,cond_true,cond_true,ZIo,ZXA,ZnA]
end Go.Proofs
namespace Eng
open Go Go.Lib
theorem globOk_one {Pg:Program} {w:World} {n:String} {g:Nat} {t e:TypeId} {k:IntKind} {z:Int} (hn:Pg.globalNamed n=some g) (R:(Pg.globals[g]?).map (·.type)=some t)
  (ht:Pg.underlying t=some (.slice e)) (he:Pg.underlying e=some (.int k)) (U:Pg.cellsOf e=1) (W:k.min<=z/\z<=k.max)
  (h:VarReads Pg w n (.slice [.lit (.int k z)] [])):Zej w (fun b=>b < w.heap.size) g [P.sl 1 [.int k z]]:=by
 obtain⟨g',t',cs,aa,p,hg,F,C,hd⟩:=h;obtain rfl:=ZXB (hn.symm.trans hg);obtain rfl:=ZXB (R.symm.trans F);rcases DataW.trod_slice ht hd with ⟨_,r⟩ |⟨a,V,I,o,Z,m,_,G,r,_,hl,X,D,K,_,_⟩
 ·cases congrArg Prod.fst r
 ·have e0:=congrArg Prod.fst r;simp only[DataW.slice.injEq]at e0;obtain⟨H,_⟩:=e0
  match o,H with
  | [(d,q)],H=>
   simp only[List.map_cons,List.map_nil,List.cons.injEq,and_true]at H;subst H;have A:V=1:=by simpa using D.symm
   subst A;obtain⟨ci,E,S⟩:=Option.bind_eq_some_iff.1 (K 0 (by decide));obtain⟨f,hc,L,_⟩:=DataW.trod_int he S;have Q:f=z:=by have:=congrArg Prod.fst L;simpa using this.symm
   subst Q;subst hc;rw[U,Nat.zero_mul]at E;obtain⟨_,_,J⟩:=World.cells?_some E;have h0:=J 0 (by decide);have l:w.cell? a=some (.int k f):=by simpa[Addr.add]using h0
   have c:a.spot=none:=by
    unfold World.cell? at l;cases hs:a.spot with
    |none=>rfl
    |some s=>rw[hs]at l;split at l<;>simp at l
   have M:a=⟨a.block,a.off,none⟩:=by cases a;simp at c;subst c;rfl
   have T:a.block < w.heap.size:=ZjV (by rw[M]at l;exact l);have B:cs.size=1:=by have:=congrArg List.length G;simpa using this
   refine ZGq (t:=0) (fr:= #[]) (ZHX hn C) _ (by rw[B];rfl) fun j v p u hp=> ?_
   have Y:j=0:=by have:=(Array.getElem?_eq_some_iff.1 u).1;omega
   subst Y;simp only[ZXk,Option.some.injEq]at hp;subst hp;rw[<-Array.getElem?_toList,G]at u;simp only[ZXk,Option.some.injEq]at u;subst u;refine⟨.sl (some a) 1 I _ _ (fun _=> .int k f) rfl (by decide) hl (fun i hi=>rfl) (fun i hi=> ?_) (fun i x r=> ?_),rfl⟩
   ·have y:i=0:=by omega
    subst y;refine⟨a.block,a.off,by rw[<-M],T,fun j v u=> ?_⟩;have Y:=(Array.getElem?_eq_some_iff.1 u).1;have N:j=0:=by have:(Value.int k f).cells.size=1:=rfl;omega
    subst N;have O:v= .int k f:=by have:(Value.int k f).cells[0]? =some (.int k f):=rfl;exact ZXB (u.symm.trans this)
    subst O;rw[M]at l;simpa using l
   ·have y:i=0:=by have:=(List.getElem?_eq_some_iff.1 r).1;simp at this;omega
    subst y;simp only[ZXk,Option.some.injEq]at r;subst r;exact .int k f W.1 W.2
end Eng
namespace Eng
open Go
inductive ZLW (s:List UInt8):P->Prop
 |str:ZLW s (.str s)
 |agg {cs:List P} {c:P} (h:c∈cs) (h':ZLW s c):ZLW s (.agg cs)
 |sl {sz:Nat} {es:List P} {e:P} (h:e∈es) (h':ZLW s e):ZLW s (.sl sz es)
theorem RelP.strs {w:World} {S:Nat->Prop} {s:List UInt8} {x:P} (k:ZLW s x):∀{v:Value},RelP w S v x->s.length<=Zq:=by
 induction k with
 |str=>intro v h;cases h;assumption
 |agg e _ f=>
  intro v h;cases h with
  |agg j u g t h=>
   obtain⟨i,hi,b⟩:=List.mem_iff_getElem.1 e;have c:i < j.size:=by rw[g];exact hi
   exact f (h i j[i] _ (Array.getElem?_eq_getElem c) (by rw[ZXl hi,b]))
 |sl e _ f=>
  intro v h;cases h with
  |sl a p l q y o g n r m d h=>
   obtain⟨i,hi,b⟩:=List.mem_iff_getElem.1 e;exact f (h i _ (by rw[ZXl hi,b]))
inductive ZMX (k:IntKind) (n:Int):P->Prop
 |int:ZMX k n (.int k n)
 |agg {cs:List P} {c:P} (h:c∈cs) (h':ZMX k n c):ZMX k n (.agg cs)
 |sl {sz:Nat} {es:List P} {e:P} (h:e∈es) (h':ZMX k n e):ZMX k n (.sl sz es)
theorem RelP.lens {w:World} {S:Nat->Prop} {e:Nat} {b:List P} {v:Value} (h:RelP w S v (.sl e b)):b.length<=281474976710656:=by
 cases h with
 |sl a i f e b g k c l j d h=>unfold Zag at c;omega
end Eng
namespace Go.Proofs
open Go Eng
theorem ZPI {w:World} {S:Nat->Prop} {v:Value} {y:List G_api_Table} (h:RelP w S v (U.encE (.sl (.st 2)) y)):∀t∈y,ZHA t:=by
 have d:Zq=9223372036854775807:=by decide
 have a:RelP w S v (.sl 3 (y.map ZGr)):=h;intro t b;refine⟨?_,fun c e=>⟨?_,fun x f=> ?_⟩⟩
 ·rw[<-d];exact a.strs (.sl (ZXt.2 ⟨t,b,rfl⟩) (.agg (by simp) .str))
 ·rw[<-d];exact a.strs (.sl (ZXt.2 ⟨t,b,rfl⟩) (.agg (c:= .sl 2 (t.Columns.map ZCO)) (by simp) (.sl (ZXt.2 ⟨c,e,rfl⟩) (.agg (by simp) .str))))
 ·rw[<-d];exact a.strs (.sl (ZXt.2 ⟨t,b,rfl⟩) (.agg (c:= .sl 2 (t.Columns.map ZCO)) (by simp) (.sl (ZXt.2 ⟨c,e,rfl⟩) (.agg (c:= .sl 2 (c.Cells.map ZFz)) (by simp) (.sl (ZXt.2 ⟨x,f,rfl⟩) (.agg (by simp) .str))))))
end Go.Proofs
