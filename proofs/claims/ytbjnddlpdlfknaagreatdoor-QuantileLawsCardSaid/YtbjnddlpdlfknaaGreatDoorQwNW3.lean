/- Numbers of many words: products, shifts. -/
import Derived.Test.YtbjnddlpdlfknaaGreatDoorQwNW2
set_option linter.unusedVariables false
set_option linter.unusedSimpArgs false
set_option linter.unusedSectionVars false
namespace Go.Proofs
open Go Eng
theorem Zvf:∀(l:List Nat) (i x:Nat) (h:i < l.length),val (l.set i x)+Bw ^ i*l[i]=val l+Bw ^ i*x
 | [],i,x,h=>absurd h (by simp)
 |d::l,0,x,h=>by simp only[List.set_cons_zero,val,Nat.pow_zero,Nat.one_mul,List.getElem_cons_zero];omega
 |d::l,i+1,x,h=>by
  have:=Zvf l i x (by simpa using h);have e:Bw*(val (l.set i x)+Bw ^ i*l[i]'(by simpa using h))=Bw*(val l+Bw ^ i*x):=by rw[this]
  rw[Nat.mul_add,Nat.mul_add]at e;simp only[List.set_cons_succ,val,Nat.pow_succ,List.getElem_cons_succ];rw[Nat.mul_comm (Bw ^ i) Bw,Nat.mul_assoc,Nat.mul_assoc];omega
theorem Zzq {x y:Nat} (hx:x≤4294967295) (hy:y≤4294967295):x*y≤18446744065119617025:=Nat.mul_le_mul hx hy
theorem ZvK {x y:Nat} (hx:x < Bw) (hy:y < Bw):x*y≤18446744065119617025:=Zzq (by simp only[Bw]at hx;omega) (by simp only[Bw]at hy;omega)
theorem ZAd {c x y e:Nat} (hc:c < Bw) (hx:x < Bw) (hy:y < Bw) (he:e < Bw):IntKind.wrap .u64 ((c:Int)+IntKind.wrap .u64 (IntKind.wrap .u64 (IntKind.wrap .u64 (x:Int)*IntKind.wrap .u64 (y:Int))+IntKind.wrap .u64 (e:Int)))=((c+x*y+e:Nat):Int):=by have:=ZvK hx hy;simp only[Bw]at hc hx hy he;rw[Zn4 (by omega),Zn4 (by omega),Zn4 (by omega),←Int.natCast_mul,Zn4 (by omega),←Int.natCast_add,Zn4 (by omega),←Int.natCast_add,Zn4 (by omega)];congr 1;omega
theorem ZyI {c x y e:Nat} (hc:c < Bw) (hx:x < Bw) (hy:y < Bw) (he:e < Bw):(c+x*y+e) / Bw < Bw:=by
 have:=ZvK hx hy;simp only[Bw]at hc hx hy he⊢
 omega
theorem Zyg (a b:Nat) (ha:(wd a).length≤100000) (hb:(wd b).length≤100000):ZoM (iL (wd a)) (iL (wd b))=some (iL (wd (a*b))):=by
 refine ZrO ?_;unfold ZoM;rw[ZnR,ZnR,ZnF,ZnF,ZnD,←Int.natCast_add,Int.toNat_natCast,Zwt];refine⟨ZnG (by omega),Zva (by omega), ?_⟩;generalize hm:(wd a).length=m at ha⊢
 generalize hn:(wd b).length=n at hb⊢
 refine Zn5 (Zr8 ZuM m (by omega) (fun i (s:List Nat)=>(iL (wd b),iL (wd a),(m:Int),i,iL s)) (fun i s=>s.length=m+n∧Dg s∧val s=val ((wd a).take i)*b∧∀k,i+n≤k→k < m+n→s[k]? =some 0)
  (Q:=fun y=>∃(o:List Nat),y=iL o∧Dg o∧o.length=m+n∧val o=a*b) (List.replicate (m+n) 0) ⟨by simp,Zx1 _,by rw[Zxc];simp[val],fun k _ h=>by rw[List.getElem?_replicate,if_pos h]⟩ ?_ ?_) ?_
 ·rintro rec i s hlt ⟨hl,hd,hv,hz⟩ ih;have hi:i < (wd a).length:=by omega
  have h1:=(ZsH a).get hi;unfold Zrf ZpW;dsimp only;rw[Zob];refine⟨fun _=> ?_,fun h=>by simp only[decide_eq_false_iff_not]at h;omega⟩;rw[ZrN hi,ZnD,ZnC,ZnD,ZnR,hn];generalize ex:(wd a)[i]=x at h1;refine Zn5 (Zr8 ZuL n (by omega) (fun j (t:Nat×List Nat)=>(iL (wd b),(i:Int),(x:Int),(t.1:Int),iL (wd a),(m:Int),(i:Int),iL (wd b),(n:Int),j,iL t.2)) (fun j t=>t.1 < Bw∧t.2.length=m+n∧Dg t.2∧val t.2+Bw ^ (i+j)*t.1=val s+Bw ^ i*(x*val ((wd b).take j))∧∀k,i+n≤k→k < m+n→t.2[k]? =some 0)
   (Q:=fun y=>∃(c:Nat) (o:List Nat),y=(iL (wd b),(i:Int),(c:Int),iL (wd a),(m:Int),(i:Int),iL o)∧c < Bw∧o.length=m+n∧Dg o∧val o+Bw ^ (i+n)*c=val s+Bw ^ i*(x*b)∧∀k,i+n≤k→k < m+n→o[k]? =some 0) (0,s) ⟨by simp only[Bw];omega,hl,hd,by simp[val],hz⟩ ?_ ?_) ?_
  ·rintro rec2 j ⟨c,o⟩ hj ⟨hc,hol,hod,hov,hoz⟩ ih2;dsimp only at hc hol hod hov hoz ih2;have hj2:j < (wd b).length:=by omega
   have h2:=(ZsH b).get hj2;have hij:i+j < o.length:=by omega
   have h3:=hod.get hij;unfold Zre ZpV;dsimp only;rw[Zob];refine⟨fun _=> ?_,fun h=>by simp only[decide_eq_false_iff_not]at h;omega⟩;rw[ZrN hj2,ZnD,ZnC,ZnF,ZnF,←Int.natCast_add,Int.toNat_natCast,ZvM hij,ZnD,ZnC,ZnF,ZnF,ZnF,ZnF];generalize ey:(wd b)[j]=y at h2;generalize ee:o[i+j]=e at h3;rw[ZAd hc h1 h2 h3,Zsh,show (32:Int)=((32:Nat):Int)from rfl,Zvq 32 (by omega),ZnR,Zvb];refine⟨ZnG (by omega),ZqJ ⟨by omega,by omega⟩,ZnG (by omega),ZqJ ⟨by omega,by omega⟩,by decide,ZnG (by omega), ?_⟩;refine ih2 ((c+x*y+e) / Bw,o.set (i+j) ((c+x*y+e) % Bw)) ⟨ZyI hc h1 h2 h3,by simp[hol],hod.set _ (Nat.mod_lt _ (by decide)), ?_,fun k hk hk2=> ?_⟩
   ·dsimp only;have q1:=Zvf o (i+j) ((c+x*y+e) % Bw) hij;rw[ee]at q1;have q2:Bw ^ (i+j)*((c+x*y+e) % Bw+Bw*((c+x*y+e) / Bw))=Bw ^ (i+j)*(c+x*y+e):=by rw[Nat.mod_add_div]
    rw[Nat.mul_add,Nat.mul_add,Nat.mul_add]at q2;rw[←Nat.add_assoc,Nat.pow_succ,Nat.mul_assoc,ZnZ hj2,ey,Nat.mul_add,Nat.mul_add];have q3:Bw ^ i*(x*(Bw ^ j*y))=Bw ^ (i+j)*(x*y):=by rw[Nat.pow_add,Nat.mul_assoc,Nat.mul_left_comm x]
    omega
   ·dsimp only;rw[List.getElem?_set_ne (by omega)];exact hoz k hk hk2
  ·rintro rec2 ⟨c,o⟩ ⟨hc,hol,hod,hov,hoz⟩;dsimp only at hc hol hod hov hoz;unfold Zre ZpV;dsimp only;rw[Zob];refine⟨fun h=>by have:=of_decide_eq_true h;omega,fun _=> ?_⟩;rw[ZnC];rw[List.take_of_length_le (by omega),Zqs]at hov;exact⟨c,o,rfl,hc,hol,hod,hov,hoz⟩
  ·rintro y ⟨c,o,rfl,hc,hol,hod,hov,hoz⟩;dsimp only;unfold Zr4;rw[ZnR,hn,ZnF,ZnF,ZnF,←Int.natCast_add,Int.toNat_natCast,ZsF hc,Zvb,ZnR];refine⟨ZnG (by omega),ZqJ ⟨by omega,by omega⟩,ZnG (by omega), ?_⟩;have hp:i+n < o.length:=by omega
   have h0:o[i+n]=0:=by have:=hoz (i+n) (Nat.le_refl _) (by omega);rw[List.getElem?_eq_getElem hp]at this;exact Option.some.inj this
   have q1:=Zvf o (i+n) c hp;rw[h0,Nat.mul_zero,Nat.add_zero]at q1;refine ih (o.set (i+n) c) ⟨by simp[hol],hod.set _ hc, ?_,fun k hk hk2=> ?_⟩
   ·rw[q1,hov,hv,ZnZ hi,ex,Nat.add_mul,Nat.mul_assoc]
   ·rw[List.getElem?_set_ne (by omega)];exact hoz k (by omega) hk2
 ·rintro rec s ⟨hl,hd,hv,hz⟩;unfold Zrf ZpW;dsimp only;rw[Zob];refine⟨fun h=>by have:=of_decide_eq_true h;omega,fun _=> ?_⟩;rw[ZnC];rw[List.take_of_length_le (by omega),Zqs]at hv;exact⟨s,rfl,hd,hl,hv⟩
 ·rintro y ⟨o,rfl,hd,hl,hv⟩;unfold Zr3;rw[Zvp hd (by omega),ZnD,ZnC,ZnC,hv]
theorem ZwT {c d s:Nat} (hs:s≤31) (hc:c < 2 ^ s) (hd:d < Bw):c|||(d*2 ^ s % Bw)=c+d*2 ^ s % Bw:=by
 have e:Bw=2 ^ (32 - s)*2 ^ s:=by rw[←Nat.pow_add,show 32 - s+s=32 by omega]
 rw[e,Nat.mul_mod_mul_right];have:=Nat.shiftLeft_add_eq_or_of_lt hc (d % 2 ^ (32 - s));rw[Nat.shiftLeft_eq]at this;rw[Nat.or_comm,←this,Nat.add_comm]
theorem Zzh {d s:Nat} (hs:s≤32) (hd:d < Bw):shlK .u64 (IntKind.wrap .u64 (d:Int)) (s:Int)=((d*2 ^ s:Nat):Int):=by
 have h2:2 ^ s≤2 ^ 32:=Nat.pow_le_pow_right (by decide) hs;have h3:d*2 ^ s≤4294967295*4294967296:=Nat.mul_le_mul (by simp only[Bw]at hd;omega) h2;unfold shlK;simp only[Bw]at hd;rw[Zn4 (by omega),Int.toNat_natCast,show IntKind.bits .u64=64 from rfl,Nat.min_eq_left (by omega)];have e:(d:Int)*(2:Int) ^ s=((d*2 ^ s:Nat):Int):=by push_cast;rfl
 rw[e,Zn4 (by omega)]
theorem ZwD (l:List Nat) (s:Nat) (hs:s≤31) (hl:l.length≤100000) (hd:Dg l):∃o:List Nat,ZoB (iL l) (s:Int)=some (iL o)∧Dg o∧o.length=l.length+1∧val o=val l*2 ^ s:=by
 have:wp (ZoB (iL l) (s:Int)) (fun y=>∃o:List Nat,y=iL o∧Dg o∧o.length=l.length+1∧val o=val l*2 ^ s):=by
  have h2:2 ^ s≤2 ^ 31:=Nat.pow_le_pow_right (by decide) hs;unfold ZoB Zrh;rw[ZnR,ZnF,ZnF,ZnD,show (l.length:Int)+1=((l.length+1:Nat):Int)from rfl,Int.toNat_natCast,Zwt];refine⟨ZnG (by omega),Zva (by omega), ?_⟩;refine Zn5 (Zr8 Zuj l.length (by omega) (fun i (t:List Nat×Nat)=>((s:Int),iL l,(l.length:Int),i,iL (t.1++t.2::List.replicate (l.length - t.1.length) 0))) (fun i t=>t.1.length=i∧t.2 < 2 ^ s∧Dg t.1∧val t.1+Bw ^ i*t.2=val (l.take i)*2 ^ s)
   (Q:=fun y=>∃o:List Nat,y=iL o∧Dg o∧o.length=l.length+1∧val o=val l*2 ^ s) ([],0) ⟨rfl,Nat.two_pow_pos s,ZvO,by simp[val]⟩ ?_ ?_) ?_
  ·rintro rec i ⟨o,c⟩ hi ⟨hol,hc,hod,hv⟩ ih;dsimp only at hol hc hod hv ih;have h1:=hd.get hi;have hcB:c < Bw:=by simp only[Bw];omega
   unfold ZqO Zpt;dsimp only;rw[Zob];refine⟨fun _=> ?_,fun h=>by simp only[decide_eq_false_iff_not]at h;omega⟩;rw[ZrN hi,ZnD,ZnC];generalize ex:l[i]=x at h1;have hlen:(o++c::List.replicate (l.length - o.length) 0).length=l.length+1:=by simp;omega
   have hg:(iL (o++c::List.replicate (l.length - o.length) 0))[i]? =some (c:Int):=by rw[ZvM (by rw[hlen];omega)];congr 2;rw[List.getElem_append_right (by omega)];simp[hol]
   rw[Zzh (by omega) h1,show (32:Int)=((32:Nat):Int)from rfl,Zvq 32 (by omega),Zsh];have hx2:x*2 ^ s / 2 ^ 32 < 2 ^ s:=(Nat.div_lt_iff_lt_mul (by decide)).2 (by
    rw[Nat.mul_comm (2 ^ s)];exact Nat.mul_lt_mul_of_pos_right h1 (Nat.two_pow_pos s))
   rw[ZsF (by omega),Int.toNat_natCast,show ((i:Int)+1).toNat=i+1 by omega,hg];rw[ZnF,ZnF,ZnD,ZnC,ZnF,ZnF,ZnF,ZnF,ZnF,Zw3 hcB (Nat.mod_lt _ (by decide)),ZwT hs hc h1];have hsum:c+x*2 ^ s % Bw < Bw:=by
    have e:Bw=2 ^ (32 - s)*2 ^ s:=by rw[←Nat.pow_add,show 32 - s+s=32 by omega]
    have hm:x % 2 ^ (32 - s)+1≤2 ^ (32 - s):=Nat.mod_lt _ (Nat.two_pow_pos _);have:=Nat.mul_le_mul_right (2 ^ s) hm;rw[Nat.add_mul,Nat.one_mul]at this;rw[e,Nat.mul_mod_mul_right];omega
   have es:((o++c::List.replicate (l.length - o.length) 0).set i (c+x*2 ^ s % Bw)).set (i+1) (x*2 ^ s / 2 ^ 32)=(o++[c+x*2 ^ s % Bw])++(x*2 ^ s / 2 ^ 32)::List.replicate (l.length - (o.length+1)) 0:=by rw[List.set_append_right _ _ (by omega),hol,Nat.sub_self,List.set_cons_zero,List.set_append_right _ _ (by omega),hol,show i+1 - i=1 by omega,show l.length - i=(l.length - (i+1))+1 by omega,List.replicate_succ];simp
   rw[Zvb,Zvb,es];simp only[ZnR,List.length_set,hlen];refine⟨by simp,ZqJ ⟨by omega,by omega⟩,ZqJ ⟨by omega,by omega⟩,ZnG (by omega),by decide,ZqJ ⟨by omega,by omega⟩,ZnG (by omega), ?_⟩;have:=ih (o++[c+x*2 ^ s % Bw],x*2 ^ s / 2 ^ 32) ⟨by simp[hol],hx2,hod.app (Zvm hsum), ?_⟩
   ·simp only[List.length_append,List.length_singleton]at this;exact this
   ·dsimp only;have q:Bw ^ i*(x*2 ^ s % Bw+Bw*(x*2 ^ s / 2 ^ 32))=Bw ^ i*(x*2 ^ s):=by have:=Nat.mod_add_div (x*2 ^ s) Bw;rw[show (2:Nat) ^ 32=Bw from rfl,this]
    rw[Nat.mul_add]at q;rw[ZsP,hol,Nat.pow_succ,Nat.mul_assoc,ZnZ hi,ex,Nat.mul_add,Nat.add_mul,Nat.mul_assoc (Bw ^ i) x];omega
  ·rintro rec ⟨o,c⟩ ⟨hol,hc,hod,hv⟩;dsimp only at hol hc hod hv;unfold ZqO Zpt;dsimp only;rw[Zob];refine⟨fun h=>by have:=of_decide_eq_true h;omega,fun _=> ?_⟩;rw[ZnC];rw[List.take_length]at hv;refine⟨o++[c], ?_,hod.app (Zvm (by simp only[Bw];omega)),by simp[hol], ?_⟩
   ·rw[hol,Nat.sub_self];rfl
   ·rw[ZsP,hol];exact hv
  ·rintro y hy;exact ZnC.2 hy
 obtain⟨y,hy,o,rfl,h1,h2,h3⟩:=this;exact⟨o,hy,h1,h2,h3⟩
end Go.Proofs
