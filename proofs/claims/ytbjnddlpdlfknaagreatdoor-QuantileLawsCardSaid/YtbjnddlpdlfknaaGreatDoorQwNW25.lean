/- The second implementation: division bit by bit. -/
import Derived.Test.YtbjnddlpdlfknaaGreatDoorQwNW24
set_option linter.unusedVariables false
set_option linter.unusedSimpArgs false
set_option linter.unusedSectionVars false
namespace Go.Proofs
open Go Eng
theorem ZyE {x j:Nat} (h:x / 2 ^ j % 2=0):x|||2 ^ j=x+2 ^ j:=by
 have hlo:=Nat.mod_lt x (Nat.two_pow_pos j);have e:x=2 ^ (j+1)*(x / 2 ^ j / 2)+x % 2 ^ j:=by
  have h1:=Nat.div_add_mod x (2 ^ j);have h2:2*(x / 2 ^ j / 2)=x / 2 ^ j:=by omega
  rw[Nat.pow_succ,Nat.mul_assoc,h2,h1]
 have a1:=Nat.two_pow_add_eq_or_of_lt (i:=j+1) (b:=x % 2 ^ j) (by rw[Nat.pow_succ];omega) (x / 2 ^ j / 2);have a2:=Nat.two_pow_add_eq_or_of_lt (i:=j) (b:=x % 2 ^ j) hlo 1;have a3:=Nat.two_pow_add_eq_or_of_lt (i:=j+1) (b:=2 ^ j*1+x % 2 ^ j) (by rw[Nat.pow_succ];omega) (x / 2 ^ j / 2);rw[Nat.mul_one]at a2 a3;generalize x / 2 ^ j / 2=t at*
 generalize x % 2 ^ j=lo at*
 rw[e,a1,Nat.or_assoc,Nat.or_comm lo,←a2,←a3,←a1];omega
theorem Zzi {j:Nat} (hj:j≤31):shlK .u32 1 (j:Int)=((2 ^ j:Nat):Int):=by have:=Zxf (a:=1) j (by omega);rw[Nat.one_mul,Nat.mod_eq_of_lt (Nat.lt_of_le_of_lt (Nat.pow_le_pow_right (by decide) hj) (by decide))]at this;exact this
theorem ZxV {A k:Nat}:A / 2 ^ k=2*(A / 2 ^ (k+1))+A / 2 ^ k % 2:=by rw[Nat.pow_succ,←Nat.div_div_eq_div_mul];omega
theorem Zx0 (a b:Nat) (hb0:b≠0) (ha:(wd a).length≤50000) (hb:(wd b).length≤50000):Zo6 (iL (wd a)) (iL (wd b))=some (iL (wd (a / b)),iL (wd (a % b))):=by
 have hlen:∀k,(wd (2*(a / 2 ^ (k+1) % b)+a / 2 ^ k % 2)).length≤50001:=fun k=>by
  have h1:=Nat.mod_lt (a / 2 ^ (k+1)) (Nat.pos_of_ne_zero hb0);have h2:2*(a / 2 ^ (k+1) % b)+a / 2 ^ k % 2≤b+b:=by omega
  exact Nat.le_trans (Zru h2) (ZxK hb hb)
 refine ZrO ?_;unfold Zo6;rw[ZnF,ZnF,ZnF,ZnD,ZnR,Int.toNat_natCast,Zwt];refine⟨Zva (by omega),ZnG (by omega),ZnG (by omega), ?_⟩;have e0:(32*((wd a).length:Int)) - 1=((32*(wd a).length:Nat):Int) - 1:=by omega
 rw[e0,show ([]:List Int)=iL (wd 0) by rw[ZrP];rfl];refine Zn5 (Zv8 ZuH (32*(wd a).length) (by omega) (fun i (q:Nat×List Nat)=>(iL (wd a),iL (wd b),iL (wd q.1),i,iL q.2))
  (fun k q=>q.1=a / 2 ^ k % b∧Dg q.2∧q.2.length=(wd a).length∧val q.2=a / 2 ^ k / b*2 ^ k)
  (Q:=fun y=>∃o:List Nat,y=(iL (wd (a % b)),iL o)∧Dg o∧o.length=(wd a).length∧val o=a / b) (0,List.replicate (wd a).length 0) ?_ ?_ ?_) ?_
 ·have h0:a / 2 ^ (32*(wd a).length)=0:=by refine Nat.div_eq_of_lt ?_;rw[Nat.pow_mul];exact ZsX a
  rw[h0,Nat.zero_mod,Nat.zero_div,Nat.zero_mul];exact⟨rfl,Zx1 _,List.length_replicate,Zxc _⟩
 ·rintro rec k ⟨r,q⟩ hk ⟨hr,hd,hl,hv⟩ ih;dsimp only at hr hd hl hv;have hk32:k / 32 < (wd a).length:=by omega
  unfold Zrb ZpO;dsimp only;have hbit:=ZAG (i:=k) (ZsH a) hk32 (by omega);rw[Zqs]at hbit;have h2:a / 2 ^ k % 2≤1:=by omega
  have htw:=Zxr r (a / 2 ^ k % 2) h2 (by
   rw[hr];exact Nat.le_trans (Zru (Nat.le_of_lt (Nat.mod_lt _ (Nat.pos_of_ne_zero hb0)))) (by omega))
  have hlk:=hlen k;rw[←hr]at hlk;have hx:=ZxV (A:=a) (k:=k);have hdm:=Nat.div_add_mod (a / 2 ^ (k+1)) b;rw[←hr]at hdm;have hrlt:r < b:=by rw[hr];exact Nat.mod_lt _ (Nat.pos_of_ne_zero hb0)
  rw[Zob];refine⟨fun _=> ?_,fun h=>by have:=of_decide_eq_false h;omega⟩;rw[hbit,ZnD,ZnC,htw,ZnD,ZnC,Zwz _ _ (by omega) (by omega),ZnD,ZnC,Zob];have nx:∀r' q',(r'=a / 2 ^ k % b∧Dg q'∧q'.length=(wd a).length∧val q'=a / 2 ^ k / b*2 ^ k)→wp (Zpg (fun a b r_ i q=>rec (a,b,r_,i,q)) (iL (wd a)) (iL (wd b)) (iL (wd r')) (k:Int) (iL q')) (fun y=>∃o:List Nat,y=(iL (wd (a % b)),iL o)∧Dg o∧o.length=(wd a).length∧val o=a / b):=fun r' q' h=>by unfold Zpg;rw[ZnF];exact⟨ZnG (by omega),ih (r',q') h⟩
  generalize eX:a / 2 ^ (k+1)=X at*
  generalize ed:a / 2 ^ k % 2=d at*
  refine⟨fun hc=> ?_,fun hc=> ?_⟩
  ·have hge:b≤2*r+d:=by
    rcases Nat.lt_or_ge (2*r+d) b with h |h
    ·rw[Zue h]at hc;exact absurd (of_decide_eq_true hc) (by decide)
    ·exact h
   have hq:k / 32 < q.length:=by omega
   have hz:q[k / 32] / 2 ^ (k % 32) % 2=0:=by rw[Zx4 hd hq,hv,Nat.pow_succ,←Nat.mul_assoc,Nat.mul_right_comm,Nat.mul_div_cancel _ (Nat.two_pow_pos k)];omega
   have hx32:=hd.get hq;rw[Zwo _ _ hge (by omega),ZnD,ZnC,ZyC,ZyB,Int.toNat_natCast,ZnF,ZnF,ZnF,ZvM hq,ZnD,ZnC,ZnF,ZnF,ZnF,Zzi (by omega),Zw3 hx32 (Nat.lt_of_le_of_lt (Nat.pow_le_pow_right (by decide) (show k % 32≤31 by omega)) (by decide)),ZyE hz,Zvb,ZnR];refine⟨by decide,ZnG (by omega),ZqJ ⟨by omega,by omega⟩,by decide,decide_eq_true (by omega),ZqJ ⟨by omega,by omega⟩, ?_⟩;have hsum:q[k / 32]+2 ^ (k % 32) < Bw:=by
    have hB:Bw=2 ^ (k % 32)*(2*2 ^ (31 - k % 32)):=by rw[show 2*2 ^ (31 - k % 32)=2 ^ (31 - k % 32+1) by rw[Nat.pow_succ,Nat.mul_comm],←Nat.pow_add,show k % 32+(31 - k % 32+1)=32 by omega]
    rw[←ZyE hz];exact Nat.or_lt_two_pow (n:=32) hx32 (Nat.lt_of_le_of_lt (Nat.pow_le_pow_right (by decide) (show k % 32≤31 by omega)) (by decide))
   refine nx (2*r+d - b) (q.set (k / 32) (q[k / 32]+2 ^ (k % 32))) ⟨?_,hd.set _ hsum,by rw[List.length_set,hl], ?_⟩
   ·rw[hx,show 2*X+d=(2*r+d - b)+b*(2*(X / b)+1) by rw[Nat.mul_add,Nat.mul_left_comm];omega,Nat.add_mul_mod_self_left,Nat.mod_eq_of_lt (by omega)]
   ·have hvs:=Zvf q (k / 32) (q[k / 32]+2 ^ (k % 32)) hq;have hp:Bw ^ (k / 32)*2 ^ (k % 32)=2 ^ k:=by rw[show Bw=2 ^ 32 from rfl,←Nat.pow_mul,←Nat.pow_add,Nat.div_add_mod]
    rw[Nat.mul_add,hp]at hvs;have e1:(2*X+d) / b=2*(X / b)+1:=by rw[show 2*X+d=(2*r+d - b)+b*(2*(X / b)+1) by rw[Nat.mul_add,Nat.mul_left_comm];omega,Nat.add_mul_div_left _ _ (Nat.pos_of_ne_zero hb0),Nat.div_eq_of_lt (by omega),Nat.zero_add]
    rw[hx,e1];rw[hv,Nat.pow_succ]at hvs;have e2:X / b*(2 ^ k*2)=2*(X / b)*2 ^ k:=by rw[Nat.mul_comm (2 ^ k) 2,←Nat.mul_assoc,Nat.mul_comm (X / b) 2]
    rw[Nat.add_mul,Nat.one_mul];omega
  ·have hlt:2*r+d < b:=by
    rcases Nat.lt_or_ge (2*r+d) b with h |h
    ·exact h
    ·rcases Nat.lt_or_ge b (2*r+d)with h' |h'
     ·rw[Zt5 h']at hc;exact absurd (of_decide_eq_false hc) (by decide)
     ·rw[show 2*r+d=b by omega,Ztj]at hc;exact absurd (of_decide_eq_false hc) (by decide)
   have e0:2*X+d=(2*r+d)+b*(2*(X / b)):=by rw[Nat.mul_left_comm];omega
   refine nx (2*r+d) q ⟨?_,hd,hl, ?_⟩
   ·rw[hx,e0,Nat.add_mul_mod_self_left,Nat.mod_eq_of_lt hlt]
   ·rw[hx,e0,Nat.add_mul_div_left _ _ (Nat.pos_of_ne_zero hb0),Nat.div_eq_of_lt hlt,Nat.zero_add,hv,Nat.pow_succ,Nat.mul_comm (2 ^ k) 2,←Nat.mul_assoc,Nat.mul_comm (X / b) 2]
 ·rintro rec ⟨r,q⟩ ⟨hr,hd,hl,hv⟩;dsimp only at hr hd hl hv;rw[Nat.pow_zero,Nat.div_one]at hr hv;unfold Zrb ZpO;dsimp only;rw[Zob];refine⟨fun h=>by have:=of_decide_eq_true h;omega,fun _=> ?_⟩;rw[ZnC,hr];exact⟨q,rfl,hd,hl,by rw[hv,Nat.mul_one]⟩
 ·rintro y ⟨o,rfl,hd,hl,hv⟩;dsimp only;unfold ZrY;rw[ZvS hd (by omega),ZnD,ZnC,ZnC,hv]
end Go.Proofs
