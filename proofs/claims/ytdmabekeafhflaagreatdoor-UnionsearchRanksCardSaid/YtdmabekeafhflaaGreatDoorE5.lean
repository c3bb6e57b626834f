/- The engine, text 5: an abstract evaluator of Go code over pure data, proved sound. -/
import Derived.Test.YtdmabekeafhflaaGreatDoorE4
import Derived.OpenShut
import Derived.SizedLaws
import Derived.WideKeyArgs
import Derived.Carry
set_option linter.unusedVariables false
set_option linter.unusedSimpArgs false
set_option linter.unusedSectionVars false
open Bool renaming and_eq_true→Znu
open List renaming getElem?_eq_getElem→Zn2
open Option renaming getD_some→ZnL, isSome_iff_exists→ZoE, some.injEq→ZnO
open Prod renaming mk.injEq→ZnP
namespace Eng
open Go
abbrev HL:List Type→Type
 | []=>Unit
 |a::r=>a×HL r
abbrev HT:List Type→Type
 | []=>Unit
 | [a]=>a
 |a::b::r=>a×HT (b::r)
abbrev ZjA:List Type→Type→Type
 | [],X=>X
 |a::r,X=>a→ZjA r X
abbrev app {X:Type}:(ts:List Type)→ZjA ts X→HL ts→X
 | [],f,_=>f
 |_::r,f,v=>app r (f v.1) v.2
abbrev Zml:(ts:List Type)→HL ts→HT ts
 | [],_=>()
 | [_],v=>v.1
 |_::b::r,v=>(v.1,Zml (b::r) v.2)
abbrev ZmB:(ts:List Type)→HT ts→HL ts
 | [],_=>()
 | [_],x=>(x,())
 |_::b::r,x=>(x.1,ZmB (b::r) x.2)
theorem Zct:∀(ts:List Type) (v:HL ts),ZmB ts (Zml ts v)=v
 | [],_=>rfl
 | [_],_=>rfl
 |_::b::r,v=>by show (v.1,ZmB (b::r) (Zml (b::r) v.2))=v;rw[Zct (b::r) v.2]
abbrev unT {X:Type} (ts:List Type) (f:ZjA ts X) (x:HT ts):X:=app ts f (ZmB ts x)
section
variable (U:Zd)
abbrev lv1:Sh1→List Type→List Type
 | .v t,r=>El U.car t::r
 | .pp t,r=>El U.car t::r
 | .full _,r=>r
 | .sl _,r=>Nat::Nat::r
 | .ptr _ _ _,r=>r
 | .ptrI _ _,r=>Nat::r
 | .map _,r=>r
 | .it _,r=>r
 | .nilp,r=>r
 | .nilfn,r=>r
 | .undef,r=>r
 | .nils _,r=>r
 | .clip t,r=>List (El U.car t)::r
 | .rp t _,r=>El U.car t::r
abbrev lvs1:List Sh1→List Type→List Type
 | [],r=>r
 |s::l,r=>lv1 U s (lvs1 l r)
abbrev lvS:Sh→List Type→List Type
 | .o s,r=>lv1 U s r
 | .agg l,r=>lvs1 U l r
 | .fn _ a b,r=>lvs1 U a (lvs1 U b r)
abbrev lvs:List Sh→List Type→List Type
 | [],r=>r
 |s::l,r=>lvS U s (lvs l r)
abbrev lvO:ShO→List Type→List Type
 | .box l,r=>lvs U l r
 | .boxS t,r=>El U.car t::r
 | .arr t _,r=>List (El U.car t)::r
 | .map k v,r=>List (El U.car k×El U.car v)::r
 | .sit,r=>List UInt8::Nat::r
 | .mit k v,r=>List (El U.car k×El U.car v)::Option (El U.car k×El U.car v)::r
 | .own t _ _,r=>List (El U.car t)::Nat::r
abbrev lvsO:List ShO→List Type→List Type
 | [],r=>r
 |s::l,r=>lvO U s (lvsO l r)
abbrev lvQ:List Sh→List ShO→List Type:=fun shs sho=>lvs U shs (lvsO U sho [])
abbrev lq1:Sh1→List Type→List Type
 | .v t,r=>El U.car t::r
 | .pp t,r=>El U.car t::r
 | .full _,r=>r
 | .sl _,r=>r
 | .ptr _ _ _,r=>r
 | .ptrI _ _,r=>r
 | .map _,r=>r
 | .it _,r=>r
 | .nilp,r=>r
 | .nilfn,r=>r
 | .undef,r=>r
 | .nils _,r=>r
 | .clip _,r=>r
 | .rp _ _,r=>r
abbrev Zkf:List Sh1→List Type→List Type
 | [],r=>r
 |s::l,r=>lq1 U s (Zkf l r)
abbrev lvA:ShA→List Type→List Type
 | .p t,r=>El U.car t::r
 | .box t,r=>El U.car t::r
 | .arr t,r=>List (El U.car t)::r
 | .map k v,r=>List (El U.car k×El U.car v)::r
 | .ptr t,r=>El U.car t::r
 | .fn _ a b,r=>Zkf U a (Zkf U b r)
 | .nilp,r=>r
 | .nilfn,r=>r
 | .part t,r=>List (El U.car t)::Nat::Nat::r
 | .boxr t _,r=>El U.car t::r
 | .hmap k v,r=>List (El U.car k×El U.car v)::r
abbrev Zke:List ShA→List Type→List Type
 | [],r=>r
 |s::l,r=>lvA U s (Zke l r)
abbrev lvR:ShR→List Type→List Type
 | .p t,r=>El U.car t::r
 | .own t,r=>List (El U.car t)::r
 | .box t,r=>El U.car t::r
 | .map k v,r=>List (El U.car k×El U.car v)::r
 | .view _,r=>Nat::Nat::r
 | .aown n _ _,r=>U.car n::r
 | .aoown n _ _ _ _,r=>U.car n::Nat::r
abbrev ZmL:List ShR→List Type→List Type
 | [],r=>r
 |s::l,r=>lvR U s (ZmL l r)
abbrev ZmK:List (Nat×ShA)→List Type→List Type
 | [],r=>r
 |s::l,r=>lvA U s.2 (ZmK l r)
end
section
variable {U:Zd} {r:List Type}
abbrev fl1:(s:Sh1)→Znm U s→HL r→HL (lv1 U s r)
 | .v _,x,y=>(x,y)
 | .pp _,x,y=>(x,y)
 | .full _,_,y=>y
 | .sl _,x,y=>(x.1,x.2,y)
 | .ptr _ _ _,_,y=>y
 | .ptrI _ _,x,y=>(x,y)
 | .map _,_,y=>y
 | .it _,_,y=>y
 | .nilp,_,y=>y
 | .nilfn,_,y=>y
 | .undef,_,y=>y
 | .nils _,_,y=>y
 | .clip _,x,y=>(x,y)
 | .rp _ _,x,y=>(x,y)
abbrev fls1:(l:List Sh1)→Zg4 U l→HL r→HL (lvs1 U l r)
 | [],_,y=>y
 |s::l,x,y=>fl1 s x.1 (fls1 l x.2 y)
abbrev flS:(s:Sh)→Val U s→HL r→HL (lvS U s r)
 | .o s,x,y=>fl1 s x y
 | .agg l,x,y=>fls1 l x y
 | .fn _ a b,x,y=>fls1 a x.1 (fls1 b x.2 y)
abbrev fls:(l:List Sh)→Zcn U l→HL r→HL (lvs U l r)
 | [],_,y=>y
 |s::l,x,y=>flS s x.1 (fls l x.2 y)
abbrev flO:(s:ShO)→ValO U s→HL r→HL (lvO U s r)
 | .box l,x,y=>fls l x y
 | .boxS _,x,y=>(x,y)
 | .arr _ _,x,y=>(x,y)
 | .map _ _,x,y=>(x,y)
 | .sit,x,y=>(x.1,x.2,y)
 | .mit _ _,x,y=>(x.1,x.2,y)
 | .own _ _ _,x,y=>(x.1,x.2,y)
abbrev flsO:(l:List ShO)→Zal U l→HL r→HL (lvsO U l r)
 | [],_,y=>y
 |s::l,x,y=>flO s x.1 (flsO l x.2 y)
abbrev flQ (shs:List Sh) (sho:List ShO) (v:Zcn U shs) (w:Zal U sho):HL (lvQ U shs sho):=fls shs v (flsO (r:=[]) sho w ())
abbrev unc {X:Type} (shs:List Sh) (sho:List ShO) (f:ZjA (lvQ U shs sho) X) (v:Zcn U shs) (w:Zal U sho):X:=app (lvQ U shs sho) f (flQ shs sho v w)
def fq1:(s:Sh1)→ZhV U s→HL r→HL (lq1 U s r)
 | .v _,x,y=>(x,y)
 | .pp _,x,y=>(x,y)
 | .full _,_,y=>y
 | .sl _,_,y=>y
 | .ptr _ _ _,_,y=>y
 | .ptrI _ _,_,y=>y
 | .map _,_,y=>y
 | .it _,_,y=>y
 | .nilp,_,y=>y
 | .nilfn,_,y=>y
 | .undef,_,y=>y
 | .nils _,_,y=>y
 | .clip _,_,y=>y
 | .rp _ _,_,y=>y
def fqs1:(l:List Sh1)→ZcN U l→HL r→HL (Zkf U l r)
 | [],_,y=>y
 |s::l,x,y=>fq1 s x.1 (fqs1 l x.2 y)
abbrev flA:(s:ShA)→Zmd U s→HL r→HL (lvA U s r)
 | .p _,x,y=>(x,y)
 | .box _,x,y=>(x,y)
 | .arr _,x,y=>(x,y)
 | .map _ _,x,y=>(x,y)
 | .ptr _,x,y=>(x,y)
 | .fn _ a b,x,y=>fqs1 a x.1 (fqs1 b x.2 y)
 | .nilp,_,y=>y
 | .nilfn,_,y=>y
 | .part _,x,y=>(x.1,x.2.1,x.2.2,y)
 | .boxr _ _,x,y=>(x,y)
 | .hmap _ _,x,y=>(x,y)
abbrev Zl8:(l:List ShA)→Zf3 U l→HL r→HL (Zke U l r)
 | [],_,y=>y
 |s::l,x,y=>flA s x.1 (Zl8 l x.2 y)
abbrev flR:(s:ShR)→Zm7 U s→HL r→HL (lvR U s r)
 | .p _,x,y=>(x,y)
 | .own _,x,y=>(x,y)
 | .box _,x,y=>(x,y)
 | .map _ _,x,y=>(x,y)
 | .view _,x,y=>(x.1,x.2,y)
 | .aown _ _ _,x,y=>(x,y)
 | .aoown _ _ _ _ _,x,y=>(x.1,x.2,y)
abbrev Znh:(l:List ShR)→Zg3 U l→HL r→HL (ZmL U l r)
 | [],_,y=>y
 |s::l,x,y=>flR s x.1 (Znh l x.2 y)
abbrev Zl7:(l:List (Nat×ShA))→Zg2 U l→HL r→HL (ZmK U l r)
 | [],_,y=>y
 |s::l,x,y=>flA s.2 x.1 (Zl7 l x.2 y)
def uq1:(s:Sh1)→HL (lq1 U s r)→ZhV U s×HL r
 | .v _,y=>y
 | .pp _,y=>y
 | .full _,y=>((),y)
 | .sl _,y=>((),y)
 | .ptr _ _ _,y=>((),y)
 | .ptrI _ _,y=>((),y)
 | .map _,y=>((),y)
 | .it _,y=>((),y)
 | .nilp,y=>((),y)
 | .nilfn,y=>((),y)
 | .undef,y=>((),y)
 | .nils _,y=>((),y)
 | .clip _,y=>((),y)
 | .rp _ _,y=>((),y)
def Zk0:(l:List Sh1)→HL (Zkf U l r)→ZcN U l×HL r
 | [],y=>((),y)
 |s::l,y=>(((uq1 (r:=Zkf U l r) s y).1,(Zk0 l (uq1 (r:=Zkf U l r) s y).2).1),(Zk0 l (uq1 (r:=Zkf U l r) s y).2).2)
def uA:(s:ShA)→HL (lvA U s r)→Zmd U s×HL r
 | .p _,y=>y
 | .box _,y=>y
 | .arr _,y=>y
 | .map _ _,y=>y
 | .ptr _,y=>y
 | .fn _ a b,y=>(((Zk0 (r:=Zkf U b r) a y).1,(Zk0 b (Zk0 (r:=Zkf U b r) a y).2).1),(Zk0 b (Zk0 (r:=Zkf U b r) a y).2).2)
 | .nilp,y=>((),y)
 | .nilfn,y=>((),y)
 | .part _,y=>((y.1,y.2.1,y.2.2.1),y.2.2.2)
 | .boxr _ _,y=>y
 | .hmap _ _,y=>y
def uR:(s:ShR)→HL (lvR U s r)→Zm7 U s×HL r
 | .p _,y=>y
 | .own _,y=>y
 | .box _,y=>y
 | .map _ _,y=>y
 | .view _,y=>((y.1,y.2.1),y.2.2)
 | .aown _ _ _,y=>y
 | .aoown _ _ _ _ _,y=>((y.1,y.2.1),y.2.2)
def usR:(l:List ShR)→HL (ZmL U l r)→Zg3 U l×HL r
 | [],y=>((),y)
 |s::l,y=>(((uR (r:=ZmL U l r) s y).1,(usR l (uR (r:=ZmL U l r) s y).2).1),(usR l (uR (r:=ZmL U l r) s y).2).2)
def usU:(l:List (Nat×ShA))→HL (ZmK U l r)→Zg2 U l×HL r
 | [],y=>((),y)
 |s::l,y=>(((uA (r:=ZmK U l r) s.2 y).1,(usU l (uA (r:=ZmK U l r) s.2 y).2).1),(usU l (uA (r:=ZmK U l r) s.2 y).2).2)
theorem Zmj (s:Sh1) (x:ZhV U s) (y:HL r):uq1 s (fq1 s x y)=(x,y):=by cases s<;>rfl
theorem Zf7:∀(l:List Sh1) (x:ZcN U l) (y:HL r),Zk0 l (fqs1 l x y)=(x,y)
 | [],_,_=>rfl
 |s::l,x,y=>by simp only[fqs1,Zk0,Zmj,Zf7 l]
theorem uA_flA (s:ShA) (x:Zmd U s) (y:HL r):uA s (flA s x y)=(x,y):=by
 cases s with
 |fn f a b=>simp only[flA,uA,Zf7]
 |_=>rfl
theorem uR_flR (s:ShR) (x:Zm7 U s) (y:HL r):uR s (flR s x y)=(x,y):=by cases s<;>rfl
theorem Zh0:∀(l:List ShR) (x:Zg3 U l) (y:HL r),usR l (Znh l x y)=(x,y)
 | [],_,_=>rfl
 |s::l,x,y=>by simp only[Znh,usR,uR_flR,Zh0 l]
theorem ZhZ:∀(l:List (Nat×ShA)) (x:Zg2 U l) (y:HL r),usU l (Zl7 l x y)=(x,y)
 | [],_,_=>rfl
 |s::l,x,y=>by simp only[Zl7,usU,uA_flA,ZhZ l]
end
def pthF:Nat→Nat→List Nat→List Nat
 |0,_,acc=>acc
 |k+1,n,acc=>bif Nat.beq n 9 then acc else pthF k (n / 10) (n % 10::acc)
def pth (n:Nat):List Nat:=pthF 1000 n []
section
variable {U:Zd}
def blkId:Code→Nat
 | .block id _=>id
 |_=>0
def Zd4:Code→Bool
 | .loop _=>true
 |_=>false
abbrev kOf (F:FC U) (pb:List Nat):List Nat→List TI'
 | []=>[]
 |d::q=>bif (d::q) == pb then []else match d with
  |0=>tc F (1::q)::kOf F pb q
  |4=> .blk (blkId (Zdl F q))::kOf F pb q
  |_=>kOf F pb q
def inP (pb:List Nat):List Nat→Bool
 | []=>pb.isEmpty
 |d::q=>bif (d::q) == pb then true else (d != 5)&&inP pb q
def chkP (F:FC U) (pb p:List Nat):Bool:=(atP (F.c,[]) p).isSome&&inP pb p
def ZfX (F:FC U) (pb q:List Nat):Bool:=Zd4 (Zdl F q)&&inP pb q
abbrev xpre (F:FC U) (pb q:List Nat) (xid:Nat):List TI':=(ZcA xid (kOf F pb q)).getD []
def Zni (F:FC U) (pb q:List Nat) (xid:Nat):Bool:=(ZcA xid (kOf F pb q)).isSome
theorem ZbG {F:FC U} {p:List Nat} {c:Code} {k:List Item} (h:atP (F.c,[]) p=some (c,k)):Zdl F p=c:=by unfold Zdl;rw[h]
theorem Zim (F:FC U) {pb:List Nat} {cb:Code} {base:List Item} (hb:atP (F.c,[]) pb=some (cb,base)):∀(p:List Nat),inP pb p=true→∀c k,atP (F.c,[]) p=some (c,k)→
  k=(kOf F pb p).map TI'.conc++base∧Wf (F.c,[]) base (kOf F pb p)
 | [],h,c,k,hp=>by simp only[inP,List.isEmpty_iff]at h;subst h;rw[hb]at hp;cases hp;exact⟨rfl,trivial⟩
 |d::q,h,c,k,hp=>by
  unfold inP at h;unfold kOf;cases he:((d::q) == pb)with
  |true=>
   have:=eq_of_beq he;subst this;rw[hb]at hp;cases hp;exact⟨rfl,trivial⟩
  |false=>
   rw[he]at h;simp only[cond_false,Znu,bne_iff_ne,ne_eq]at h⊢
   obtain⟨hd,hq⟩:=h;have hp0:=hp;unfold atP at hp;split at hp;rotate_left;simp at hp;rename_i c' k' hq';obtain⟨i1,i2⟩:=Zim F hb q hq c' k' hq';split at hp
   ·simp only[ZnO,ZnP]at hp;obtain⟨rfl,rfl⟩:=hp;rename_i a b;have h1:atP (F.c,[]) (1::q)=some (b,k'):=by simp only[atP,hq']
    simp only[List.map_cons,List.cons_append,tc,TI'.conc,ZbG h1];refine⟨by rw[←i1], ?_,i2⟩;rw[h1,i1]
   ·simp only[ZnO,ZnP]at hp;obtain⟨rfl,rfl⟩:=hp;exact⟨i1,i2⟩
   ·simp only[ZnO,ZnP]at hp;obtain⟨rfl,rfl⟩:=hp;exact⟨i1,i2⟩
   ·simp only[ZnO,ZnP]at hp;obtain⟨rfl,rfl⟩:=hp;exact⟨i1,i2⟩
   ·simp only[ZnO,ZnP]at hp;obtain⟨rfl,rfl⟩:=hp;simp only[List.map_cons,List.cons_append,TI'.conc,ZbG hq',blkId];exact⟨by rw[←i1],i2⟩
   ·exact absurd rfl hd
   ·simp at hp
inductive CT (U:Zd) (ρ:Type):Type→Type 1
 |nil {R:Type}:CT U ρ R
 |j {R:Type} (p:Nat) (live frz:List Nat) (shs:List Sh) (sho:List ShO) (f:ZjA (lvQ U shs sho) (Option R)) (k:CT U ρ R):CT U ρ R
 |lo {R:Type} (q:Nat) (live frz:List Nat) (shs:List Sh) (sho:List ShO) (xid:Nat) (xlive xfrz:List Nat) (xshs:List Sh) (xsho:List ShO)
   (hd:Nat→ZjA (lvQ U shs sho) (Option (HT (lvQ U xshs xsho)))) (af:ZjA (lvQ U xshs xsho) (Option R)) (body:Nat→CT U ρ (HT (lvQ U xshs xsho))) (k:CT U ρ R):CT U ρ R
 |lr {R:Type} (q:Nat) (live frz:List Nat) (shs:List Sh) (sho:List ShO) (xid:Nat) (xlive xfrz:List Nat) (xshs:List Sh) (xsho:List ShO)
   (hd:Nat→ZjA (lvQ U shs sho) (Option (Out (HT (lvQ U xshs xsho)) ρ))) (af:ZjA (lvQ U xshs xsho) (Option R)) (body:Nat→CT U ρ (Out (HT (lvQ U xshs xsho)) ρ)) (k:CT U ρ R):CT U ρ R
 |lz {R:Type} (q:Nat) (live frz:List Nat) (shs:List Sh) (sho:List ShO)
   (hd:Nat→ZjA (lvQ U shs sho) (Option (Out Unit ρ))) (body:Nat→CT U ρ (Out Unit ρ)) (k:CT U ρ R):CT U ρ R
structure CC (U:Zd) (R:Type) where
 pb:List Nat
 back:Option (Lp U R)
 exits:List (Nat×Lp U R)
 ret:ZbL U→Option R
variable {ρ:Type}
abbrev outB {β R:Type} (em:ρ→Option R) (af:β→Option R):Out β ρ→Option R
 | .ret q=>em q
 | .brk b=>af b
abbrev CT.cuts:{R:Type}→CT U ρ R→(ρ→Option R)→List (List Nat×Lp U R)
 |_,.nil,_=>[]
 |_,.j p live frz shs sho f k,em=>(pth p,⟨live,frz,shs,sho,unc shs sho f⟩)::k.cuts em
 |_,.lo q live frz shs sho _ _ _ xshs xsho hd af _ k,em=>(pth q,⟨live,frz,shs,sho,fun v w=>(unc shs sho (hd big) v w).bind (unT (lvQ U xshs xsho) af)⟩)::k.cuts em
 |_,.lr q live frz shs sho _ _ _ xshs xsho hd af _ k,em=>(pth q,⟨live,frz,shs,sho,fun v w=>(unc shs sho (hd big) v w).bind (outB em (unT (lvQ U xshs xsho) af))⟩)::k.cuts em
 |_,.lz q live frz shs sho hd _ k,em=>(pth q,⟨live,frz,shs,sho,fun v w=>(unc shs sho (hd big) v w).bind (outB em fun _=>none)⟩)::k.cuts em
abbrev CT.Ty:{R:Type}→CT U ρ R→Type
 |_,.nil=>Unit
 |R,.j _ _ _ shs sho _ k=>Bool×(Zcn U shs→Zal U sho→Option R)×k.Ty
 |R,.lo _ _ _ shs sho _ _ _ xshs xsho _ _ body k=>Bool×(Zcn U shs→Zal U sho→Option (HT (lvQ U xshs xsho)))×(Nat→Zcn U shs→Zal U sho→Option (HT (lvQ U xshs xsho)))×((n:Nat)→(body n).Ty)×(Zcn U xshs→Zal U xsho→Option R)×k.Ty
 |R,.lr _ _ _ shs sho _ _ _ xshs xsho _ _ body k=>Bool×(Zcn U shs→Zal U sho→Option (Out (HT (lvQ U xshs xsho)) ρ))×(Nat→Zcn U shs→Zal U sho→Option (Out (HT (lvQ U xshs xsho)) ρ))×((n:Nat)→(body n).Ty)×(Zcn U xshs→Zal U xsho→Option R)×k.Ty
 |_,.lz _ _ _ shs sho _ body k=>Bool×(Zcn U shs→Zal U sho→Option (Out Unit ρ))×(Nat→Zcn U shs→Zal U sho→Option (Out Unit ρ))×((n:Nat)→(body n).Ty)×k.Ty
abbrev stC (F:FC U) (live:List Nat) (shs:List Sh) (sho:List ShO) (v:Zcn U shs) (w:Zal U sho):TS U:=mkC F.lent live (Znj shs v) (ZkK sho w)
abbrev Zc3 (ret0:ZbL U→Option ρ) {X:Type} (em:ρ→Option X) (q:List Nat) (L:Lp U X) (ex:List (Nat×Lp U X)):CC U X:=⟨5::q,some L,ex,fun t=>(ret0 t).bind em⟩
abbrev lx (xlive xfrz:List Nat) (xshs:List Sh) (xsho:List ShO) {X:Type} (m:HT (lvQ U xshs xsho)→X):Lp U X:=⟨xlive,xfrz,xshs,xsho,fun v w=>some (m (Zml (lvQ U xshs xsho) (flQ xshs xsho v w)))⟩
noncomputable abbrev evp (F:FC U) {R:Type} (C:CC U R) (cuts:List (List Nat×Lp U R)) (pre:List TI') (T:TS U):Option R:=evl (F.par cuts C.back C.exits C.ret) 4000 none pre T
noncomputable abbrev CT.lhs (F:FC U) (ret0:ZbL U→Option ρ):{R:Type}→(t:CT U ρ R)→CC U R→(ρ→Option R)→t.Ty
 |_,.nil,_,_=>()
 |_,.j p live _ shs sho _ k,C,em=>(chkP F C.pb (pth p),fun v w=>evp F C (k.cuts em) (tc F (pth p)::kOf F C.pb (pth p)) (stC F live shs sho v w),k.lhs F ret0 C em)
 |_,.lo q live frz shs sho xid xlive xfrz xshs xsho hd _ body k,C,em=>(ZfX F C.pb (pth q)&&Zni F C.pb (pth q) xid,fun v w=>unc shs sho (hd 0) v w,
   fun n v w=>evp F (Zc3 ret0 (fun _=>none) (pth q) ⟨live,frz,shs,sho,unc shs sho (hd n)⟩ [(xid,lx xlive xfrz xshs xsho id)]) ((body n).cuts fun _=>none) [tc F (5::pth q)] (stC F live shs sho v w),
   fun n=>(body n).lhs F ret0 (Zc3 ret0 (fun _=>none) (pth q) ⟨live,frz,shs,sho,unc shs sho (hd n)⟩ [(xid,lx xlive xfrz xshs xsho id)]) fun _=>none,
   fun v w=>evp F C (k.cuts em) (xpre F C.pb (pth q) xid) (stC F xlive xshs xsho v w),k.lhs F ret0 C em)
 |_,.lr q live frz shs sho xid xlive xfrz xshs xsho hd _ body k,C,em=>(ZfX F C.pb (pth q)&&Zni F C.pb (pth q) xid,fun v w=>unc shs sho (hd 0) v w,
   fun n v w=>evp F (Zc3 ret0 (fun q=>some (.ret q)) (pth q) ⟨live,frz,shs,sho,unc shs sho (hd n)⟩ [(xid,lx xlive xfrz xshs xsho .brk)]) ((body n).cuts fun q=>some (.ret q)) [tc F (5::pth q)] (stC F live shs sho v w),
   fun n=>(body n).lhs F ret0 (Zc3 ret0 (fun q=>some (.ret q)) (pth q) ⟨live,frz,shs,sho,unc shs sho (hd n)⟩ [(xid,lx xlive xfrz xshs xsho .brk)]) fun q=>some (.ret q),
   fun v w=>evp F C (k.cuts em) (xpre F C.pb (pth q) xid) (stC F xlive xshs xsho v w),k.lhs F ret0 C em)
 |_,.lz q live frz shs sho hd body k,C,em=>(ZfX F C.pb (pth q),fun v w=>unc shs sho (hd 0) v w,
   fun n v w=>evp F (Zc3 ret0 (fun q=>some (.ret q)) (pth q) ⟨live,frz,shs,sho,unc shs sho (hd n)⟩ []) ((body n).cuts fun q=>some (.ret q)) [tc F (5::pth q)] (stC F live shs sho v w),
   fun n=>(body n).lhs F ret0 (Zc3 ret0 (fun q=>some (.ret q)) (pth q) ⟨live,frz,shs,sho,unc shs sho (hd n)⟩ []) fun q=>some (.ret q),
   k.lhs F ret0 C em)
abbrev CT.rhs:{R:Type}→(t:CT U ρ R)→t.Ty
 |_,.nil=>()
 |_,.j _ _ _ shs sho f k=>(true,fun v w=>unc shs sho f v w,k.rhs)
 |_,.lo _ _ _ shs sho _ _ _ xshs xsho hd af body k=>(true,fun _ _=>none,fun n v w=>unc shs sho (hd (n+1)) v w,fun n=>(body n).rhs,fun v w=>unc xshs xsho af v w,k.rhs)
 |_,.lr _ _ _ shs sho _ _ _ xshs xsho hd af body k=>(true,fun _ _=>none,fun n v w=>unc shs sho (hd (n+1)) v w,fun n=>(body n).rhs,fun v w=>unc xshs xsho af v w,k.rhs)
 |_,.lz _ _ _ shs sho hd body k=>(true,fun _ _=>none,fun n v w=>unc shs sho (hd (n+1)) v w,fun n=>(body n).rhs,k.rhs)
variable {F:FC U}
theorem ZfJ (hF:FOk F) {X:Type} {RT:Ret} {x:X} {q:List Nat} {live frz:List Nat} {shs:List Sh} {sho:List ShO} {hd:Nat→ZjA (lvQ U shs sho) (Option X)} {cuts:Nat→List (List Nat×Lp U X)}
  {ex:List (Nat×Lp U X)} {ret:ZbL U→Option X} {b:Code} {k:List Item} (hq:atP (F.c,[]) q=some (.loop b,k)) (h0:(fun v w=>unc shs sho (hd 0) v w)=fun _ _=>none)
  (hs:(fun n v w=>evp F (⟨5::q,some ⟨live,frz,shs,sho,unc shs sho (hd n)⟩,ex,ret⟩:CC U X) (cuts n) [tc F (5::q)] (stC F live shs sho v w))=fun n v w=>unc shs sho (hd (n+1)) v w)
  (hc:∀n,ZhW F RT x ⟨live,frz,shs,sho,unc shs sho (hd n)⟩ (.lp b::k)→Zbl F RT x (cuts n)) (he:ZaX F RT x (.lp b::k) ex) (hret:∀t,ret t=some x→t.enc=RT) (n:Nat):
  ZhW F RT x ⟨live,frz,shs,sho,unc shs sho (hd n)⟩ (ZkV F q):=
 ZmM hF 4000 (cuts:=cuts) (exits:=ex) (ret:=ret) (fun n=>unc shs sho (hd n)) hq (fun v w=>congrFun (congrFun h0 v) w) (fun n v w=>by
  rw[←congrFun (congrFun (congrFun hs n) v) w];have h5:atP (F.c,[]) (5::q)=some (b,.lp b::k):=by simp only[atP,hq]
  unfold evp tc;rw[ZbG h5];rfl) hc he hret n
theorem CT.ok (hF:FOk F) {ret0:ZbL U→Option ρ}:∀{R:Type} (t:CT U ρ R) (C:CC U R) (em:ρ→Option R),(C.ret=fun t=>(ret0 t).bind em)→t.lhs F ret0 C em=t.rhs→∀{RT:Ret} {r:R} {cb:Code} {base:List Item},
  atP (F.c,[]) C.pb=some (cb,base)→(∀L,C.back=some L→ZhW F RT r L base)→(C.back=none→base=[])→ZaX F RT r base C.exits→(∀t,C.ret t=some r→t.enc=RT)→Zbl F RT r (t.cuts em)
 |_,.nil,_,_,_,_,_,_,_,_,_,_,_,_,_=>trivial
 |R,.j p live frz shs sho f k,C,em,hr,h,RT,r,cb,base,hb,hk,hn,hx,ht=>by
  have h: @Eq (Bool×(Zcn U shs→Zal U sho→Option R)×k.Ty) (_,_,_) (_,_,_):=h;have h1:chkP F C.pb (pth p)=true:=congrArg (fun x=>x.1) h;have h2:=congrArg (fun x=>x.2.1) h;have h3:k.lhs F ret0 C em=k.rhs:=congrArg (fun x=>x.2.2) h;have ih:=CT.ok hF k C em hr h3 hb hk hn hx ht;refine⟨fun v w hi hv=> ?_,ih⟩;simp only[chkP,Znu,ZoE]at h1;obtain⟨⟨⟨c,kk⟩,hp⟩,hin⟩:=h1;obtain⟨e1,e2⟩:=Zim F hb _ hin _ _ hp;have e3:ZkV F (pth p)=(tc F (pth p)::kOf F C.pb (pth p)).map TI'.conc++base:=by simp only[ZkV,hp,tc,List.map_cons,TI'.conc,ZbG hp,List.cons_append,e1]
  refine Pt.evlAt hF 4000 (cuts:=k.cuts em) (back:=C.back) (exits:=C.exits) (ret:=C.ret) (base:=base) (pre:=tc F (pth p)::kOf F C.pb (pth p)) e3 hi ?_ ?_ ih hk hn hx ht
  ·exact(congrFun (congrFun h2 v) w).trans hv
  ·exact⟨by rw[ZbG hp,hp,e1],e2⟩
 |R,.lo q live frz shs sho xid xlive xfrz xshs xsho hd af body k,C,em,hr,h,RT,r,cb,base,hb,hk,hn,hx,ht=>by
  have h: @Eq (Bool×(Zcn U shs→Zal U sho→Option (HT (lvQ U xshs xsho)))×(Nat→Zcn U shs→Zal U sho→Option (HT (lvQ U xshs xsho)))×((n:Nat)→(body n).Ty)×(Zcn U xshs→Zal U xsho→Option R)×k.Ty) (_,_,_,_,_,_) (_,_,_,_,_,_):=h;have h1:(ZfX F C.pb (pth q)&&Zni F C.pb (pth q) xid)=true:=congrArg (fun x=>x.1) h;have h2:=congrArg (fun x=>x.2.1) h;have h3:=congrArg (fun x=>x.2.2.1) h;have h4:=congrArg (fun x=>x.2.2.2.1) h;have h5:=congrArg (fun x=>x.2.2.2.2.1) h;have h6:k.lhs F ret0 C em=k.rhs:=congrArg (fun x=>x.2.2.2.2.2) h;have ih:=CT.ok hF k C em hr h6 hb hk hn hx ht;refine⟨fun v w hi hv=> ?_,ih⟩;obtain⟨x,hx0,hxa⟩:=bind_some hv;simp only[ZfX,Zni,Znu,ZoE]at h1;obtain⟨⟨hl,hin⟩,pre',hpre⟩:=h1;have hq:∃b kq,atP (F.c,[]) (pth q)=some (.loop b,kq):=by
   unfold Zdl at hl;split at hl
   ·rename_i y hy;obtain⟨c,kq⟩:=y;cases c<;>simp only[Zd4,Bool.false_eq_true]at hl;exact⟨_,_,hy⟩
   ·simp[Zd4]at hl
  obtain⟨b,kq,hq⟩:=hq;obtain⟨e1,e2⟩:=Zim F hb _ hin _ _ hq;have h5q:atP (F.c,[]) (5::pth q)=some (b,.lp b::kq):=by simp only[atP,hq]
  have hex:ZaX F RT x (.lp b::kq) [(xid,lx xlive xfrz xshs xsho id)]:=by
   refine⟨⟨pre'.map TI'.conc++base, ?_,fun v' w' hi' h'=> ?_⟩,trivial⟩
   ·show Zaw xid kq=_;rw[e1];exact(Zae (root:=(F.c,[])) (base:=base) hpre).1 base
   ·obtain rfl:Zml _ (flQ xshs xsho v' w')=x:=Option.some.inj h';refine Pt.evlAt hF 4000 (cuts:=k.cuts em) (back:=C.back) (exits:=C.exits) (ret:=C.ret) (base:=base) (pre:=pre') rfl hi' ?_ ((Zae hpre).2 e2) ih hk hn hx ht;have e5:=congrFun (congrFun h5 v') w';simp only[xpre,hpre,ZnL]at e5;refine Eq.trans e5 ?_;simp only[unT,Zct]at hxa;exact hxa
  exact ZfJ hF hq h2 h3 (fun n hL=>CT.ok hF (body n) _ _ rfl (congrFun h4 n) h5q (fun L hLe=>by simp only[Zc3,ZnO]at hLe;subst hLe;exact hL) (fun hne=>by simp[Zc3]at hne) hex (fun t htt=>by simp[Zc3]at htt)) hex
   (fun t htt=>by simp at htt) big v w hi hx0
 |R,.lr q live frz shs sho xid xlive xfrz xshs xsho hd af body k,C,em,hr,h,RT,r,cb,base,hb,hk,hn,hx,ht=>by
  have h: @Eq (Bool×(Zcn U shs→Zal U sho→Option (Out (HT (lvQ U xshs xsho)) ρ))×(Nat→Zcn U shs→Zal U sho→Option (Out (HT (lvQ U xshs xsho)) ρ))×((n:Nat)→(body n).Ty)×(Zcn U xshs→Zal U xsho→Option R)×k.Ty) (_,_,_,_,_,_) (_,_,_,_,_,_):=h;have h1:(ZfX F C.pb (pth q)&&Zni F C.pb (pth q) xid)=true:=congrArg (fun x=>x.1) h;have h2:=congrArg (fun x=>x.2.1) h;have h3:=congrArg (fun x=>x.2.2.1) h;have h4:=congrArg (fun x=>x.2.2.2.1) h;have h5:=congrArg (fun x=>x.2.2.2.2.1) h;have h6:k.lhs F ret0 C em=k.rhs:=congrArg (fun x=>x.2.2.2.2.2) h;have ih:=CT.ok hF k C em hr h6 hb hk hn hx ht;refine⟨fun v w hi hv=> ?_,ih⟩;obtain⟨x,hx0,hxa⟩:=bind_some hv;simp only[ZfX,Zni,Znu,ZoE]at h1;obtain⟨⟨hl,hin⟩,pre',hpre⟩:=h1;have hq:∃b kq,atP (F.c,[]) (pth q)=some (.loop b,kq):=by
   unfold Zdl at hl;split at hl
   ·rename_i y hy;obtain⟨c,kq⟩:=y;cases c<;>simp only[Zd4,Bool.false_eq_true]at hl;exact⟨_,_,hy⟩
   ·simp[Zd4]at hl
  obtain⟨b,kq,hq⟩:=hq;obtain⟨e1,e2⟩:=Zim F hb _ hin _ _ hq;have h5q:atP (F.c,[]) (5::pth q)=some (b,.lp b::kq):=by simp only[atP,hq]
  have hex:ZaX F RT x (.lp b::kq) [(xid,lx xlive xfrz xshs xsho .brk)]:=by
   refine⟨⟨pre'.map TI'.conc++base, ?_,fun v' w' hi' h'=> ?_⟩,trivial⟩
   ·show Zaw xid kq=_;rw[e1];exact(Zae (root:=(F.c,[])) (base:=base) hpre).1 base
   ·obtain rfl:Out.brk (Zml _ (flQ xshs xsho v' w'))=x:=Option.some.inj h';refine Pt.evlAt hF 4000 (cuts:=k.cuts em) (back:=C.back) (exits:=C.exits) (ret:=C.ret) (base:=base) (pre:=pre') rfl hi' ?_ ((Zae hpre).2 e2) ih hk hn hx ht;have e5:=congrFun (congrFun h5 v') w';simp only[xpre,hpre,ZnL]at e5;refine Eq.trans e5 ?_;simp only[outB,unT,Zct]at hxa;exact hxa
  have hrr:∀t:ZbL U,((ret0 t).bind fun q=>some (Out.ret q))=some x→t.enc=RT:=fun t htt=>by obtain⟨y,hy,hyx⟩:=bind_some htt;obtain rfl:=Option.some.inj hyx;refine ht t ?_;rw[hr];show (ret0 t).bind em=some r;rw[hy];exact hxa
  exact ZfJ hF hq h2 h3 (fun n hL=>CT.ok hF (body n) _ _ rfl (congrFun h4 n) h5q (fun L hLe=>by simp only[Zc3,ZnO]at hLe;subst hLe;exact hL) (fun hne=>by simp[Zc3]at hne) hex hrr) hex hrr big v w hi hx0
 |_,.lz q live frz shs sho hd body k,C,em,hr,h,RT,r,cb,base,hb,hk,hn,hx,ht=>by
  have h: @Eq (Bool×(Zcn U shs→Zal U sho→Option (Out Unit ρ))×(Nat→Zcn U shs→Zal U sho→Option (Out Unit ρ))×((n:Nat)→(body n).Ty)×k.Ty) (_,_,_,_,_) (_,_,_,_,_):=h;have h1:ZfX F C.pb (pth q)=true:=congrArg (fun x=>x.1) h;have h2:=congrArg (fun x=>x.2.1) h;have h3:=congrArg (fun x=>x.2.2.1) h;have h4:=congrArg (fun x=>x.2.2.2.1) h;have h6:k.lhs F ret0 C em=k.rhs:=congrArg (fun x=>x.2.2.2.2) h;have ih:=CT.ok hF k C em hr h6 hb hk hn hx ht;refine⟨fun v w hi hv=> ?_,ih⟩;obtain⟨x,hx0,hxa⟩:=bind_some hv;simp only[ZfX,Znu]at h1;obtain⟨hl,hin⟩:=h1;have hq:∃b kq,atP (F.c,[]) (pth q)=some (.loop b,kq):=by
   unfold Zdl at hl;split at hl
   ·rename_i y hy;obtain⟨c,kq⟩:=y;cases c<;>simp only[Zd4,Bool.false_eq_true]at hl;exact⟨_,_,hy⟩
   ·simp[Zd4]at hl
  obtain⟨b,kq,hq⟩:=hq;have h5q:atP (F.c,[]) (5::pth q)=some (b,.lp b::kq):=by simp only[atP,hq]
  have hrr:∀t:ZbL U,((ret0 t).bind fun q=>some (Out.ret q))=some x→t.enc=RT:=fun t htt=>by obtain⟨y,hy,hyx⟩:=bind_some htt;obtain rfl:=Option.some.inj hyx;refine ht t ?_;rw[hr];show (ret0 t).bind em=some r;rw[hy];exact hxa
  exact ZfJ hF hq h2 h3 (fun n hL=>CT.ok hF (body n) _ _ rfl (congrFun h4 n) h5q (fun L hLe=>by simp only[Zc3,ZnO]at hLe;subst hLe;exact hL) (fun hne=>by simp[Zc3]at hne) trivial hrr) trivial hrr big v w hi hx0
end
abbrev oTy (U:Zd) (os:List (Nat×ShA)) (rs:List ShR):List Type:=ZmL U rs (ZmK U os [])
def amOf:ShA→AM
 | .box _ | .arr _ | .map _ _=> .lend
 | .part _=> .part
 | .boxr _ k=> .lendr k
 |_=> .p
def isVis:ShA→Bool
 | .hmap _ _=>false
 |_=>true
def ahOf:ShA→Option Nat
 | .p (.st n)=>some n
 |_=>none
def rmOf:ShR→RM
 | .p _=> .p
 | .own _=> .own
 | .box _=> .box
 | .map _ _=> .map
 | .view _=> .view
 | .aown _ _ _=> .aown
 | .aoown _ _ _ _ _=> .aown
def rhOf:ShR→Option Nat
 | .p (.st n)=>some n
 |_=>none
def isAr:ShA→Bool
 | .arr _ | .part _=>true
 |_=>false
section
variable {U:Zd}
structure FD (U:Zd) where
 f:Nat
 fn:Func
 sigs:List (Nat×ZjE U)
 as:List ShA
 os:List (Nat×ShA)
 rs:List ShR
 keep:List Nat
 alt:List (Nat×Nat)
 s:ZjA (Zke U as []) (Option (HT (oTy U os rs)))
 w:ZjA (Zke U as []) (Option (HT (oTy U os rs)))
 t:CT U (HT (oTy U os rs)) (HT (oTy U os rs))
namespace FD
variable (D:FD U)
abbrev rho:Type:=HT (oTy U D.os D.rs)
abbrev R:RSh:=⟨D.rs,D.os⟩
abbrev g (v:ZlN U D.R):D.rho:=Zml (oTy U D.os D.rs) (Znh D.rs v.1 (Zl7 (r:=[]) (D.os) v.2 ()))
abbrev b (x:D.rho):ZbL U:=D.R.bld ((usR D.rs (ZmB (oTy U D.os D.rs) x)).1,(usU (r:=[]) (D.os) (usR D.rs (ZmB (oTy U D.os D.rs) x)).2).1)
theorem b_g (v:ZlN U D.R):D.b (D.g v)=D.R.bld v:=by obtain⟨v1,v2⟩:=v;have e:ZmB (oTy U D.os D.rs) (D.g (v1,v2))=Znh D.rs v1 (Zl7 (r:=[]) (D.os) v2 ()):=Zct _ _;have e2:usR D.rs (Znh D.rs v1 (Zl7 (r:=[]) (D.os) v2 ()))=(v1,Zl7 (r:=[]) (D.os) v2 ()):=Zh0 _ _ _;have e3:(usU (r:=[]) (D.os) (Zl7 (r:=[]) (D.os) v2 ())).1=v2:=congrArg Prod.fst (ZhZ _ _ _);unfold b;rw[e,e2];exact congrArg (fun x=>D.R.bld (v1,x)) e3
abbrev FS:ZkU U:=⟨D.rho,D.fn.params.toList,(D.as.filter isVis).map amOf,(D.as.filter isVis).map ahOf,D.as,fun v=>app (Zke U D.as []) D.w (Zl8 (r:=[]) D.as v ()),D.b⟩
abbrev sig:ZjE U:=D.FS.sig
abbrev sg:Nat×ZjE U:=(D.f,D.sig)
abbrev F (X0:ZG U):FC U:=⟨X0.at D.fn.ntmps,D.fn,Zma D.fn,D.sigs,D.os.map (·.1),D.rs.map rmOf,D.rs.map rhOf,D.keep,D.alt⟩
abbrev C:CC U D.rho:=⟨[],none,[],ZeE D.R D.g⟩
def chk0:Bool:= !(D.fn.name == "runtime.NumGoroutine")&&D.fn.body.isSome&&Nat.ble D.as.length D.fn.ntmps
abbrev Ty:Type:=Bool×(D.rho→Bool)×(Zf3 U D.as→Option D.rho)×D.t.Ty
noncomputable abbrev lhs (X0:ZG U):D.Ty:=(D.chk0,fun r=>D.os.any (fun x=>isAr x.2)||(D.b r).outs.all (fun x=>x.2.len?.isNone),
 fun v=>evp (D.F X0) D.C (D.t.cuts some) [tc0 (D.F X0)] (ZkO (Zdr D.as v)),D.t.lhs (D.F X0) (ZeE D.R D.g) D.C some)
abbrev rhs:D.Ty:=(true,fun _=>true,fun v=>app (Zke U D.as []) D.s (Zl8 (r:=[]) D.as v ()),D.t.rhs)
end FD
structure Gnd (X0:ZG U):Prop where
 hU:UOk U
 hX:TOk X0
 hE:Zl X0.E
 hm:X0.prog.follows .mixedOrders=true
theorem Zdm:∀(as:List ShA) (v:Zf3 U as),(Zdr as v).length=as.length
 | [],_=>rfl
 |s::r,v=>by rw[Zdr,List.length_cons,List.length_cons,Zdm r]
theorem FD.fun {X0:ZG U} (G:Gnd X0) (D:FD U) (hf:X0.prog.funcs[D.f]? =some D.fn) (hs:Zdd X0 D.sigs) (h:D.lhs X0=D.rhs):
  (∀v r,app (Zke U D.as []) D.s (Zl8 (r:=[]) D.as v ())=some r→Fun X0.E D.f ((Zdr D.as v).map ZP.enc) (D.b r).enc)∧∀r,(D.os.any (fun x=>isAr x.2)||(D.b r).outs.all (fun x=>x.2.len?.isNone))=true:=by
 simp only[FD.lhs,FD.rhs,ZnP]at h;obtain⟨h1,h3,h4,h5⟩:=h;simp only[FD.chk0,Znu,Bool.not_eq_true',ZoE]at h1;obtain⟨⟨hn,c,hc⟩,hl⟩:=h1;have hF:FOk (D.F X0):=fok G.hU G.hX G.hE G.hm rfl hs;have hcuts:∀r,Zbl (D.F X0) (D.b r).enc r (D.t.cuts some):=fun r=>by
  have hret:∀t,D.C.ret t=some r→t.enc=(D.b r).enc:=fun t ht=>Zgl G.hU D.b_g ht
  refine CT.ok hF (ret0:=ZeE D.R D.g) D.t D.C some (by funext t;simp[FD.C]) h5 (cb:=(D.F X0).c) (base:=[]) rfl (fun L hL=>by simp[FD.C]at hL) (fun _=>rfl) trivial hret
 have hb:D.fn.body=some (D.F X0).c:=by rw[hc];simp only[FD.F,Zma,hc]
 exact⟨fun v r hv=>ZgK (F:=D.F X0) rfl hf hn hb (by rw[Zdm];exact Nat.le_of_ble_eq_true hl)
   (Pt.ev0 hF (b:=D.b) (S:=D.R) (g:=D.g) (pre:=[tc0 (D.F X0)]) rfl (ZgZ _) ((congrFun h4 v).trans hv) ⟨rfl,trivial⟩ (hcuts r) D.b_g),fun r=>congrFun h3 r⟩
theorem FD.ok {X0:ZG U} (G:Gnd X0) (D:FD U) (hf:X0.prog.funcs[D.f]? =some D.fn) (hs:Zdd X0 D.sigs) (ha:D.os.any (fun x=>isAr x.2)=false) (hw:D.w=D.s) (h:D.lhs X0=D.rhs):Zez X0.E D.f D.sig:=by
 obtain⟨h1,h2⟩:=D.fun G hf hs h;refine ZkU.ok (S:=D.FS) G.hU fun v r hr=> ?_
 have hr:app (Zke U D.as []) D.w (Zl8 (r:=[]) D.as v ())=some r:=hr;rw[hw]at hr;have h3:=h2 r;rw[ha,Bool.false_or]at h3;exact⟨h1 v r hr,ZdP h3⟩
theorem FD.okA {X0:ZG U} (G:Gnd X0) (D:FD U) (hf:X0.prog.funcs[D.f]? =some D.fn) (hs:Zdd X0 D.sigs)
  (hw:(fun v=>app (Zke U D.as []) D.w (Zl8 (r:=[]) D.as v ()))=fun v=>(app (Zke U D.as []) D.s (Zl8 (r:=[]) D.as v ())).bind fun r=>chk (Zid (Zdr D.as v) (D.b r)) (some r)) (h:D.lhs X0=D.rhs):Zez X0.E D.f D.sig:=by
 obtain⟨h1,h2⟩:=D.fun G hf hs h;refine ZkU.ok (S:=D.FS) G.hU fun v r hr=> ?_
 have hr:app (Zke U D.as []) D.w (Zl8 (r:=[]) D.as v ())=some r:=hr;have e2:=congrFun hw v;rw[hr]at e2;obtain⟨q1,q2⟩:=chkLen e2.symm;exact⟨h1 v r q1,ZiU q2⟩
end
end Eng
namespace Eng
open Go
section
variable {U:Zd}
def Ty.isSt:Ty→Bool
 | .st _=>true
 |_=>false
def Zm8 (U:Zd):Prop:=∀n x,(U.cells n x).all (fun l=> !l.t.isSt)=true
def Zg9 (w:World) (cs:List Value) (ls:List (Lf U.car)):Prop:=
 cs.length=ls.length∧∀(j:Nat) v l,cs[j]? =some v→ls[j]? =some l→RelP w (fun b=>b < w.heap.size) v (U.encL l)
theorem Zg9.one {w:World} {v:Value} {l:Lf U.car} (h:RelP w (fun b=>b < w.heap.size) v (U.encL l)):Zg9 (U:=U) w [v] [l]:=by
 refine⟨rfl,fun j v' l' h1 h2=> ?_⟩;cases j with
 |zero=>simp at h1 h2;subst h1;subst h2;exact h
 |succ j=>simp at h1
theorem Zg9.append {w:World} {cs cs':List Value} {ls ls':List (Lf U.car)} (h:Zg9 w cs ls) (h':Zg9 w cs' ls'):Zg9 w (cs++cs') (ls++ls'):=by
 refine⟨by simp[h.1,h'.1],fun j v l h1 h2=> ?_⟩;rw[List.getElem?_append]at h1 h2
 by_cases hj:j < cs.length
 ·rw[if_pos hj]at h1;rw[if_pos (by rw[←h.1];exact hj)]at h2;exact h.2 j v l h1 h2
 ·rw[if_neg hj]at h1;rw[if_neg (by rw[←h.1];exact hj),←h.1]at h2;exact h'.2 _ v l h1 h2
def ZkZ (T:Ty) (cs:List Value):Value:=if T.isSt then .agg cs.toArray else cs.headD Go.undef
theorem Zij {w:World} {S:Nat→Prop} {v:Value} {l:Lf U.car} (hl:l.t.isSt=false) (h:RelP w S v (U.encL l)):Zbp v∧v.cells= #[v]:=by
 obtain⟨t,x⟩:=l;generalize hz:U.encL ⟨t,x⟩=z at h;cases h with
 |agg vs cs hl' h1 h=>
  exfalso;cases t<;>first |(simp[Ty.isSt]at hl;done) |(simp[Zd.encL,Zd.encE]at hz;done) |(cases x<;>simp[Zd.encL,Zd.encE,Zkw]at hz)
 |_=>exact⟨rfl,rfl⟩
theorem Zdw (hU:UOk U) (hF:Zm8 U) {w:World} {T:Ty} {y:El U.car T} {cs:List Value} (h:Zg9 w cs (U.cellsE T y)):
  RelP w (fun b=>b < w.heap.size) (ZkZ T cs) (U.encE T y)∧(ZkZ T cs).cells=cs.toArray:=by
 cases T with
 |st n=>
  refine⟨?_,rfl⟩;simp only[Zd.encE,hU.enc_cells n y];show RelP w _ (.agg cs.toArray) _;have hall:=hF n y;rw[List.all_eq_true]at hall;refine .agg _ _ (by have h1:cs.length=(U.cells n y).length:=h.1;simpa using h1) (fun i v hv=> ?_) (fun i v c hv hc=> ?_)
  ·have hv':cs[i]? =some v:=by simpa using hv
   have hi:i < (U.cells n y).length:=by have:=(List.getElem?_eq_some_iff.1 hv').1;have h1:cs.length=(U.cells n y).length:=h.1;omega
   have hl:(U.cells n y)[i]? =some (U.cells n y)[i]:=Zn2 hi;exact(Zij (by simpa using hall _ (List.getElem_mem hi)) (h.2 i v _ hv' hl)).1
  ·have hv':cs[i]? =some v:=by simpa using hv
   rw[List.getElem?_map]at hc;cases hl:(U.cells n y)[i]? with
   |none=>rw[hl]at hc;simp at hc
   |some l=>
    rw[hl]at hc;simp only[Option.map_some,ZnO]at hc;subst hc;exact h.2 i v l hv' hl
 |bool |int k |str |sl t |map k v |fnc=>
  obtain⟨h1,h2⟩:=h
  match cs,h1 with
  | [c],_=>
   have:=h2 0 c _ rfl rfl;exact⟨this,(Zij rfl this).2⟩
def ZeB (P:Program) (U:Zd) (t:TypeId) (T:Ty):Prop:=
 ∀{H:Type} (enc:TypeId×Value→H) (w:World) (fuel:Nat) (cs:List Value) (x:DataW H×List MemPlace),DataW.trod enc P w 0 (fun _=>true) true fuel t cs=some x→
  (∀n∈x.1.weights P t,n≤reachBytes)→∃y:El U.car T,Zg9 w cs (U.cellsE T y)
variable {P:Program}
theorem Znf {t:TypeId} (ht:P.underlying t=some .bool):ZeB P U t .bool:=fun enc w fuel cs x h _=>by obtain⟨b,rfl,_⟩:=DataW.trod_bool ht h;exact⟨b,.one (.bool b)⟩
theorem opens_int {t:TypeId} {k:IntKind} (ht:P.underlying t=some (.int k)):ZeB P U t (.int k):=fun enc w fuel cs x h _=>by obtain⟨n,rfl,_,hw⟩:=DataW.trod_int ht h;simp only[Lit.wf,Znu,decide_eq_true_eq]at hw;exact⟨n,.one (.int k n hw.1 hw.2)⟩
theorem opens_str {t:TypeId} (ht:P.underlying t=some .string):ZeB P U t .str:=fun enc w fuel cs x h _=>by obtain⟨⟨⟨l⟩⟩,rfl,_,hs⟩:=DataW.trod_string ht h;exact⟨l,.one (.str l hs)⟩
theorem Zeg {α:Type} {R:Nat→α→Prop}:∀n,(∀i,i < n→∃y,R i y)→∃l:List α,l.length=n∧∀i y,l[i]? =some y→R i y
 |0,_=>⟨[],rfl,fun i y h=>by simp at h⟩
 |n+1,h=>by
  obtain⟨l,h1,h2⟩:=Zeg n fun i hi=>h i (by omega)
  obtain⟨y,hy⟩:=h n (by omega);refine⟨l++[y],by simp[h1],fun i z hz=> ?_⟩;rw[List.getElem?_append]at hz;split at hz
  ·exact h2 i z hz
  ·rename_i hi;have:i=n:=by have:=(List.getElem?_eq_some_iff.1 hz).1;simp at this;omega
   subst this;simp[h1]at hz;subst hz;exact hy
theorem Zb2 {H:Type} {P:Program} {e:TypeId}:∀{l:List (DataW H)} {d:DataW H},d∈l→∀n∈d.weights P e,n∈DataW.weightsAll P e l
 |x::r,d,hd,n,hn=>by
  simp only[DataW.weightsAll,List.mem_append];rcases List.mem_cons.1 hd with rfl |hd
  ·exact .inl hn
  ·exact .inr (Zb2 hd n hn)
theorem Zmv (hU:UOk U) (hF:Zm8 U) {t e:TypeId} {T:Ty} (ht:P.underlying t=some (.slice e)) (hsz:P.cellsOf e=U.tsize T) (hpos:0 < U.tsize T) (hb:1≤P.bytesOf e) (he:ZeB P U e T):ZeB P U t (.sl T):=fun enc w fuel cs x h hw=>by
 rcases DataW.trod_slice ht h with ⟨rfl,_⟩ |⟨a,len,cap,elems,rest,n,_,rfl,rfl,_,hl,_,hlen,hel,_,_⟩
 ·refine⟨[],.one ?_⟩;exact .sl none 0 0 _ _ (fun _=>Go.undef) rfl (by simp) (Nat.le_refl _) (fun i hi=>by omega) (fun i hi=>by omega) (fun i e h=>by simp at h)
 ·have hw0:len≤reachBytes:=by have:=hw ((elems.length+rest.length)*P.bytesOf e) (by simp[DataW.weights,ht]);have h1:elems.length*1≤(elems.length+rest.length)*P.bytesOf e:=Nat.mul_le_mul (by omega) hb;omega
  have each:∀i,i < len→∃y:El U.car T,∃ci,w.cells? 0 (a.add (i*P.cellsOf e)) (P.cellsOf e)=some ci∧Zg9 w ci (U.cellsE T y):=fun i hi=>by
   obtain⟨xi,hxi⟩:∃xi,elems[i]? =some xi:=⟨_,Zn2 (by omega)⟩;have h1:=hel i hi;rw[hxi]at h1;obtain⟨ci,hci,htr⟩:=Option.bind_eq_some_iff.1 h1;obtain⟨y,hy⟩:=he enc w n ci xi htr fun m hm=>hw m (by
    simp only[DataW.weights,ht,List.mem_cons,List.mem_append];exact .inr (.inl (Zb2 (List.mem_map.2 ⟨xi,List.mem_of_getElem? hxi,rfl⟩) m hm)))
   exact⟨y,ci,hci,hy⟩
  obtain⟨ys,hys,hy⟩:=Zeg len each;have hcl:∀i,i < len→∃y ci,ys[i]? =some y∧w.cells? 0 (a.add (i*P.cellsOf e)) (P.cellsOf e)=some ci∧Zg9 w ci (U.cellsE T y):=fun i hi=>by obtain⟨y,hyi⟩:∃y,ys[i]? =some y:=⟨_,Zn2 (by omega)⟩;obtain⟨ci,h1,h2⟩:=hy i y hyi;exact⟨y,ci,hyi,h1,h2⟩
  refine⟨ys,.one ?_⟩;show RelP w _ (.slice (some a) len cap) (.sl (U.tsize T) (ys.map (U.encE T)));refine .sl (some a) len cap _ _ (fun i=>ZkZ T ((w.cells? 0 (a.add (i*P.cellsOf e)) (P.cellsOf e)).getD [])) (by simp[hys]) (Nat.le_trans hw0 (by decide)) hl (fun i hi=> ?_) (fun i hi=> ?_) (fun i z hz=> ?_)
  ·obtain⟨y,ci,h1,h2,h3⟩:=hcl i hi;simp only[h2,ZnL,(Zdw hU hF h3).2];have:=h3.1;rw[ZbV hU]at this;simpa using this
  ·obtain⟨y,ci,h1,h2,h3⟩:=hcl i hi;have hlc:ci.length=U.tsize T:=by rw[h3.1,ZbV hU]
   obtain⟨_,hc1,hc2⟩:=World.cells?_some h2;have hspot:a.spot=none:=by
    obtain⟨y0,c0,_,h20,h30⟩:=hcl 0 (by omega);have hl0:c0.length=U.tsize T:=by rw[h30.1,ZbV hU]
    have h0:=(World.cells?_some h20).2.2 0 (by omega);rw[Nat.zero_mul,show (a.add 0).add 0=a from rfl,Zn2 (by omega)]at h0;unfold World.cell? at h0;cases hs:a.spot with
    |none=>rfl
    |some s=>rw[hs]at h0;split at h0<;>simp at h0
   have ha:a=⟨a.block,a.off,none⟩:=by cases a;simp at hspot;subst hspot;rfl
   have hlt:a.block < w.heap.size:=by have:=World.cells?_block h2 (by omega);unfold Addr.add at this;split at this<;>exact this
   have hadd:∀n,a.add n=⟨a.block,a.off+n,none⟩:=fun n=>by
    unfold Addr.add;split
    ·rename_i h0;subst h0;exact ha
    ·rfl
   refine⟨a.block,a.off,by rw[←ha],hlt,fun j v hv=> ?_⟩;simp only[h2,ZnL,(Zdw hU hF h3).2]at hv;have hv':ci[j]? =some v:=by simpa using hv
   have hj:=(List.getElem?_eq_some_iff.1 hv').1;have:=hc2 j (by omega);rw[hv',hadd,hsz]at this;rw[←this];congr 1;unfold Addr.add;split
   ·rename_i h0;subst h0;rfl
   ·rfl
  ·rw[List.getElem?_map]at hz;cases hyi:ys[i]? with
   |none=>rw[hyi]at hz;simp at hz
   |some y=>
    rw[hyi]at hz;simp only[Option.map_some,ZnO]at hz;subst hz;obtain⟨ci,h2,h3⟩:=hy i y hyi;simp only[h2,ZnL];exact(Zdw hU hF h3).1
abbrev Ys (U:Zd):List Ty→Type
 | []=>Unit
 |T::r=>El U.car T×Ys U r
def Ys.cells:(Ts:List Ty)→Ys U Ts→List (Lf U.car)
 | [],_=>[]
 |T::r,y=>U.cellsE T y.1++Ys.cells r y.2
def Zdc (P:Program) (U:Zd):Nat→List Field→List Ty→Prop
 |_,[],[]=>True
 |off,f::fs,T::Ts=>f.offset=off∧P.cellsOf f.type=U.tsize T∧ZeB P U f.type T∧Zdc P U (off+U.tsize T) fs Ts
 |_,_,_=>False
def Zgh (U:Zd):List Ty→Nat
 | []=>0
 |T::r=>U.tsize T+Zgh U r
theorem Zef (hU:UOk U) {H:Type} (enc:TypeId×Value→H) (w:World) (n:Nat) (cs:List Value):∀(off:Nat) (fs:List Field) (Ts:List Ty) (xs:List (DataW H×List MemPlace)),Zdc P U off fs Ts→xs.length=fs.length→
  (∀(i:Nat) (f:Field),fs[i]? =some f→DataW.trod enc P w 0 (fun _=>true) true n f.type ((cs.drop f.offset).take (P.cellsOf f.type))=xs[i]?)→
  (∀m∈DataW.weightsEach P (fs.map (·.type)) (xs.map (·.1)),m≤reachBytes)→cs.length=off+Zgh U Ts→∃ys:Ys U Ts,Zg9 w (cs.drop off) (ys.cells Ts)
 |off,[],[],xs,_,_,_,_,hl=>⟨(),by simp[Ys.cells,Zg9,hl,Zgh]⟩
 |off,f::fs,T::Ts,[],_,hx,_,_,_=>by simp at hx
 |off,f::fs,T::Ts,x::xs,⟨h1,h2,h3,h4⟩,hx,hf,hw,hl=>by
  have hf0:=hf 0 f rfl;rw[List.getElem?_cons_zero,h1,h2]at hf0;simp only[List.map_cons,DataW.weightsEach,List.mem_append]at hw;obtain⟨y,hy⟩:=h3 enc w n _ x hf0 fun m hm=>hw m (.inl hm)
  obtain⟨ys,hys⟩:=Zef hU enc w n cs (off+U.tsize T) fs Ts xs h4 (by simpa using hx) (fun i g hg=>hf (i+1) g (by simpa using hg)) (fun m hm=>hw m (.inr hm)) (by simp only[Zgh]at hl;omega);refine⟨(y,ys), ?_⟩;have:cs.drop off=(cs.drop off).take (U.tsize T)++cs.drop (off+U.tsize T):=by rw[←List.drop_drop,List.take_append_drop]
  rw[this];exact hy.append hys
 |_,[],_::_,_,h,_,_,_,_=>h.elim
 |_,_::_,[],_,h,_,_,_,_=>h.elim
theorem Zl0 (hU:UOk U) {t:TypeId} {fs:Array Field} {k:Nat} {Ts:List Ty} (ht:P.underlying t=some (.struct fs)) (hs:P.cellsOf t=Zgh U Ts) (hf:Zdc P U 0 fs.toList Ts)
  (mk:∀ys:Ys U Ts,∃x:U.car k,U.cells k x=ys.cells Ts):ZeB P U t (.st k):=fun enc w fuel cs x h hw=>by
 obtain⟨xs,n,_,rfl,hl,hx,hfs⟩:=DataW.trod_struct ht h;obtain⟨ys,hys⟩:=Zef hU enc w n cs 0 fs.toList Ts xs hf (by simpa using hx) (fun i f hi=>hfs i f (by simpa using hi)) (fun m hm=>hw m (by simpa[DataW.weights,ht]using hm)) (by rw[hl,hs];omega);obtain⟨y,hy⟩:=mk ys;refine⟨y, ?_⟩;show Zg9 w cs (U.cells k y);rw[hy];simpa using hys
def Zjv (T:Ty):Nat→List Ty
 |0=>[]
 |n+1=>T::Zjv T n
theorem ZiC (hU:UOk U) {H:Type} (enc:TypeId×Value→H) (w:World) (n:Nat) (cs:List Value) {e:TypeId} {T:Ty} (hsz:P.cellsOf e=U.tsize T) (he:ZeB P U e T):∀(m:Nat) (i0:Nat) (xs:List (DataW H×List MemPlace)),xs.length=m→
  (∀(i:Nat),i < m→DataW.trod enc P w 0 (fun _=>true) true n e ((cs.drop ((i0+i)*P.cellsOf e)).take (P.cellsOf e))=xs[i]?)→
  (∀q∈DataW.weightsAll P e (xs.map (·.1)),q≤reachBytes)→cs.length=(i0+m)*U.tsize T→∃ys:Ys U (Zjv T m),Zg9 w (cs.drop (i0*U.tsize T)) (ys.cells (Zjv T m))
 |0,i0,xs,_,_,_,hl=>⟨(),by simp[Zjv,Ys.cells,Zg9,hl]⟩
 |m+1,i0,[],hx,_,_,_=>by simp at hx
 |m+1,i0,x::xs,hx,hf,hw,hl=>by
  have hf0:=hf 0 (by omega);rw[List.getElem?_cons_zero,hsz,Nat.add_zero]at hf0;simp only[List.map_cons,DataW.weightsAll,List.mem_append]at hw;obtain⟨y,hy⟩:=he enc w n _ x hf0 fun m hm=>hw m (.inl hm)
  obtain⟨ys,hys⟩:=ZiC hU enc w n cs hsz he m (i0+1) xs (by simpa using hx) (fun i hi=>by have:=hf (i+1) (by omega);rw[List.getElem?_cons_succ]at this;rw[Nat.add_right_comm,Nat.add_assoc];exact this) (fun q hq=>hw q (.inr hq)) (by rw[hl];congr 1;omega)
  refine⟨(y,ys), ?_⟩;have:cs.drop (i0*U.tsize T)=(cs.drop (i0*U.tsize T)).take (U.tsize T)++cs.drop ((i0+1)*U.tsize T):=by rw[Nat.succ_mul,←List.drop_drop,List.take_append_drop]
  rw[this];exact hy.append hys
theorem Zmw (hU:UOk U) {t e:TypeId} {m k:Nat} {T:Ty} (ht:P.underlying t=some (.array m e)) (hs:P.cellsOf t=m*U.tsize T) (hsz:P.cellsOf e=U.tsize T) (he:ZeB P U e T)
  (mk:∀ys:Ys U (Zjv T m),∃x:U.car k,U.cells k x=ys.cells (Zjv T m)):ZeB P U t (.st k):=fun enc w fuel cs x h hw=>by
 obtain⟨xs,n,_,rfl,hl,hx,hfs⟩:=DataW.trod_array ht h;obtain⟨ys,hys⟩:=ZiC hU enc w n cs hsz he m 0 xs hx (fun i hi=>by rw[Nat.zero_add];exact hfs i hi) (fun q hq=>hw q (by simpa[DataW.weights,ht]using hq)) (by rw[hl,hs,Nat.zero_add]);obtain⟨y,hy⟩:=mk ys;refine⟨y, ?_⟩;show Zg9 w cs (U.cells k y);rw[hy];simpa using hys
theorem open_arg (hU:UOk U) (hF:Zm8 U) {H:Type} {enc:TypeId×Value→H} {t:TypeId} {T:Ty} (ho:ZeB P U t T) {w:World} {v:Value} {d:DataW H} {ps:List MemPlace} (h:DataW.Trod enc P w 0 (fun _=>true) true t v d ps)
  (hw:∀n∈d.weights P t,n≤reachBytes) (hv:ZkZ T v.cells.toList=v):∃y:El U.car T,RelP w (fun b=>b < w.heap.size) v (U.encE T y):=by
 obtain⟨fuel,hf⟩:=h;obtain⟨y,hy⟩:=ho enc w fuel _ _ hf hw;refine⟨y, ?_⟩;have:=(Zdw hU hF hy).1
 rwa [hv]at this
theorem okv_plain {w:World} {r:Reach} {base:Nat} {t:TypeId} {v:Value} {T:Ty} (hT:T.isSt=false) (ht:∃d,P.underlying t=some d∧(match d with | .bool | .string | .int _ | .slice _=>True |_=>False)) (h:Value.okWide P w r base t v):ZkZ T v.cells.toList=v:=by
 obtain⟨d,hu,hd⟩:=ht;have key:v.cells= #[v]→ZkZ T v.cells.toList=v:=fun he=>by unfold ZkZ;rw[hT,he];rfl
 cases d<;>simp only at hd
 all_goals (simp only[Value.okWide,hu,Cell.okWide]at h;cases v<;>first |exact key rfl |(simp[Cell.ok,hu]at h;done))
theorem okv_st {w:World} {r:Reach} {base:Nat} {t:TypeId} {v:Value} {n:Nat} (ht:∃d,P.underlying t=some d∧(match d with | .struct _ | .array _ _=>True |_=>False)) (h:Value.okWide P w r base t v):ZkZ (.st n) v.cells.toList=v:=by
 obtain⟨d,hu,hd⟩:=ht;cases d<;>simp only at hd
 all_goals (simp only[Value.okWide,hu]at h;obtain⟨cs,rfl,_⟩:=h;simp[ZkZ,Ty.isSt,Value.cells])
theorem ZjF.trod {H:Type} {enc:TypeId×Value→H} {t:TypeId} (hl:laidOutB P=true) (hr:P.readableRec t=true) (hrow:t < P.types.size) {W W':World} {v:Value} {d:DataW H} {ps:List MemPlace}
  (h:DataW.Trod enc P W 0 (fun _=>true) true t v d ps) (hk:ZjF W W') (hlt:∀x∈ps,x.block < W.heap.size) {sp:Nat→Bool} (hsp:∀x∈ps,sp x.block=true):DataW.Trod enc P W' 0 sp true t v d ps:=
 WideElems.Trod_stays hl hr hrow h (fun x hx=>by
  have:=hk.2.2 _ (hlt x hx);cases x with
  |cell b o=>exact World.cell?_of_block (w:=W) this
  |map b=>exact this) hsp
end
end Eng
