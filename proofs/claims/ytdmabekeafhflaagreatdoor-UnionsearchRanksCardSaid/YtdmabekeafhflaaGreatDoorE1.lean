/- The engine, text 1: an abstract evaluator of Go code over pure data, proved sound. -/
import Derived.Orders
import Derived.Laws.Sem
import Derived.Laws.World
import Derived.Laws.Cells
import Derived.Laws.IdiomCopy
import Derived.Laws.Entries
import Derived.Laws.Slices
import Derived.Laws.StructEq
import Derived.Lib.Strings
import Derived.Laws.MakeOwn
import Derived.Laws.IdiomStrings
import Derived.Laws.BytesArg
set_option linter.unusedVariables false
set_option linter.unusedSimpArgs false
set_option linter.unusedSectionVars false
open Array renaming getElem?_eq_getElem→Znp, getElem?_eq_some_iff→Znq, getElem?_extract→Znr, mem_iff_getElem→Zns, mem_toList_iff→Znt
open Bool renaming and_eq_true→Znu, false_eq_true→Znv
open Int renaming eq_ofNat_of_zero_le→Znw, toNat_natCast→Znx
open List renaming getElem?_cons_zero→Zny, getElem?_drop→Znz, getElem?_eq_some_iff→ZnA, getElem?_map→ZnB, getElem?_take→ZnC, mem_cons→ZnD, mem_cons_self→ZnE, mem_singleton→ZnF, replicate→ZnG
open Nat renaming add_assoc→ZnH, add_mul→ZnI, le_refl→ZnJ, mul_le_mul_right→ZnK
open Option renaming getD_some→ZnL, map_eq_some_iff→ZnM, some.inj→ZnN, some.injEq→ZnO
open Prod renaming mk.injEq→ZnP
namespace Eng
open Go
inductive TD where
 |bool |int (k:IntKind) |str
 |sl (e:Nat) |arr (n e:Nat) |ptr (e:Nat) |map (k e:Nat)
 |struct (fs:List (Nat×Nat))
 |func |tup |other
 deriving Inhabited
inductive P where
 |bool (b:Bool)
 |int (k:IntKind) (n:Int)
 |str (s:List UInt8)
 |agg (cs:List P)
 |sl (sz:Nat) (es:List P)
 |nilp
 |ptr (cs:List P)
 |map (td:TD) (kv:List (P×P))
 |fn (f:Nat) (first caps:List P)
 |nilfn
 deriving Inhabited
def P.cells:P→List P
 | .agg cs=>cs
 |x=>[x]
abbrev Id:=Nat×Nat×Nat
inductive D where
 |p (x:P)
 |dead
 |undef
 |anyb
 |nils (sz:Nat)
 |clip (sz:Nat) (es:List P)
 |agg (cs:List D)
 |tup (vs:List D)
 |sl (id:Id) (off len:Nat)
 |ptr (id:Id) (i j:Nat)
 |map (id:Id)
 |it (id:Id)
 |fn (f:Nat) (first caps:List D)
 |rp (x:Option P) (id:Id)
 |val (v:Value)
 deriving Inhabited
def D.cells:D→List D
 | .agg cs=>cs
 | .p (.agg cs)=>cs.map .p
 |d=>[d]
def D.okv:D→Bool
 | .dead | .undef | .tup _ | .val _=>false
 |_=>true
inductive Obj where
 |box (cs:List D)
 |arr (sz:Nat) (es:List P) (fix:Bool)
 |map (td:TD) (kv:List (P×P))
 |sit (s:List UInt8) (pos:Nat)
 |mit (rest:List (P×P)) (cur:Option (P×P))
 |gone
 |own (sz c k:Nat) (es:List P) (lo:Nat) (out:Option Nat)
 deriving Inhabited
def Obj.isOwn:Obj→Bool
 | .own .. =>true
 |_=>false
@[simp] theorem isOwn_box (cs:List D):(Obj.box cs).isOwn=false:=rfl
@[simp] theorem isOwn_arr (sz:Nat) (es:List P) (fix:Bool):(Obj.arr sz es fix).isOwn=false:=rfl
@[simp] theorem isOwn_map (td:TD) (kv:List (P×P)):(Obj.map td kv).isOwn=false:=rfl
@[simp] theorem isOwn_sit (s:List UInt8) (pos:Nat):(Obj.sit s pos).isOwn=false:=rfl
@[simp] theorem isOwn_mit (rest:List (P×P)) (cur:Option (P×P)):(Obj.mit rest cur).isOwn=false:=rfl
@[simp] theorem Zng:Obj.gone.isOwn=false:=rfl
def loUp:Option Nat→Nat→Nat
 |none,lo=>lo+1
 |some _,lo=>lo
structure St where
 slots:Nat→D
 objs:Id→Option Obj
 fz:Id→Bool
 ep:Nat
def upd {α β:Type} [DecidableEq α] (f:α→β) (a:α) (b:β):α→β:=fun x=>if x=a then b else f x
def St.set (st:St) (t:Nat) (d:D):St:={st with slots:=upd st.slots t d}
def St.setO (st:St):Option Nat→D→St
 |some t,d=>st.set t d
 |none,_=>st
def St.obj (st:St) (id:Id) (o:Obj):St:={st with objs:=upd st.objs id (some o)}
def St.freeze (st:St) (id:Id):St:={st with fz:=upd st.fz id true}
def St.objL (st:St):List (Id×Obj)→St
 | []=>st
 |(id,o)::r=>(st.obj id o).objL r
def St.freezeL (st:St):List Id→St
 | []=>st
 |id::r=>(st.freeze id).freezeL r
def St.next (st:St):St:={st with ep:=st.ep+1}
inductive Z where
 |p (x:P)
 |nils (sz:Nat)
 deriving Inhabited
def Z.toD:Z→D
 | .p x=> .p x
 | .nils sz=> .nils sz
def Z.toP:Z→P
 | .p x=>x
 | .nils sz=> .sl sz []
structure TI where
 d:TD
 size:Nat
 bytes:Nat
 zero:List Z
 deriving Inhabited
def TI.isAgg (i:TI):Bool:=match i.d with | .struct _ | .arr _ _=>true |_=>false
structure Env where
 prog:Program
 tys:List (Option TI)
 globs:List (Nat×List P)
 nt:Nat
 owns:List (Nat×Nat×Nat):=[]
def Env.ty (E:Env) (t:Nat):Option TI:=match E.tys[t]? with |some (some i)=>some i |_=>none
def Env.td (E:Env) (t:Nat):Option TD:=match E.ty t with |some i=>some i.d |none=>none
def Env.elem (E:Env) (t:Nat):Option TI:=
 match E.ty t with
 |some {d:= .sl e, .. }=>E.ty e
 |_=>none
def Env.elemSize (E:Env) (t:Nat):Nat:=match E.elem t with |some te=>te.size |none=>0
def Env.keyTD (E:Env) (t:Nat):TD:=
 match E.ty t with
 |some {d:= .map k _, .. }=>(match E.td k with
  |some (.arr n e)=>(match E.td e with |some (.int .i64)=> .arr n 0 |_=> .other)
  |some d=>d
  |none=> .other)
 |_=> .other
def D.ofV (sz:Nat) (td:TD):Value→D
 | .bool b=> .p (.bool b)
 | .int k n=> .p (.int k n)
 | .string s=> .p (.str s.data.toList)
 | .slice none 0 0=> .nils sz
 | .pointer none=> .p .nilp
 | .map none=> .p (.map td [])
 | .nilFunc=> .p .nilfn
 |_=> .dead
def Env.glob (E:Env) (g:Nat):D:=match E.globs.find? (·.1 == g)with |some x=> .p (.ptr x.2) |none=> .dead
def ev (E:Env) (sl:Nat→D) (t:Nat):Operand→D
 | .tmp s=>sl s
 | .const v=> .ofV (E.elemSize t) (E.keyTD t) v
 | .global g=>E.glob g
 | .func f=> .p (.fn f [] [])
def Zj {α β:Type} (f:α→Option β):List α→Option (List β)
 | []=>some []
 |x::xs=>match f x,Zj f xs with
  |some y,some ys=>some (y::ys)
  |_,_=>none
def D.pure?:D→Option P
 | .p x=>some x
 |_=>none
def D.mkAgg (cs:List D):D:=match Zj D.pure? cs with |some ps=> .p (.agg ps) |none=> .agg cs
def D.toP (lk:Id→Option Obj):Nat→D→Option P
 |_,.p x=>some x
 |_,.nils sz=>some (.sl sz [])
 |_,.clip sz es=>some (.sl sz es)
 |_,.sl id off len=>match lk id with
  |some (.arr sz es _)=>some (.sl sz ((es.drop off).take len))
  |_=>none
 |_,.map id=>match lk id with
  |some (.map td kv)=>some (.map td kv)
  |_=>none
 |n+1,.agg cs=>(Zj (D.toP lk n) cs).map .agg
 |n+1,.ptr id i j=>match lk id with
  |some (.box cs)=>if i=0 then (Zj (D.toP lk n) (cs.drop j)).map .ptr else none
  |some (.arr _ es _)=>some (.ptr ((es.getD i default).cells.drop j))
  |_=>none
 |n+1,.fn f first caps=>match Zj (D.toP lk n) first,Zj (D.toP lk n) caps with
  |some a,some b=>some (.fn f a b)
  |_,_=>none
 |_,_=>none
def D.ids (lk:Id→Option Obj):Nat→D→List Id
 |_,.sl id _ _=>[id]
 |_,.map id=>[id]
 |_,.it id=>[id]
 |_,.rp _ id=>[id]
 |n+1,.agg cs=>cs.flatMap (D.ids lk n)
 |n+1,.tup vs=>vs.flatMap (D.ids lk n)
 |n+1,.ptr id _ j=>id::(match lk id with
  |some (.box cs)=>(cs.drop j).flatMap (D.ids lk n)
  |_=>[])
 |n+1,.fn _ first caps=>first.flatMap (D.ids lk n)++caps.flatMap (D.ids lk n)
 |0,.ptr id _ _=>[id]
 |_,_=>[]
def depth:Nat:=8
def ZfZ (op:BinOp) (k:IntKind) (x y:Int):Option Int:=
 let a:=BitVec.ofInt k.bits x
 let b:=BitVec.ofInt k.bits y
 match op with
 | .and=>some (k.wrap (a&&& b).toNat)
 | .or=>some (k.wrap (a|||b).toNat)
 | .xor=>some (k.wrap (a ^^^ b).toNat)
 | .andNot=>some (k.wrap (a&&& ~~~b).toNat)
 |_=>none
def Zls:Int→Bool
 | .ofNat m=>Nat.ble m 9223372036854775807
 | .negSucc m=>Nat.ble m 9223372036854775807
theorem Zkn {n:Int}:Zls n=true↔IntKind.i64.min≤n∧n≤IntKind.i64.max:=by
 have h0:IntKind.i64.min= -9223372036854775808:=by decide
 have h1:IntKind.i64.max=9223372036854775807:=by decide
 rw[h0,h1];cases n with
 |ofNat m=>
  show Nat.ble m 9223372036854775807=true↔_;grind[Nat.ble_eq]
 |negSucc m=>
  show Nat.ble m 9223372036854775807=true↔_;grind[Nat.ble_eq]
def ZaJ (k:IntKind) (n:Int):P×List Bool:=
 match k with
 | .i64=>(.int .i64 n,[Zls n])
 |k=>(.int k (k.wrap n),[])
def ZmN (op:BinOp) (k:IntKind) (x y:Int):Option (P×List Bool):=
 match op with
 | .add=>some (ZaJ k (x+y))
 | .sub=>some (ZaJ k (x - y))
 | .mul=>some (ZaJ k (x*y))
 | .quo=>some ((ZaJ k (x.tdiv y)).1,decide (y≠0)::(ZaJ k (x.tdiv y)).2)
 | .rem=>some (.int k (x.tmod y),[decide (y≠0)])
 | .eql=>some (.bool (x == y),[])
 | .neq=>some (.bool (x != y),[])
 | .lss=>some (.bool (x < y),[])
 | .leq=>some (.bool (x≤y),[])
 | .gtr=>some (.bool (x > y),[])
 | .geq=>some (.bool (x≥y),[])
 |op=>match ZfZ op k x y with
  |some n=>some (.int k n,[])
  |none=>none
def Zhg (op:BinOp) (k:IntKind) (x y:Int):Option (P×List Bool):=
 match op with
 | .shl=>some (.int k (k.wrap (x*2 ^ (min y.toNat k.bits))),[decide (0≤y)])
 | .shr=>some (.int k (x.fdiv (2 ^ (min y.toNat k.bits))),[decide (0≤y)])
 |_=>none
def Zr:Nat:=9223372036854775807
def Zmm (op:BinOp) (x y:List UInt8):Option (P×List Bool):=
 match op with
 | .add=>some (.str (x++y),[decide (x.length+y.length≤Zr)])
 | .eql=>some (.bool (x == y),[])
 | .neq=>some (.bool !(x == y),[])
 | .lss=>some (.bool (Op.bytesLess x y),[])
 | .leq=>some (.bool (Op.bytesLess x y||x == y),[])
 | .gtr=>some (.bool !(Op.bytesLess x y||x == y),[])
 | .geq=>some (.bool !(Op.bytesLess x y),[])
 |_=>none
def P.eqc:P→P→Option Bool
 | .bool a,.bool b=>some (a == b)
 | .int k a,.int k' b=>if k=k' then some (a == b)else none
 | .str a,.str b=>some (a == b)
 |_,_=>none
def P.eqcs:List P→List P→Option Bool
 | [],[]=>some true
 |x::xs,y::ys=>match P.eqc x y,P.eqcs xs ys with
  |some a,some b=>some (a&&b)
  |_,_=>none
 |_,_=>none
def P.eqv:P→P→Option Bool
 | .agg as,.agg bs=>P.eqcs as bs
 |x,y=>P.eqc x y
def Zm0 (op:BinOp):P→P→Option (P×List Bool)
 | .int k a,.int k' b=>
  match op with
  | .shl | .shr=>Zhg op k a b
  |op=>if k=k' then ZmN op k a b else none
 | .str a,.str b=>Zmm op a b
 |_,_=>none
def Zdi:TD→Operand→D→Option D
 | .ptr _,.const (.pointer none),d=>match d with
  | .p .nilp=>some (.p (.bool true))
  | .p (.ptr _) | .ptr _ _ _=>some (.p (.bool false))
  |_=>none
 | .func,.const .nilFunc,d=>match d with
  | .p .nilfn=>some (.p (.bool true))
  | .p (.fn _ _ _) | .fn _ _ _=>some (.p (.bool false))
  |_=>none
 | .sl _,.const (.slice none 0 0),d=>match d with
  | .nils _=>some (.p (.bool true))
  | .p (.sl _ es)=>some (if es.isEmpty then .anyb else .p (.bool false))
  | .sl _ _ len=>some (if len=0 then .anyb else .p (.bool false))
  |_=>none
 |_,_,_=>none
def Operand.isNil:Operand→Bool
 | .const (.pointer none) | .const (.slice none 0 0) | .const .nilFunc=>true
 |_=>false
def D.notb:D→Option D
 | .p (.bool b)=>some (.p (.bool !b))
 | .anyb=>some .anyb
 |_=>none
def ZkJ (op:BinOp) (a b:Bool):Option P:=
 match op with
 | .eql=>some (.bool (a == b))
 | .neq=>some (.bool !(a == b))
 |_=>none
def unop (op:UnOp):P→Option (P×List Bool)
 | .int k n=>match op with
  | .neg=>some (ZaJ k (0 - n))
  | .xor=>match ZfZ .xor k (if k.signed then -1 else k.max) n with
   |some m=>some (.int k m,[])
   |none=>none
  |_=>none
 | .bool b=>match op with
  | .not=>some (.bool !b,[])
  |_=>none
 |_=>none
def P.key (x y:P):Bool:=(P.eqv x y).getD false
def Zbq (kv:List (P×P)) (k:P):Option P:=(kv.find? fun e=>P.key k e.1).map (·.2)
def ZjD (kv:List (P×P)) (k v:P):List (P×P):=
 if kv.any (fun e=>P.key k e.1)then kv.map fun e=>if P.key k e.1 then (e.1,v)else e else kv++[(k,v)]
def ZkY (kv:List (P×P)) (k:P):List (P×P):=kv.filter fun e=> !P.key k e.1
def ZZ:TD→P→Bool
 | .bool,.bool _=>true
 | .int k,.int k' _=>k == k'
 | .str,.str _=>true
 |_,_=>false
def Zam:TD→P→Bool
 | .arr _ _,.agg [.int .i64 _,.int .i64 _]=>true
 |td,x=>ZZ td x
def TD.same:TD→TD→Bool
 | .bool,.bool=>true
 | .arr n e,.arr m e'=>n == 2&&m == 2&&e == 0&&e' == 0
 | .int k,.int k'=>k == k'
 | .str,.str=>true
 |_,_=>false
end Eng
namespace Eng
open Go
structure Eff where
 val:D
 new:List (Nat×Obj):=[]
 wr:List (Id×Obj):=[]
 frz:List Id:=[]
 cond:List Bool:=[]
def ZT {α:Type} (xs:List α) (j:Nat) (ys:List α):List α:=xs.take j++ys++xs.drop (j+ys.length)
def ZeO (ep i:Nat):Nat→List D→List D
 |_,[]=>[]
 |k,.nils _::r=> .sl (ep,i,k) 0 0::ZeO ep i (k+1) r
 |k,d::r=>d::ZeO ep i (k+1) r
def ZU:Nat→List D→List (Nat×Obj)
 |_,[]=>[]
 |k,.nils sz::r=>(k,.arr sz [] false)::ZU (k+1) r
 |k,_::r=>ZU (k+1) r
@[simp] theorem ZdG (k:Nat) (ds:List D):∀m o,(m,o)∈ZU k ds→o.isOwn=false:=by
 intro m o
 induction ds generalizing k with
 |nil=>simp[ZU]
 |cons d r ih=>cases d<;>simp only[ZU,ZnD,ZnP]<;>first |exact ih _ |(rintro(⟨_,rfl⟩ |h)<;>first |rfl |grind)
def D.int?:D→Option Int
 | .p (.int _ n)=>some n
 |_=>none
def ZaW (E:Env) (f:Nat→Option (List TD)) (size:Nat):Nat→List (Nat×Nat)→Option (List TD)
 |off,[]=>if off=size then some []else none
 |off,(o,t)::r=>if o=off then match f t,E.ty t with
   |some a,some ti=>if a.length=ti.size then match ZaW E f size (off+ti.size) r with
    |some b=>some (a++b)
    |none=>none
    else none
   |_,_=>none
  else none
def Zbf (E:Env):Nat→Nat→Option (List TD)
 |0,_=>none
 |n+1,t=>match E.ty t with
  |some ti=>match ti.d with
   | .bool=>some [.bool]
   | .int k=>some [.int k]
   | .str=>some [.str]
   | .struct fs=>ZaW E (Zbf E n) ti.size 0 fs
   |_=>none
  |none=>none
def eqt:List TD→List P→List P→Option Bool
 | [],[],[]=>some true
 |td::r,x::xs,y::ys=>if ZZ td x&&ZZ td y then match P.eqc x y,eqt r xs ys with
   |some a,some b=>some (a&&b)
   |_,_=>none
  else none
 |_,_,_=>none
def Zm6 (E:Env) (op:BinOp) (t:Nat) (u v:List P):Option P:=
 match E.td t,Zbf E depth t with
 |some (.struct _),some tds=>match op,eqt tds u v with
  | .eql,some b=>some (.bool b)
  | .neq,some b=>some (.bool !b)
  |_,_=>none
 |_,_=>none
def TI.part (E:Env) (ti:TI) (i:Nat):Option (Nat×Nat):=
 match ti.d with
 | .struct fs=>fs[i]?
 | .arr _ e=>match E.ty e with |some te=>some (i*te.size,e) |none=>none
 |_=>none
def Zb4 (E:Env) (sl:Nat→D) (ti:TI):List (Nat×Operand)→List D→Option (List D)
 | [],cs=>some cs
 |(i,x)::r,cs=>match ti.part E i with
  |some (off,t)=>match E.ty t with
   |some tp=>let ds:=(ev E sl t x).cells
    if ds.length=tp.size∧off+ds.length≤cs.length∧(ev E sl t x).okv=true then Zb4 E sl ti r (ZT cs off ds)else none
   |none=>none
  |none=>none
def ZH (E:Env) (sl:Nat→D) (lk:Id→Option Obj) (t:Nat) (te:TI):List (Nat×Operand)→List P→Option (List P)
 | [],es=>some es
 |(i,x)::r,es=>match (ev E sl t x).toP lk depth with
  |some y=>if y.cells.length=te.size∧i < es.length then ZH E sl lk t te r (es.set i y)else none
  |none=>none
def TI.zeroP (ti:TI):P:=if ti.isAgg then .agg (ti.zero.map Z.toP)else (ti.zero.map Z.toP).headD default
def Zc4 (E:Env) (sl:Nat→D) (lk:Id→Option Obj) (t:Nat) (xs:List (Nat×Operand)):List Id:=xs.flatMap fun x=>(ev E sl t x.2).ids lk depth
def Zdp (ti:TI) (cs:List P):Option P:=
 if ti.isAgg then (if ti.size≤cs.length then some (.agg (cs.take ti.size))else none)
 else cs.head?
def ZfK (ti:TI) (cs:List D):Option D:=
 if ti.isAgg then (if ti.size≤cs.length then some (.mkAgg (cs.take ti.size))else none)
 else cs.head?
def P.put (e:P) (sz j:Nat) (x:P):P:=
 if j=0∧x.cells.length=sz then x
 else match e with
  | .agg cs=> .agg (ZT cs j x.cells)
  |_=>x
def ZaV (lk:Id→Option Obj) (sz:Option Nat) (x:D) (lo hi mx:Option Int):Option Eff:=
 match sz,x with
 |none,.p (.str s)=>match mx with
  |some _=>none
  |none=>some {val:= .p (.str ((s.take (hi.getD s.length).toNat).drop (lo.getD 0).toNat)),cond:=[decide (0≤lo.getD 0∧lo.getD 0≤hi.getD s.length∧hi.getD s.length≤s.length)]}
 |some sz',.p (.sl sz es)=>if sz=sz' then match mx,hi with
  |none,_=>some {val:= .p (.sl sz ((es.take (hi.getD es.length).toNat).drop (lo.getD 0).toNat)),cond:=[decide (0≤lo.getD 0∧lo.getD 0≤hi.getD es.length∧hi.getD es.length≤es.length)]}
  |some m,some h=>some {val:= .clip sz ((es.take h.toNat).drop (lo.getD 0).toNat),cond:=[decide (0≤lo.getD 0∧lo.getD 0≤h∧h≤es.length∧m=h)]}
  |_,_=>none
  else none
 |some sz',.sl id off len=>match lk id with
  |some (.arr sz es _)=>if sz=sz' then match mx,hi with
   |none,_=>some {val:= .sl id (off+(lo.getD 0).toNat) ((hi.getD len).toNat - (lo.getD 0).toNat),cond:=[decide (0≤lo.getD 0∧lo.getD 0≤hi.getD len∧hi.getD len≤len)]}
   |some m,some h=>some {val:= .clip sz ((es.drop (off+(lo.getD 0).toNat)).take (h.toNat - (lo.getD 0).toNat)),frz:=[id],cond:=[decide (0≤lo.getD 0∧lo.getD 0≤h∧h≤len∧m=h)]}
   |_,_=>none
   else none
  |_=>none
 |some _,.nils sz=>match mx with
  |none=>some {val:= .nils sz,cond:=[decide (lo.getD 0=0∧hi.getD 0=0)]}
  |some _=>none
 |_,_=>none
def Zb1 (E:Env) (sl:Nat→D):Option Operand→Option (Option Int)
 |none=>some none
 |some x=>match ev E sl 0 x with
  | .p (.int _ n)=>some (some n)
  |_=>none
def Zf4 (lk:Id→Option Obj):TD→D→Option (Nat×List Bool)
 | .arr n _,_=>some (n,[n≤Zr])
 | .str,.p (.str s)=>some (s.length,[])
 | .sl _,.p (.sl _ es)=>some (es.length,[])
 | .sl _,.clip _ es=>some (es.length,[])
 | .sl _,.nils _=>some (0,[])
 | .sl _,.sl _ _ len=>some (len,[])
 | .map _ _,.p (.map _ kv)=>some (kv.length,[decide (kv.length≤Zr)])
 | .map _ _,.map id=>match lk id with |some (.map _ kv)=>some (kv.length,[decide (kv.length≤Zr)]) |_=>none
 |_,_=>none
def ZfI (lk:Id→Option Obj):D→Option (TD×List (P×P))
 | .p (.map td kv)=>some (td,kv)
 | .map id=>match lk id with |some (.map td kv)=>some (td,kv) |_=>none
 |_=>none
def ZD:Nat:=140737488355328
def ZaR (s:List UInt8):List P:=s.map fun b=> .int .u8 b.toNat
def ZcP (lk:Id→Option Obj) (sz:Nat) (x:D):Option (List P):=
 match x with
 | .p (.str s)=>if sz=1 then some (ZaR s)else none
 |x=>match x.toP lk 1 with
  |some (.sl sz' es)=>if sz'=sz then some es else none
  |_=>none
def Zab (lk:Id→Option Obj) (ep i:Nat) (te:TI) (s:D) (xs:List P):Option Eff:=
 match s with
 | .nils _=>some {val:= .sl (ep,i,0) 0 xs.length,new:=[(0,.arr te.size xs false)],cond:=[decide (xs.length*max te.bytes 1≤ZD)]}
 | .clip sz es=>if sz=te.size then
   some {val:= .sl (ep,i,0) 0 (es.length+xs.length),new:=[(0,.arr te.size (es++xs) false)],cond:=[decide (xs.isEmpty=false∧(es.length+xs.length)*max te.bytes 1≤ZD)]}else none
 | .sl id 0 len=>match lk id with
  |some (.arr sz es false)=>if sz=te.size then
    some {val:= .sl (ep,i,0) 0 (len+xs.length),new:=[(0,.arr te.size (es.take len++xs) false)],wr:=[(id,.gone)],cond:=[decide ((len+xs.length)*max te.bytes 1≤ZD)]}else none
  |_=>none
 |_=>none
def ZaT (lk:Id→Option Obj) (ep i:Nat) (te:TI) (s x:D):Option Eff:=
 match ZcP lk te.size x with
 |none=>none
 |some xs=>Zab lk ep i te s xs
def ZfW (lk:Id→Option Obj) (te:TI) (d s:D):Option Eff:=
 match d with
 | .sl id off len=>match lk id with
  |some (.arr sz es fix)=>match ZcP lk sz s with
   |some xs=>if sz=te.size then
     some {val:= .p (.int .i64 (min xs.length len:Nat)),wr:=[(id,.arr sz (ZT es off (xs.take (min xs.length len))) fix)]}else none
   |none=>none
  |_=>none
 |_=>none
def maxP:List D→Option P
 | [.p (.int k a),.p (.int k' b)]=>if k=k' then some (.int k (if b > a then b else a))else none
 | [.p (.int k a),.p (.int k' b),.p (.int k'' c)]=>if k=k'∧k=k'' then some (.int k (if c > (if b > a then b else a)then c else (if b > a then b else a)))else none
 |_=>none
def minP:List D→Option P
 | [.p (.int k a),.p (.int k' b)]=>if k=k' then some (.int k (if b < a then b else a))else none
 | [.p (.int k a),.p (.int k' b),.p (.int k'' c)]=>if k=k'∧k=k'' then some (.int k (if c < (if b < a then b else a)then c else (if b < a then b else a)))else none
 |_=>none
def ZY (E:Env) (sl:Nat→D):List Operand→List Nat→List D
 | [],_=>[]
 |x::xs,[]=>ev E sl 0 x::ZY E sl xs []
 |x::xs,t::ts=>ev E sl t x::ZY E sl xs ts
def Zii (E:Env) (lk:Id→Option Obj):List Nat→List D→Option Eff
 | [t],[d]=>match E.td t with
  |some td=>match Zf4 lk td d with
   |some (n,c)=>some {val:= .p (.int .i64 n),cond:=c}
   |none=>none
  |none=>none
 |_,_=>none
def Zcm (E:Env) (ep i:Nat) (lk:Id→Option Obj):List Nat→List D→Option Eff
 | [t,u],[s,x]=>match E.elem t,E.td u with
  |some te,some (.sl _)=>ZaT lk ep i te s x
  |some te,some .str=>ZaT lk ep i te s x
  |some te,some (.int _)=>match x with
   | .p (.int .i64 a)=>if 0≤a then Zab lk ep i te s (ZnG a.toNat te.zeroP)else none
   |_=>none
  |_,_=>none
 |_,_=>none
def Zjl (E:Env) (lk:Id→Option Obj):List Nat→List D→Option Eff
 |t::_,[d,s]=>match E.elem t with
  |some te=>ZfW lk te d s
  |none=>none
 |_,_=>none
def Zek (E:Env) (lk:Id→Option Obj):List Nat→List D→Option Eff
 |t::_,[.map id,k]=>match E.td t,lk id,k.toP lk 1 with
  |some (.map _ _),some (.map td kv),some kp=>if (E.keyTD t).same td&&Zam td kp then some {val:= .undef,wr:=[(id,.map td (ZkY kv kp))]}else none
  |_,_,_=>none
 |_,_=>none
def ZO (E:Env) (ep i:Nat) (lk:Id→Option Obj) (b:Builtin) (ats:List Nat) (ds:List D):Option Eff:=
 match b with
 | .len=>Zii E lk ats ds
 | .append=>Zcm E ep i lk ats ds
 | .copy=>Zjl E lk ats ds
 | .max=>match maxP ds with
  |some x=>some {val:= .p x}
  |none=>none
 | .min=>match minP ds with
  |some x=>some {val:= .p x}
  |none=>none
 | .delete=>Zek E lk ats ds
 |_=>none
def P.isU8:P→Bool
 | .int .u8 _=>true
 |_=>false
def P.byte:P→UInt8
 | .int _ n=>UInt8.ofNat n.toNat
 |_=>0
def ZaD (E:Env) (ep i:Nat) (lk:Id→Option Obj) (s t:Nat) (x:D):Option Eff:=
 match E.td s,E.td t,x with
 |some (.int _),some (.int k),.p (.int _ n)=>some {val:= .p (.int k (k.wrap n))}
 |some .str,some .str,.p (.str s)=>some {val:= .p (.str s)}
 |some .str,some (.sl e),.p (.str s)=>match E.td e with
  |some (.int .u8)=>some {val:= .sl (ep,i,0) 0 s.length,new:=[(0,.arr 1 (ZaR s) false)],cond:=[decide (s.length≤281474976710656)]}
  |_=>none
 |some (.sl e),some .str,x=>match E.td e,x.toP lk 1 with
  |some (.int .u8),some (.sl _ es)=>some {val:= .p (.str (es.map P.byte)),cond:=[es.all P.isU8]}
  |_,_=>none
 |_,_,_=>none
def Z6 (E:Env) (sl:Nat→D) (lk:Id→Option Obj) (t:Nat) (m k v:Operand):Option Eff:=
 match E.ty t with
 |some {d:= .map kt vt, .. }=>match ev E sl 0 m with
  | .map id=>match lk id,(ev E sl kt k).toP lk 1,(ev E sl vt v).toP lk depth with
   |some (.map td kv),some kp,some vp=>if (E.keyTD t).same td&&Zam td kp then some {val:= .undef,wr:=[(id,.map td (ZjD kv kp vp))],frz:=(ev E sl vt v).ids lk depth}else none
   |_,_,_=>none
  |_=>none
 |_=>none
def Zf (E:Env) (ep i:Nat) (op:Op) (ty:Nat) (sl:Nat→D) (lk:Id→Option Obj):Option Eff:=
 match op with
 | .move x=>some {val:=ev E sl ty x}
 | .assign x=>match ev E sl ty x with
  | .nils sz=>some {val:= .sl (ep,i,0) 0 0,new:=[(0,.arr sz [] false)]}
  |d=>some {val:=d}
 | .pick c a b=>match ev E sl ty c with
  | .p (.bool x)=>some {val:=if x then ev E sl ty a else ev E sl ty b}
  |_=>none
 | .alloc t=>match E.ty t with
  |some ti=>let ds:=ti.zero.map Z.toD
   some {val:= .ptr (ep,i,0) 0 0,new:=(0,.box (ZeO ep i 1 ds))::ZU 1 ds}
  |none=>none
 | .box t x=>match E.ty t with
  |some ti=>let ds:=(ev E sl t x).cells
   if ds.length=ti.size∧(ev E sl t x).okv=true then some {val:= .ptr (ep,i,0) 0 0,new:=(0,.box (ZeO ep i 1 ds))::ZU 1 ds}else none
  |none=>none
 | .build t parts=>match E.ty t with
  |some ti=>if ti.isAgg then match Zb4 E sl ti parts.toList (ti.zero.map Z.toD)with
   |some cs=>some {val:= .mkAgg cs}
   |none=>none
   else none
  |none=>none
 | .buildSlice t n parts=>match E.ty t with
  |some {d:= .sl e, .. }=>match E.ty e with
   |some te=>match ZH E sl lk e te parts.toList (ZnG n te.zeroP)with
    |some es=>if n*te.size≤16777216∧n≤16777216 then some {val:= .sl (ep,i,0) 0 n,new:=[(0,.arr te.size es false)],frz:=Zc4 E sl lk e parts.toList}else none
    |none=>none
   |none=>none
  |_=>none
 | .load t a=>match E.ty t with
  |some ti=>match ev E sl 0 a with
   | .p (.ptr cs)=>match Zdp ti cs with
    |some x=>some {val:= .p x}
    |none=>none
   | .ptr id i' j=>match lk id with
    |some (.box cs)=>if i'=0 then match ZfK ti (cs.drop j)with
     |some d=>some {val:=d}
     |none=>none
     else none
    |some (.arr _ es _)=>match Zdp ti ((es.getD i' default).cells.drop j)with
     |some x=>some {val:= .p x}
     |none=>none
    |some (.own sz c k es lo out)=>match es[i']? with
     |some (.agg cs)=>if lo≤i' then match Zdp ti (cs.drop j)with
       |some x=>some {val:= .p x}
       |none=>none
      else match out,cs[c]? with
      |none,some (.sl k' l)=>if j=c∧k'=k∧ti.size=1∧ti.isAgg=false then some {val:= .sl (ep,i,0) 0 l.length,new:=[(0,.arr k l false)],wr:=[(id,.own sz c k es lo (some i'))]}else none
      |_,_=>none
     |_=>none
    |_=>none
   | .rp none id=>if ti.size=1∧ti.isAgg=false then some {val:= .map id}else none
   |_=>none
  |none=>none
 | .store t a x=>match E.ty t with
  |some ti=>match ev E sl 0 a with
   | .ptr id i' j=>match lk id with
    |some (.box cs)=>let ds:=(ev E sl t x).cells
     if i'=0∧ds.length=ti.size∧j+ds.length≤cs.length∧(ev E sl t x).okv=true then
      some {val:= .undef,new:=ZU 0 ds,wr:=[(id,.box (ZT cs j (ZeO ep i 0 ds)))]}else none
    |some (.arr sz es fix)=>match (ev E sl t x).toP lk depth with
     |some y=>if y.cells.length=ti.size∧j+ti.size≤sz∧0 < ti.size then
       some {val:= .undef,wr:=[(id,.arr sz (es.set i' ((es.getD i' default).put sz j y)) fix)],frz:=(ev E sl t x).ids lk depth}else none
     |none=>none
    |some (.own sz c k es lo out)=>match ev E sl t x with
     | .sl id2 0 len=>match lk id2,es[i']? with
      |some (.arr k' l false),some (.agg cs)=>if (out=some i'∧i' < lo∨out=none∧lo=i')∧j=c∧k'=k∧len=l.length∧ti.size=1∧ti.isAgg=false∧id2≠id then
        some {val:= .undef,wr:=[(id,.own sz c k (es.set i' (.agg (cs.set c (.sl k l)))) (loUp out lo) none),(id2,.gone)]}else none
      |_,_=>none
     |_=>none
    |_=>none
   |_=>none
  |none=>none
 | .nilCheck x=>match ev E sl 0 x with
  | .p (.ptr cs)=>some {val:= .p (.ptr cs)}
  | .ptr id i' j=>some {val:= .ptr id i' j}
  | .p (.fn f a b)=>some {val:= .p (.fn f a b)}
  | .fn f a b=>some {val:= .fn f a b}
  | .rp x id=>some {val:= .rp x id}
  |_=>none
 | .binOp b t x y _=>
  if Operand.isNil y then
   match E.td t with
   |some td=>match b,Zdi td y (ev E sl 0 x)with
    | .eql,some d=>some {val:=d}
    | .neq,some d=>match d.notb with
     |some d=>some {val:=d}
     |none=>none
    |_,_=>none
   |none=>none
  else match ev E sl 0 x,ev E sl 0 y with
   | .p (.bool u),.p (.bool v)=>match E.td t,ZkJ b u v with
    |some .bool,some z=>some {val:= .p z}
    |_,_=>none
   | .p (.agg u),.p (.agg v)=>match Zm6 E b t u v with
     |some z=>some {val:= .p z}
     |none=>none
   | .p u,.p v=>match Zm0 b u v with
    |some (z,c)=>some {val:= .p z,cond:=c}
    |none=>none
   |_,_=>none
 | .unOp u _ x=>match ev E sl 0 x with
  | .p v=>match unop u v with
   |some (z,c)=>some {val:= .p z,cond:=c}
   |none=>none
  |_=>none
 | .convert s t x=>ZaD E ep i lk s t (ev E sl 0 x)
 | .makeFunc (.func f) first caps=>
  some {val:=match Zj D.pure? (first.toList.map (ev E sl 0)),Zj D.pure? (caps.toList.map (ev E sl 0))with
   |some a,some b=> .p (.fn f a b)
   |_,_=> .fn f (first.toList.map (ev E sl 0)) (caps.toList.map (ev E sl 0))}
 | .makeMap t none=>some {val:= .map (ep,i,0),new:=[(0,.map (E.keyTD t) [])]}
 | .makeSlice t l c=>match E.elem t,ev E sl 0 l,ev E sl 0 c with
  |some te,.p (.int _ a),.p (.int _ b)=>match E.owns.find? (·.1 == t)with
   |some (_,c,k)=>if te.isAgg=true∧c < te.size then match te.zero[c]? with
     |some (.nils k')=>if k'=k then some {val:= .sl (ep,i,0) 0 a.toNat,new:=[(0,.own te.size c k (ZnG a.toNat te.zeroP) a.toNat none)],cond:=[decide (0≤a∧a≤b∧b*te.bytes≤ZD∧b≤ZD)]}else none
     |_=>none
    else none
   |none=>some {val:= .sl (ep,i,0) 0 a.toNat,new:=[(0,.arr te.size (ZnG a.toNat te.zeroP) false)],cond:=[decide (0≤a∧a≤b∧b*te.bytes≤ZD∧b≤ZD)]}
  |_,_,_=>none
 | .slice t x lo hi mx=>
  match (match E.td t with |some .str=>some none |some (.sl e)=>(match E.ty e with |some te=>some (some te.size) |none=>none) |_=>none),
    Zb1 E sl lo,Zb1 E sl hi,Zb1 E sl mx with
  |some sz,some a,some b,some c=>ZaV lk sz (ev E sl 0 x) a b c
  |_,_,_,_=>none
 | .fieldAddr t x f=>match E.ty t with
  |some {d:= .struct fs, .. }=>match fs[f]? with
   |some (off,ft)=>match E.ty ft with
    |some tf=>if tf.size=0 then none else match ev E sl 0 x with
     | .p (.ptr cs)=>some {val:= .p (.ptr (cs.drop off))}
     | .ptr id i' j=>some {val:= .ptr id i' (j+off)}
     | .rp (some x) id=>match off with
      |0=>some {val:= .p (.ptr [x])}
      |1=>some {val:= .rp none id}
      |_=>none
     |_=>none
    |none=>none
   |none=>none
  |_=>none
 | .field t x f=>match E.ty t with
  |some {d:= .struct fs, .. }=>match fs[f]? with
   |some (off,ft)=>match E.ty ft,ev E sl 0 x with
    |some tf,.p (.agg cs)=>if tf.size=0 then none else (Zdp tf (cs.drop off)).map fun y=>{val:= .p y}
    |some tf,.agg cs=>if tf.size=0 then none else (ZfK tf (cs.drop off)).map fun y=>{val:=y}
    |_,_=>none
   |none=>none
  |_=>none
 | .indexAddr t x ix=>match ev E sl 0 ix with
  | .p (.int _ n)=>match E.ty t with
   |some {d:= .sl e, .. }=>match E.ty e with
    |some te=>match ev E sl 0 x with
     | .p (.sl sz es)=>if sz=te.size then some {val:= .p (.ptr (es.getD n.toNat default).cells),cond:=[decide (0≤n∧n < es.length)]}else none
     | .sl id off len=>match lk id with
      |some (.arr sz _ _)=>if sz=te.size then some {val:= .ptr id (off+n.toNat) 0,cond:=[decide (0≤n∧n < len)]}else none
      |some (.own sz _ _ _ _ _)=>if sz=te.size then some {val:= .ptr id (off+n.toNat) 0,cond:=[decide (0≤n∧n < len)]}else none
      |_=>none
     |_=>none
    |none=>none
   |some {d:= .arr m e, .. }=>match E.ty e with
    |some te=>match ev E sl 0 x with
     | .p (.ptr cs)=>some {val:= .p (.ptr (cs.drop (n.toNat*te.size))),cond:=[decide (0≤n∧n < m)]}
     | .ptr id i' j=>some {val:= .ptr id i' (j+n.toNat*te.size),cond:=[decide (0≤n∧n < m)]}
     |_=>none
    |none=>none
   |_=>none
  |_=>none
 | .index t x ix=>match ev E sl 0 ix with
  | .p (.int _ n)=>match ev E sl 0 x with
   | .p (.str s)=>match E.td t with
    |some .str=>some {val:= .p (.int .u8 (s.getD n.toNat 0).toNat),cond:=[decide (0≤n∧n < s.length)]}
    |_=>none
   |_=>none
  |_=>none
 | .lookup t m k ok=>match E.ty t with
  |some {d:= .map kt e, .. }=>match E.ty e,ZfI lk (ev E sl 0 m),(ev E sl kt k).toP lk 1 with
   |some te,some (td,kv),some kp=>if (E.keyTD t).same td&&Zam td kp then
     some {val:=match Zbq kv kp with
      |some v=>if ok then .tup [.p v,.p (.bool true)]else .p v
      |none=>if ok then .tup [.p te.zeroP,.p (.bool false)]else .p te.zeroP}else none
   |_,_,_=>none
  |_=>none
 | .mapUpdate t m k v=>Z6 E sl lk t m k v
 | .insert t m k v=>Z6 E sl lk t m k v
 | .range t x=>match E.td t,ev E sl 0 x with
  |some .str,.p (.str s)=>some {val:= .it (ep,i,0),new:=[(0,.sit s 0)]}
  |some (.map _ _),.p (.map _ kv)=>some {val:= .it (ep,i,0),new:=[(0,.mit kv none)]}
  |some (.map _ _),.map id=>match lk id with
   |some (.map _ kv)=>some {val:= .it (ep,i,0),new:=[(0,.mit kv none)],frz:=[id]}
   |_=>none
  |_,_=>none
 | .next it true=>match ev E sl 0 it with
  | .it id=>match lk id with
   |some (.sit s pos)=>if pos < s.length then
     some {val:= .tup [.p (.bool true),.p (.int .i64 pos),.p (.int .i32 (Utf8.decode ⟨s.toArray⟩ pos).1)],wr:=[(id,.sit s (pos+(Utf8.decode ⟨s.toArray⟩ pos).2))]}
    else some {val:= .tup [.p (.bool false)]}
   |_=>none
  |_=>none
 | .entry it=>match ev E sl 0 it with
  | .it id=>match lk id with
   |some (.mit _ (some (k,v)))=>some {val:= .tup [.p k,.p v]}
   |_=>none
  |_=>none
 | .extract x ix=>match ev E sl 0 x with
  | .tup vs=>(vs[ix]?).map fun d=>{val:=d}
  |_=>none
 | .call {callee:= .builtin b,args,argTypes}=>ZO E ep i lk b argTypes.toList (ZY E sl args.toList argTypes.toList)
 |_=>none
end Eng
namespace Eng
open Go
def St.app (st:St) (i:Nat) (dst:Option Nat) (e:Eff):St:=
 (((st.objL e.wr).objL (e.new.map fun x=>((st.ep,i,x.1),x.2))).freezeL e.frz).setO dst e.val
def Zdu (st:St) (e:Eff):Bool:=(e.wr.all fun x=> !st.fz x.1)&&e.frz.all fun f=>e.wr.all fun x=>decide (x.1≠f)
inductive Item where
 |c (c:Code)
 |ops (a:Array Oper) (i:Nat)
 |blk (id:Nat)
 |lp (c:Code)
def Zaw (id:Nat):List Item→Option (List Item)
 | .blk j::k=>if j=id then some k else Zaw id k
 |_::k=>Zaw id k
 | []=>none
def ZX (ops:Array Oper) (st:St):Option (Nat×Bool)→Option Bool
 |none=>some true
 |some (g,w)=>match (ops[g]?).bind (·.dst)with
  |some t=>match st.slots t with
   | .p (.bool b)=>some (b == w)
   | .undef=>some false
   |_=>none
  |none=>some false
def ZE:Operand→Bool
 | .const (.int k n)=>decide (k.min≤n∧n≤k.max)
 | .const (.string s)=>decide (s.data.size≤Zr)
 |_=>true
def Zdq (E:Env) (o:Oper):Bool:=match o.dst with |some d=>decide (d < E.nt) |none=>true
def ZfB (E:Env) (o:Oper):Bool:=Zdq E o&&o.op.operands.all ZE
def runOp (E:Env) (i:Nat) (o:Oper) (st:St):Option (St×List Bool):=
 match Zf E st.ep i o.op o.type st.slots st.objs with
 |some e=>if Zdu st e&&ZfB E o then some (st.app i o.dst e,e.cond)else none
 |none=>none
def run (E:Env):Nat→List Item→St→List Bool→Option (List Item×St×List Bool)
 |0,k,st,ps=>some (k,st,ps)
 |n+1,.c c::k,st,ps=>match c with
  | .skip=>run E n k st ps
  | .seq a b=>run E n (.c a:: .c b::k) st ps
  | .block id b=>run E n (.c b:: .blk id::k) st ps
  | .region _ ops false=>run E n (.ops ops 0::k) st ps
  | .loop c=>run E n (.c c:: .lp c::k) st ps
  | .cond c a b=>if ZE c then match ev E st.slots 0 c with
   | .p (.bool true)=>run E n (.c a::k) st ps
   | .p (.bool false)=>run E n (.c b::k) st ps
   |_=>none
   else none
  | .exit id=>match Zaw id k with
   |some k=>run E n k st ps
   |none=>none
  |_=>none
 |n+1,.blk _::k,st,ps=>run E n k st ps
 |n+1,.lp c::k,st,ps=>run E n (.c c:: .lp c::k) st ps
 |n+1,.ops ops i::k,st,ps=>match ops[i]? with
  |none=>run E n k st.next ps
  |some o=>match ZX ops st o.guard with
   |some true=>match runOp E i o st with
    |some (st',qs)=>run E n (.ops ops (i+1)::k) st' (ps++qs)
    |none=>none
   |some false=>if Zdq E o then run E n (.ops ops (i+1)::k) (st.setO o.dst .undef) ps else none
   |none=>none
 |_+1,[],_,_=>none
def Zaz {α β:Type} [DecidableEq α] (d:β):List (α×β)→α→β
 | [],_=>d
 |(a,b)::r,x=>if x=a then b else Zaz d r x
def Zg {α β:Type} [DecidableEq α]:List (α×β)→α→Option β
 | [],_=>none
 |(a,b)::r,x=>if x=a then some b else Zg r x
end Eng
namespace Eng
open Go
def Zbp (v:Value):Prop:=v.oneCell'=true
def ZbM (S:Nat→Prop) (w w':World):Prop:=∀b,S b→b < w.heap.size→w'.heap[b]? =w.heap[b]?
def Z9:Nat:=281474976710656
inductive RelP (w:World) (S:Nat→Prop):Value→P→Prop
 |bool (b:Bool):RelP w S (.bool b) (.bool b)
 |int (k:IntKind) (n:Int) (h0:k.min≤n) (h1:n≤k.max):RelP w S (.int k n) (.int k n)
 |str (s:List UInt8) (h:s.length≤Zr):RelP w S (.string ⟨s.toArray⟩) (.str s)
 |agg (vs:Array Value) (cs:List P) (hl:vs.size=cs.length) (h1:∀(i:Nat) v,vs[i]? =some v→Zbp v)
   (h:∀(i:Nat) v c,vs[i]? =some v→cs[i]? =some c→RelP w S v c):RelP w S (.agg vs) (.agg cs)
 |sl (a:Option Addr) (len cap sz:Nat) (es:List P) (evs:Nat→Value) (hl:es.length=len) (hm:len≤Z9) (hc:len≤cap)
   (hsz:∀i,i < len→(evs i).cells.size=sz)
   (hcell:∀i,i < len→∃b o,a=some ⟨b,o,none⟩∧S b∧∀j v,(evs i).cells[j]? =some v→w.cell? ⟨b,o+i*sz+j,none⟩=some v)
   (h:∀(i:Nat) e,es[i]? =some e→RelP w S (evs i) e):RelP w S (.slice a len cap) (.sl sz es)
 |nilp:RelP w S (.pointer none) .nilp
 |ptr (b o:Nat) (cs:List P) (vs:Nat→Value) (hS:S b) (hcell:∀(j:Nat) c,cs[j]? =some c→w.cell? ⟨b,o+j,none⟩=some (vs j))
   (h1:∀(j:Nat) c,cs[j]? =some c→Zbp (vs j)) (h:∀(j:Nat) c,cs[j]? =some c→RelP w S (vs j) c):RelP w S (.pointer (some ⟨b,o,none⟩)) (.ptr cs)
 |nilmap (td:TD):RelP w S (.map none) (.map td [])
 |map (td:TD) (r:Nat) (es:Array MapEntry) (clock:Nat) (kv kv':List (P×P)) (hS:S r) (hb:w.heap[r]? =some (.map es clock)) (hp:kv'.Perm kv)
   (hl:es.size=kv'.length) (hk:∀(i:Nat) e q,es[i]? =some e→kv'[i]? =some q→RelP w S e.key q.1)
   (hv:∀(i:Nat) e q,es[i]? =some e→kv'[i]? =some q→RelP w S e.val q.2)
   (hd:kv'.Pairwise fun a b=>P.key a.1 b.1=false) (hkey:∀q∈kv',Zam td q.1=true)
   (hborn:∀(i:Nat) e,es[i]? =some e→e.born < clock) (hbd:∀(i j:Nat) e e',es[i]? =some e→es[j]? =some e'→e.born=e'.born→i=j):
   RelP w S (.map (some r)) (.map td kv)
 |fn (f:Nat) (fs cs:Array Value) (a b:List P) (hf:fs.size=a.length) (hc:cs.size=b.length)
   (h:∀(i:Nat) v x,fs[i]? =some v→a[i]? =some x→RelP w S v x) (h':∀(i:Nat) v x,cs[i]? =some v→b[i]? =some x→RelP w S v x):
   RelP w S (.func (.func f) fs cs) (.fn f a b)
 |nilfn:RelP w S .nilFunc .nilfn
theorem ZS {w w':World} {b o:Nat} (h:w'.heap[b]? =w.heap[b]?):w'.cell? ⟨b,o,none⟩=w.cell? ⟨b,o,none⟩:=by simp[World.cell?,h]
theorem ZhN {w:World} {b o:Nat} {v:Value} (h:w.cell? ⟨b,o,none⟩=some v):b < w.heap.size:=World.block_lt_of_cell? w ⟨b,o,none⟩ h
theorem Zd8 {w:World} {b:Nat} {x:Go.Obj} (h:w.heap[b]? =some x):b < w.heap.size:=(Znq.1 h).1
theorem ZaQ {w w':World} {b o:Nat} (h:w'.heap[b]? =w.heap[b]?):w'.frozen? ⟨b,o,none⟩=w.frozen? ⟨b,o,none⟩:=by simp[World.frozen?,h]
theorem RelP.mono {w w':World} {S S':Nat→Prop} (hk:ZbM S w w') (hs:∀b,S b→S' b) {v:Value} {x:P} (h:RelP w S v x):RelP w' S' v x:=by
 induction h with
 |bool b=>exact .bool b
 |int k n h0 h1=>exact .int k n h0 h1
 |str s h=>exact .str s h
 |agg vs cs hl h1 _ ih=>exact .agg vs cs hl h1 ih
 |sl a len cap sz es evs hl hm hc hsz hcell _ ih=>
  exact .sl a len cap sz es evs hl hm hc hsz (fun i hi=>by obtain⟨b,o,ha,hS,hv⟩:=hcell i hi;exact⟨b,o,ha,hs b hS,fun j v hj=>by rw[ZS (hk b hS (ZhN (hv j v hj)))];simp_all⟩) ih
 |nilp=>exact .nilp
 |ptr b o cs vs hS hcell h1 _ ih=>exact .ptr b o cs vs (hs b hS) (fun j c hj=>by rw[ZS (hk b hS (ZhN (hcell j c hj)))];simp_all) h1 ih
 |nilmap td=>exact .nilmap td
 |map td r es clock kv kv' hS hb hp hl _ _ hd hkey hborn hbd ihk ihv=>exact .map td r es clock kv kv' (hs r hS) (by rw[hk r hS (Zd8 hb)];omega) hp hl ihk ihv hd hkey hborn hbd
 |fn f fs cs a b hf hc _ _ ih ih'=>exact .fn f fs cs a b hf hc ih ih'
 |nilfn=>exact .nilfn
theorem RelP.size {w:World} {S:Nat→Prop} {v:Value} {x:P} (h:RelP w S v x):v.cells.size=x.cells.length:=by cases h<;>simp_all [Value.cells,P.cells]
theorem RelP.cell {w:World} {S:Nat→Prop} {v:Value} {x:P} (h:RelP w S v x) {j:Nat} {u:Value} {c:P} (hu:v.cells[j]? =some u) (hc:x.cells[j]? =some c):
  RelP w S u c∧Zbp u:=by
 cases h with
 |agg vs cs hl h1 h=>exact⟨h j u c hu hc,h1 j u hu⟩
 |_=>
  simp only[Value.cells,P.cells]at hu hc;cases j with
  |succ j=>simp at hu
  |zero=>
   simp only[Zny,ZnO]at hu hc;simp only[List.getElem?_toArray,Zny,ZnO]at hu;subst hu hc;refine⟨?_,by simp[Zbp,Value.oneCell']⟩;constructor<;>assumption
structure Lay where
 blk:Option Nat
 base:Nat
 sz:Nat
 len:Nat
 cap:Nat
inductive RelD (w:World) (S:Nat→Prop) (ρ:Id→Option Lay):Value→D→Prop
 |p (v:Value) (x:P) (h:RelP w S v x):RelD w S ρ v (.p x)
 |dead (v:Value):RelD w S ρ v .dead
 |undef:RelD w S ρ Go.undef .undef
 |anyb (b:Bool):RelD w S ρ (.bool b) .anyb
 |nils (sz:Nat):RelD w S ρ (.slice none 0 0) (.nils sz)
 |clip (a:Option Addr) (n sz:Nat) (es:List P) (h:RelP w S (.slice a n n) (.sl sz es)):RelD w S ρ (.slice a n n) (.clip sz es)
 |agg (vs:Array Value) (cs:List D) (hl:vs.size=cs.length) (h1:∀(i:Nat) v,vs[i]? =some v→Zbp v)
   (h:∀(i:Nat) v c,vs[i]? =some v→cs[i]? =some c→RelD w S ρ v c):RelD w S ρ (.agg vs) (.agg cs)
 |tup (vs:Array Value) (cs:List D) (hl:vs.size=cs.length)
   (h:∀(i:Nat) v c,vs[i]? =some v→cs[i]? =some c→RelD w S ρ v c):RelD w S ρ (.tuple vs) (.tup cs)
 |sl (id:Id) (off len cap:Nat) (a:Option Addr) (L:Lay) (hL:ρ id=some L) (hl:off+len≤L.len) (hm:len≤Z9∧cap≤Zr) (hc:len≤cap)
   (ha:cap=0∨∃b,L.blk=some b∧a=some ⟨b,L.base+off*L.sz,none⟩∧off+cap≤L.cap):RelD w S ρ (.slice a len cap) (.sl id off len)
 |ptr (id:Id) (i j:Nat) (L:Lay) (b:Nat) (hL:ρ id=some L) (hi:i < L.len) (hb:L.blk=some b):
   RelD w S ρ (.pointer (some ⟨b,L.base+i*L.sz+j,none⟩)) (.ptr id i j)
 |map (id:Id) (L:Lay) (b:Nat) (hL:ρ id=some L) (hb:L.blk=some b):RelD w S ρ (.map (some b)) (.map id)
 |it (id:Id) (L:Lay) (b:Nat) (hL:ρ id=some L) (hb:L.blk=some b):RelD w S ρ (.pointer (some ⟨b,0,none⟩)) (.it id)
 |fn (f:Nat) (fs cs:Array Value) (a b:List D) (hf:fs.size=a.length) (hc:cs.size=b.length)
   (h:∀(i:Nat) v x,fs[i]? =some v→a[i]? =some x→RelD w S ρ v x) (h':∀(i:Nat) v x,cs[i]? =some v→b[i]? =some x→RelD w S ρ v x):
   RelD w S ρ (.func (.func f) fs cs) (.fn f a b)
 |rp (x:Option P) (id:Id) (b o r:Nat) (u:Value) (L:Lay) (hS:S b) (hx:∀y,x=some y→w.cell? ⟨b,o,none⟩=some u∧Zbp u∧RelP w S u y) (hm:w.cell? ⟨b,o+x.toList.length,none⟩=some (.map (some r)))
   (hL:ρ id=some L) (hb:L.blk=some r):RelD w S ρ (.pointer (some ⟨b,o,none⟩)) (.rp x id)
 |val (v:Value):RelD w S ρ v (.val v)
theorem RelD.mono {w w':World} {S S':Nat→Prop} {ρ ρ':Id→Option Lay} (hk:ZbM S w w') (hs:∀b,S b→S' b) (hρ:∀id L,ρ id=some L→ρ' id=some L)
  {v:Value} {d:D} (h:RelD w S ρ v d):RelD w' S' ρ' v d:=by
 induction h with
 |p v x h=>exact .p v x (h.mono hk hs)
 |dead v=>exact .dead v
 |undef=>exact .undef
 |anyb b=>exact .anyb b
 |nils sz=>exact .nils sz
 |clip a n sz es h=>exact .clip a n sz es (h.mono hk hs)
 |agg vs cs hl h1 _ ih=>exact .agg vs cs hl h1 ih
 |tup vs cs hl _ ih=>exact .tup vs cs hl ih
 |sl id off len cap a L hL hl hm hc ha=>exact .sl id off len cap a L (hρ _ _ hL) hl hm hc ha
 |ptr id i j L b hL hi hb=>exact .ptr id i j L b (hρ _ _ hL) hi hb
 |map id L b hL hb=>exact .map id L b (hρ _ _ hL) hb
 |it id L b hL hb=>exact .it id L b (hρ _ _ hL) hb
 |fn f fs cs a b hf hc _ _ ih ih'=>exact .fn f fs cs a b hf hc ih ih'
 |rp x id b o r u L hS hx hm hL hb=>
  have e:w'.heap[b]? =w.heap[b]? :=hk b hS (ZhN hm);exact .rp x id b o r u L (hs b hS) (fun y hy=>by rw[ZS e];exact⟨(hx y hy).1,(hx y hy).2.1,(hx y hy).2.2.mono hk hs⟩) (by grind[ZS]) (hρ _ _ hL) hb
 |val v=>exact .val v
def ZiI (w:World) (S:Nat→Prop) (r:Nat) (td:TD) (kv:List (P×P)):Prop:=
 ∃(es:Array MapEntry) (clock:Nat) (kv':List (P×P)),w.heap[r]? =some (.map es clock)∧kv'.Perm kv∧es.size=kv'.length∧
  (∀(i:Nat) e q,es[i]? =some e→kv'[i]? =some q→RelP w S e.key q.1∧RelP w S e.val q.2)∧
  (kv'.Pairwise fun a b=>P.key a.1 b.1=false)∧(∀q∈kv',Zam td q.1=true)∧
  (∀(i:Nat) e,es[i]? =some e→e.born < clock)∧(∀(i j:Nat) e e',es[i]? =some e→es[j]? =some e'→e.born=e'.born→i=j)
def ZiH (w:World) (S:Nat→Prop) (r:Nat) (rest:List (P×P)) (cur:Option (P×P)):Prop:=
 (∃since seen stepped,w.heap[r]? =some (.mapIter none since seen stepped)∧rest=[]∧cur=none)∨
 ∃(m:Nat) (es:Array MapEntry) (clock:Nat) (seen:Array Nat) (kv':List (P×P)),
  S m∧w.heap[m]? =some (.map es clock)∧w.heap[r]? =some (.mapIter (some m) clock seen clock)∧es.size=kv'.length∧
  (∀(i:Nat) e q,es[i]? =some e→kv'[i]? =some q→RelP w S e.key q.1∧RelP w S e.val q.2)∧
  (∀(i:Nat) e,es[i]? =some e→e.born < clock)∧(∀(i j:Nat) e e',es[i]? =some e→es[j]? =some e'→e.born=e'.born→i=j)∧
  (((es.toList.zip kv').filter fun x=> !seen.contains x.1.born).map (·.2)).Perm rest∧
  (match cur with
   |none=>seen= #[]
   |some q=>∃i:Nat,∃e,es[i]? =some e∧kv'[i]? =some q∧seen.back?=some e.born)
def Zp (w:World) (S:Nat→Prop) (ρ:Id→Option Lay) (L:Lay):Obj→Prop
 | .box cs=>∃b,L.blk=some b∧L.sz=cs.length∧L.len=1∧
   ∀(j:Nat) d,cs[j]? =some d→∃v,w.cell? ⟨b,L.base+j,none⟩=some v∧w.frozen? ⟨b,L.base+j,none⟩=false∧Zbp v∧RelD w S ρ v d
 | .arr sz es _=>L.sz=sz∧es.length=L.len∧L.len≤L.cap∧L.len≤Z9∧(L.blk=none→L.len=0)∧
   (∀b,L.blk=some b→∀j,j < L.cap*sz→(∃v,w.cell? ⟨b,L.base+j,none⟩=some v)∧w.frozen? ⟨b,L.base+j,none⟩=false)∧
   ∃evs:Nat→Value,(∀i,i < L.len→(evs i).cells.size=sz)∧(∀b,L.blk=some b→∀(i j:Nat) v,i < L.len→(evs i).cells[j]? =some v→w.cell? ⟨b,L.base+i*sz+j,none⟩=some v)∧
    ∀(i:Nat) e,es[i]? =some e→RelP w S (evs i) e
 | .map td kv=>∃b,L.blk=some b∧ZiI w S b td kv
 | .sit s pos=>∃b,L.blk=some b∧w.heap[b]? =some (.stringIter ⟨s.toArray⟩ pos)∧s.length≤Zr
 | .mit rest cur=>∃b,L.blk=some b∧ZiH w S b rest cur
 | .gone=>True
 | .own sz c k es lo _=>L.sz=sz∧es.length=L.len∧L.len≤L.cap∧L.len≤Z9∧c < sz∧(L.blk=none→L.len=0)∧
   (∀b,L.blk=some b→∀j,j < L.cap*sz→(∃v,w.cell? ⟨b,L.base+j,none⟩=some v)∧w.frozen? ⟨b,L.base+j,none⟩=false)∧
   ∀(i:Nat) e,es[i]? =some e→∃cs l,e= .agg cs∧cs.length=sz∧cs[c]? =some (.sl k l)∧
    ∀b,L.blk=some b→∀(j:Nat) x v,cs[j]? =some x→w.cell? ⟨b,L.base+i*sz+j,none⟩=some v→Zbp v∧(j≠c∨lo≤i→RelP w S v x)
theorem ZiI.mono {w w':World} {S S':Nat→Prop} {r:Nat} {td:TD} {kv:List (P×P)} (hk:ZbM S w w') (hs:∀b,S b→S' b) (hb:w'.heap[r]? =w.heap[r]?)
  (h:ZiI w S r td kv):ZiI w' S' r td kv:=by
 obtain⟨es,clock,kv',h1,h2,h3,h4,h5⟩:=h;exact⟨es,clock,kv',by grind,h2,h3,fun i e q he hq=>⟨(h4 i e q he hq).1.mono hk hs,(h4 i e q he hq).2.mono hk hs⟩,h5⟩
theorem ZiH.mono {w w':World} {S S':Nat→Prop} {r:Nat} {rest:List (P×P)} {cur:Option (P×P)} (hk:ZbM S w w') (hs:∀b,S b→S' b)
  (hb:w'.heap[r]? =w.heap[r]?) (h:ZiH w S r rest cur):ZiH w' S' r rest cur:=by
 rcases h with ⟨a,b,c,h1,h2⟩ |⟨m,es,clock,seen,kv',hm,h1,h2,h3,h4,h5⟩
 ·exact .inl ⟨a,b,c,by simp_all,h2⟩
 ·exact .inr ⟨m,es,clock,seen,kv',hs m hm,by rw[hk m hm (Zd8 h1)];omega,by grind,h3,
   fun i e q he hq=>⟨(h4 i e q he hq).1.mono hk hs,(h4 i e q he hq).2.mono hk hs⟩,h5⟩
theorem Zp.mono {w w':World} {S S':Nat→Prop} {ρ ρ':Id→Option Lay} {L:Lay} {o:Obj} (hk:ZbM S w w') (hs:∀b,S b→S' b)
  (hρ:∀id L,ρ id=some L→ρ' id=some L) (hb:∀b,L.blk=some b→w'.heap[b]? =w.heap[b]?) (h:Zp w S ρ L o):Zp w' S' ρ' L o:=by
 cases o with
 |box cs=>
  obtain⟨b,h1,h2,h3,h4⟩:=h;refine⟨b,h1,h2,h3,fun j d hd=> ?_⟩;obtain⟨v,hv,hf,ho,hr⟩:=h4 j d hd;exact⟨v,by grind[ZS],by grind[ZaQ],ho,hr.mono hk hs hρ⟩
 |arr sz es fix=>
  obtain⟨h1,h2,h3,h4,h5,h6,evs,h7,h8,h9⟩:=h;refine⟨h1,h2,h3,h4,h5,fun b hB j hj=> ?_,evs,h7,fun b hB i j v hi hv=> ?_,fun i e he=>(h9 i e he).mono hk hs⟩
  all_goals grind[ZS,ZaQ]
 |map td kv=>obtain⟨b,h1,h2⟩:=h;exact⟨b,h1,h2.mono hk hs (hb b h1)⟩
 |sit s pos=>obtain⟨b,h1,h2,h3⟩:=h;exact⟨b,h1,by simp_all,h3⟩
 |mit rest cur=>obtain⟨b,h1,h2⟩:=h;exact⟨b,h1,h2.mono hk hs (hb b h1)⟩
 |gone=>trivial
 |own sz c k es lo out=>
  obtain⟨h1,h2,h3,h4,h5,h6,h7,h8⟩:=h;refine⟨h1,h2,h3,h4,h5,h6,fun b hB j hj=> ?_,fun i e he=> ?_⟩
  ·grind[ZS,ZaQ]
  ·obtain⟨cs,l,q1,q2,q3,q4⟩:=h8 i e he;refine⟨cs,l,q1,q2,q3,fun b hB j x v hx hv=> ?_⟩;rw[ZS (hb b hB)]at hv;exact⟨(q4 b hB j x v hx hv).1,fun hj=>((q4 b hB j x v hx hv).2 hj).mono hk hs⟩
end Eng
namespace Eng
open Go
theorem Zh {α β:Type} {f:α→Option β}:∀{xs:List α} {ys:List β},Zj f xs=some ys→
  ys.length=xs.length∧∀(i:Nat) x y,xs[i]? =some x→ys[i]? =some y→f x=some y
 | [],ys,h=>by grind[Zj]
 |x::xs,ys,h=>by
  simp only[Zj]at h;split at h;rotate_left;simp at h;rename_i y ys' hy hys;obtain⟨hl,hi⟩:=Zh hys;grind
theorem Zx {cs:List D} {ps:List P} (h:Zj D.pure? cs=some ps):cs=ps.map .p:=by
 obtain⟨hl,hi⟩:=Zh h;apply List.ext_getElem?;intro i
 by_cases hlt:i < cs.length
 ·have h1:=hi i cs[i] ps[i] (by simp) (by simp);cases hc:cs[i]<;>simp[hc,D.pure?]at h1;simp_all
 simp_all
@[simp] theorem ZjK (lk:Id→Option Obj) (n:Nat) (x:P):D.toP lk n (.p x)=some x:=by cases n<;>rfl
@[simp] theorem toP_nils (lk:Id→Option Obj) (n sz:Nat):D.toP lk n (.nils sz)=some (.sl sz []):=by cases n<;>rfl
@[simp] theorem toP_clip (lk:Id→Option Obj) (n sz:Nat) (es:List P):D.toP lk n (.clip sz es)=some (.sl sz es):=by cases n<;>rfl
theorem Zbm (lk:Id→Option Obj) (n:Nat) (id:Id) (off len:Nat):D.toP lk n (.sl id off len)=match lk id with
  |some (.arr sz es _)=>some (.sl sz ((es.drop off).take len))
  |_=>none:=by cases n<;>rfl
theorem Zbu (lk:Id→Option Obj) (n:Nat) (id:Id):D.toP lk n (.map id)=match lk id with
  |some (.map td kv)=>some (.map td kv)
  |_=>none:=by cases n<;>rfl
@[simp] theorem ids_sl (lk:Id→Option Obj) (n:Nat) (id:Id) (off len:Nat):D.ids lk n (.sl id off len)=[id]:=by cases n<;>rfl
@[simp] theorem ZmO (lk:Id→Option Obj) (n:Nat) (id:Id):D.ids lk n (.map id)=[id]:=by cases n<;>rfl
def Objs (w:World) (S:Nat→Prop) (ρ:Id→Option Lay) (lk:Id→Option Obj):Prop:=
 ∀id o,lk id=some o→o≠ .gone→∃L,ρ id=some L∧Zp w S ρ L o
theorem Zaf {w:World} {S:Nat→Prop} {ρ:Id→Option Lay} {lk:Id→Option Obj} (ho:Objs w S ρ lk) {S':Nat→Prop} (hS:∀b,S b→S' b):
  ∀(n:Nat) (d:D) (v:Value) (x:P),RelD w S ρ v d→d.toP lk n=some x→
   (∀id,id∈d.ids lk n→∀L b,ρ id=some L→L.blk=some b→S' b)→RelP w S' v x:=by
 have kp:ZbM S w w:=fun _ _ _=>rfl
 have base:∀(n:Nat) (d:D) (v:Value) (x:P),(∀cs,d≠ .agg cs)→(∀id i j,d≠ .ptr id i j)→(∀f a b,d≠ .fn f a b)→RelD w S ρ v d→d.toP lk n=some x→
   (∀id,id∈d.ids lk n→∀L b,ρ id=some L→L.blk=some b→S' b)→RelP w S' v x:=by
  intro n d v x h1 h2 h3 hr ht hi;cases hr with
  |p v y h=>simp at ht;subst ht;exact h.mono kp hS
  |dead v=>grind[D.toP]
  |val v=>grind[D.toP]
  |undef=>grind[D.toP]
  |anyb b=>grind[D.toP]
  |nils sz=>simp at ht;subst ht;exact .sl none 0 0 sz [] (fun _=>default) rfl (by simp) (by simp) (by simp) (by simp) (by simp)
  |clip a n sz es h=>simp at ht;subst ht;exact h.mono kp hS
  |agg vs cs=>simp_all
  |tup vs cs=>grind[D.toP]
  |sl id off len cap a L hL hl hm' hc ha=>
   rw[Zbm]at ht;split at ht;rotate_left;simp at ht;rename_i sz es fix hlk;cases ht;obtain⟨L',hL',hsz,hel,hlc,hlm,hbn,hcells,evs,hev,hcell,hrel⟩:=ho id _ hlk (by simp);rw[hL]at hL';obtain rfl:=ZnN hL';refine .sl a len cap sz _ (fun i=>evs (off+i)) (by grind) (by omega) hc (fun i hi'=>hev _ (by omega)) (fun i hi'=> ?_) (fun i e he=> ?_)
   ·rcases ha with h0 |⟨b,hb,rfl,hcap⟩
    ·omega
    ·refine⟨b,_,rfl,hi id (by simp) L b hL hb,fun j u hu=> ?_⟩;grind
   ·rw[ZnC]at he;split at he;rotate_left;simp at he;rw[Znz]at he;exact(hrel _ e he).mono kp hS
  |ptr id i j=>simp_all
  |map id L b hL hb=>
   rw[Zbu]at ht;split at ht;rotate_left;simp at ht;rename_i td kv hlk;cases ht;obtain⟨L',hL',b',hb',es,clock,kv',g1,g2,g3,g4,g5,g6,g7,g8⟩:=ho id _ hlk (by simp);rw[hL]at hL';obtain rfl:=ZnN hL';rw[hb]at hb';obtain rfl:=ZnN hb';exact .map td b es clock kv kv' (hi id (by simp) L b hL hb) g1 g2 g3 (fun i e q he hq=>(g4 i e q he hq).1.mono kp hS) (fun i e q he hq=>(g4 i e q he hq).2.mono kp hS) g5 g6 g7 g8
  |it id=>grind[D.toP]
  |rp=>grind[D.toP]
  |fn f fs cs a b=>simp_all
 intro n
 induction n with
 |zero=>
  intro d v x hr ht hi;refine base 0 d v x ?_ ?_ ?_ hr ht hi
  all_goals (intros;intro hc;simp_all[D.toP])
 |succ n ih=>
  intro d v x hr ht hi;cases hr with
  |agg vs cs hl h1 h=>
   simp only[D.toP,ZnM]at ht;obtain⟨ps,hps,rfl⟩:=ht;obtain⟨hpl,hpi⟩:=Zh hps;refine .agg vs ps (by omega) h1 fun i v c hv hc=> ?_
   have hlt:i < cs.length:=by grind
   have hci:cs[i]? =some cs[i]:=by grind
   grind[D.ids]
  |ptr id i j L b hL hil hb=>
   simp only[D.toP]at ht;split at ht
   ·rename_i cs hlk;split at ht;rotate_left;simp at ht;rename_i h0;subst h0;simp only[ZnM]at ht;obtain⟨ps,hps,rfl⟩:=ht;obtain⟨hpl,hpi⟩:=Zh hps;obtain⟨L',hL',b',hb',hsz,hln,hcs⟩:=ho id _ hlk (by simp);rw[hL]at hL';obtain rfl:=ZnN hL';rw[hb]at hb';obtain rfl:=ZnN hb';have key:∀(k:Nat) c,ps[k]? =some c→∃u,w.cell? ⟨b,L.base+(j+k),none⟩=some u∧Zbp u∧RelP w S' u c:=by
     intro k c hc;have hlt:k < (cs.drop j).length:=by have:=(ZnA.1 hc).1;omega
     have hlt':j+k < cs.length:=by simp at hlt;omega
     have hd:(cs.drop j)[k]? =some cs[j+k]:=by simp[Znz,hlt']
     obtain⟨u,hu,_,h1,hr⟩:=hcs (j+k) cs[j+k] (by simp[hlt']);refine⟨u,hu,h1,ih cs[j+k] u c hr (hpi k _ c hd hc) fun id' hid' L' b'=>hi id' ?_ L' b'⟩;simp only[D.ids,hlk,ZnD,List.mem_flatMap];exact .inr ⟨cs[j+k],List.mem_of_getElem? hd,hid'⟩
    refine .ptr b _ ps (fun k=>((w.cell? ⟨b,L.base+(j+k),none⟩).getD default)) (hi id (by simp[D.ids]) L b hL hb) (fun k c hc=> ?_) (fun k c hc=> ?_) (fun k c hc=> ?_)
    all_goals grind
   ·rename_i sz es fix hlk;cases ht;obtain⟨L',hL',hsz,hel,hlc,hlm,hbn,hcells,evs,hev,hcell,hrel⟩:=ho id _ hlk (by simp);rw[hL]at hL';obtain rfl:=ZnN hL';have hie:i < es.length:=by omega
    have hge:es.getD i default=es[i]:=by simp[hie]
    rw[hge];have hri:=hrel i es[i] (by simp[hie]);have key:∀(k:Nat) c,(es[i].cells.drop j)[k]? =some c→∃u,w.cell? ⟨b,L.base+i*L.sz+j+k,none⟩=some u∧Zbp u∧RelP w S' u c:=by
     intro k c hc;rw[Znz]at hc;have hlt:=(ZnA.1 hc).1;have hsz':=hri.size;have hu:(evs i).cells[j+k]? =some (evs i).cells[j+k]:=by simp
     have:=hri.cell hu hc;refine⟨_, ?_,this.2,this.1.mono kp hS⟩;have:=hcell b hb i (j+k) _ hil hu;rw[hsz,←this];congr 2;omega
    refine .ptr b _ _ (fun k=>((w.cell? ⟨b,L.base+i*L.sz+j+k,none⟩).getD default)) (hi id (by simp[D.ids]) L b hL hb) (fun k c hc=> ?_) (fun k c hc=> ?_) (fun k c hc=> ?_)
    ·obtain⟨u,hu,_⟩:=key k c hc;rw[hu];simp
    ·obtain⟨u,hu,h1,_⟩:=key k c hc;simp only[hu,ZnL];exact h1
    ·obtain⟨u,hu,_,h1⟩:=key k c hc;simp only[hu,ZnL];exact h1
   simp_all
  |fn f fs cs a b hf hc h h'=>
   simp only[D.toP]at ht;split at ht;rotate_left;simp at ht;rename_i pa pb hpa hpb;cases ht;obtain⟨ha1,ha2⟩:=Zh hpa;obtain⟨hb1,hb2⟩:=Zh hpb;refine .fn f fs cs pa pb (by omega) (by omega) (fun i v x hv hx=> ?_) (fun i v x hv hx=> ?_)
   ·have hlt:i < a.length:=by have:=(Znq.1 hv).1;omega
    have hci:a[i]? =some a[i]:=by simp[hlt]
    exact ih a[i] v x (h i v _ hv hci) (ha2 i _ x hci hx) fun id hid L b=>hi id (by
     simp only[D.ids,List.mem_append,List.mem_flatMap];exact .inl ⟨a[i],List.getElem_mem _,hid⟩) L b
   ·have hlt:i < b.length:=by have:=(Znq.1 hv).1;omega
    have hci:b[i]? =some b[i]:=by simp[hlt]
    exact ih b[i] v x (h' i v _ hv hci) (hb2 i _ x hci hx) fun id hid L b=>hi id (by
     simp only[D.ids,List.mem_append,List.mem_flatMap];exact .inr ⟨_,List.getElem_mem _,hid⟩) L b
  |_=>exact base (n+1) _ _ _ (by simp) (by simp) (by simp) (by constructor<;>assumption) ht hi
def ZQ (w w':World):Prop:=w'.os=w.os∧w'.output=w.output
theorem ZQ.refl (w:World):ZQ w w:=⟨rfl,rfl⟩
theorem ZQ.trans {w w' w'':World} (h:ZQ w w') (h':ZQ w' w''):ZQ w w'':=⟨h'.1.trans h.1,h'.2.trans h.2⟩
theorem ZQ.setCells (b:Nat) (vs:List Value):∀(o:Nat) (w:World),ZQ w (w.setCells b o vs):=by
 induction vs with
 |nil=>exact fun o w=> .refl w
 |cons v r ih=>exact fun o w=>ZQ.trans (w':=w.setCell ⟨b,o,none⟩ v) ⟨rfl,rfl⟩ (ih _ _)
def ZeC (w:World) (S:Nat→Prop) (g:Nat) (cs:List P):Prop:=
 RelP w S (.pointer (some ⟨g,0,none⟩)) (.ptr cs)∧∃arr t fr,w.heap[g]? =some (.cells arr t fr)∧arr.size=cs.length
theorem ZeC.mono {w w':World} {S S':Nat→Prop} {g:Nat} {cs:List P} (h:ZeC w S g cs) (hk:ZbM S w w') (hs:∀b,S b→S' b):ZeC w' S' g cs:=by
 obtain⟨h1,arr,t,fr,h2,h3⟩:=h;refine⟨h1.mono hk hs,arr,t,fr, ?_,h3⟩;have hS:S g:=by cases h1;omega
 rw[hk g hS (Zd8 h2)];omega
structure Ctx where
 E:Env
 W:World
 Lt:Nat→Prop
 S0:Nat→Prop
 lays:Nat→Option Lay:=fun _=>none
abbrev Ctx.H (C:Ctx):Array Go.Obj:=C.W.heap
def Kid (objs:Id→Option Obj) (fz:Id→Bool) (id:Id) (i sz c k:Nat) (l:List P):Prop:=
 ∃es lo out cs,objs id=some (.own sz c k es lo out)∧fz id=false∧es[i]? =some (.agg cs)∧cs[c]? =some (.sl k l)∧i < lo∧out≠some i
structure Fam (H:Nat) (Lt S:Nat→Prop) (ρ:Id→Option Lay) (objs:Id→Option Obj) (fz:Id→Bool) (w:World) (κ:Id→Nat→Lay):Prop where
 kid:∀id i sz c k l L,Kid objs fz id i sz c k l→ρ id=some L→∃b v,L.blk=some b∧w.cell? ⟨b,L.base+i*sz+c,none⟩=some v∧
  RelD w S (fun _=>some (κ id i)) v (.sl (0,0,0) 0 l.length)∧Zp w S (fun _=>none) (κ id i) (.arr k l false)
 own:∀id i sz c k l b,Kid objs fz id i sz c k l→(κ id i).blk=some b→b < w.heap.size∧(H≤b∨Lt b)∧¬S b∧
  ∀id' o L,objs id'=some o→o≠ .gone→ρ id'=some L→L.blk≠some b
 inj:∀id i sz c k l id' i' sz' c' k' l' b,Kid objs fz id i sz c k l→Kid objs fz id' i' sz' c' k' l'→(κ id i).blk=some b→(κ id' i').blk=some b→id=id'∧i=i'
theorem Fam.none {H:Nat} {Lt S:Nat→Prop} {ρ:Id→Option Lay} {objs:Id→Option Obj} {fz:Id→Bool} {w:World} (h:∀id o,objs id=some o→o.isOwn=false):
  ∃κ,Fam H Lt S ρ objs fz w κ:=by
 have no:∀{id i sz c k l},¬Kid objs fz id i sz c k l:=by rintro id i sz c k l ⟨es,lo,out,cs,ho,_⟩;grind[Obj.isOwn]
 exact⟨fun _ _=>⟨.none,0,0,0,0⟩,fun _ _ _ _ _ _ _ hk=>(no hk).elim,fun _ _ _ _ _ _ _ hk=>(no hk).elim,fun _ _ _ _ _ _ _ _ _ _ _ _ _ hk=>(no hk).elim⟩
structure Rep (C:Ctx) (X:Nat→Prop) (ρ:Id→Option Lay) (S:Nat→Prop) (st:St) (tm:Array Value) (w:World):Prop where
 nt:tm.size=C.E.nt
 grow:C.H.size≤w.heap.size
 frame:∀b,b < C.H.size→¬C.Lt b→w.heap[b]? =C.H[b]?
 s0:∀b,C.S0 b→S b
 sIn:∀b,S b→b < w.heap.size
 slots:∀k,RelD w S ρ (tm.getD k undef) (st.slots k)
 objs:Objs w S ρ st.objs
 own:∀id o L b,st.objs id=some o→o≠ .gone→ρ id=some L→L.blk=some b→
  b < w.heap.size∧(C.H.size≤b∨C.Lt b)∧(st.fz id=true→S b)∧(st.fz id=false→¬S b)
 inj:∀id o L id' o' L' b,st.objs id=some o→o≠ .gone→ρ id=some L→L.blk=some b→
  st.objs id'=some o'→o'≠ .gone→ρ id'=some L'→L'.blk=some b→id=id'
 known:∀id,st.objs id≠none→ρ id≠none
 young:∀id,ρ id≠none→id.1 < st.ep∨(id.1=st.ep∧X id.2.1)
 fzk:∀id,st.fz id=true→ρ id≠none
 glob:∀g cs,(g,cs)∈C.E.globs→ZeC w S g cs
 sOut:∀b,S b→C.S0 b∨C.H.size≤b∨C.Lt b
 ep1:1≤st.ep
 quiet:ZQ C.W w
 lay:∀k L,C.lays k=some L→ρ (0,k,0)≠none→ρ (0,k,0)=some L
 fam:∃κ,Fam C.H.size C.Lt S ρ st.objs st.fz w κ
theorem Zgu (l:List (Id×Obj)):∀(st:St) (id:Id) (o:Obj),(st.objL l).objs id=some o→(id,o)∈l∨((∀o',(id,o')∉l)∧st.objs id=some o):=by
 induction l with
 |nil=>intro st id o h;exact .inr ⟨by simp,h⟩
 |cons x r ih=>
  obtain⟨i,u⟩:=x;intro st id o h;rcases ih (st.obj i u) id o h with h |⟨h,h'⟩
  ·simp_all
  ·simp only[St.obj,upd]at h';grind
@[simp] theorem ZiW (l:List (Id×Obj)):∀st:St,(st.objL l).slots=st.slots:=by
 induction l with
 |nil=>intro st;rfl
 |cons x r ih=>obtain⟨i,u⟩:=x;intro st;exact ih _
@[simp] theorem objL_fz (l:List (Id×Obj)):∀st:St,(st.objL l).fz=st.fz:=by
 induction l with
 |nil=>intro st;rfl
 |cons x r ih=>obtain⟨i,u⟩:=x;intro st;exact ih _
@[simp] theorem ZmC (l:List (Id×Obj)):∀st:St,(st.objL l).ep=st.ep:=by
 induction l with
 |nil=>intro st;rfl
 |cons x r ih=>obtain⟨i,u⟩:=x;intro st;exact ih _
@[simp] theorem Zcx (l:List Id):∀st:St,(st.freezeL l).slots=st.slots:=by
 induction l with
 |nil=>intro st;rfl
 |cons x r ih=>intro st;exact ih _
@[simp] theorem Zu (l:List Id):∀st:St,(st.freezeL l).objs=st.objs:=by
 induction l with
 |nil=>intro st;rfl
 |cons x r ih=>intro st;exact ih _
@[simp] theorem Ze7 (l:List Id):∀st:St,(st.freezeL l).ep=st.ep:=by
 induction l with
 |nil=>intro st;rfl
 |cons x r ih=>intro st;exact ih _
theorem freezeL_fz (l:List Id):∀(st:St) (id:Id),(st.freezeL l).fz id=(l.contains id||st.fz id):=by
 induction l with
 |nil=>grind[St.freezeL]
 |cons x r ih=>
  intro st id;simp only[St.freezeL,ih,St.freeze,upd,List.contains_cons]
  grind
@[simp] theorem Zgi (st:St) (t:Option Nat) (d:D):(st.setO t d).objs=st.objs:=by cases t<;>rfl
@[simp] theorem setO_fz (st:St) (t:Option Nat) (d:D):(st.setO t d).fz=st.fz:=by cases t<;>rfl
@[simp] theorem setO_ep (st:St) (t:Option Nat) (d:D):(st.setO t d).ep=st.ep:=by cases t<;>rfl
@[simp] theorem ZcK (st:St) (i:Nat) (t:Option Nat) (e:Eff):(st.app i t e).ep=st.ep:=by simp[St.app]
@[simp] theorem ZbK (st:St) (i:Nat) (t:Option Nat) (e:Eff) (id:Id):(st.app i t e).fz id=(e.frz.contains id||st.fz id):=by simp[St.app,freezeL_fz]
theorem ZaU (st:St) (i:Nat) (t:Option Nat) (e:Eff) (k:Nat):(st.app i t e).slots k=if t=some k then e.val else st.slots k:=by
 cases t with
 |none=>simp[St.app,St.setO]
 |some t=>
  simp only[St.app,St.setO,St.set,upd,Zcx,ZiW,ZnO]
  grind
theorem ZK (st:St) (i:Nat) (t:Option Nat) (e:Eff) (id:Id) (o:Obj) (h:(st.app i t e).objs id=some o):
  (∃k,id=(st.ep,i,k)∧(k,o)∈e.new)∨((id,o)∈e.wr)∨((∀o',(id,o')∉e.wr)∧st.objs id=some o):=by
 simp only[St.app,Zgi,Zu]at h;rcases Zgu _ _ _ _ h with h |⟨_,h⟩
 ·grind
 grind[Zgu]
theorem Zip (a:Act) (t:Option Nat) (v:Value) (k:Nat) (h:∀d,t=some d→d < a.tmps.size):
  (a.put t v).tmps.getD k undef=if t=some k then v else a.tmps.getD k undef:=by
 cases t with
 |none=>simp[Act.put]
 |some d=>
  have hd:=h d rfl
  by_cases hk:d=k
  all_goals simp_all[Act.put]
def Zmf (e:Eff) (m j sz c k:Nat) (l:List P):Prop:=
 ∃es lo out cs,(m,Obj.own sz c k es lo out)∈e.new∧es[j]? =some (.agg cs)∧cs[c]? =some (.sl k l)∧j < lo∧out≠some j
structure Zfp (st:St) (i:Nat) (e:Eff) (ρ ρ':Id→Option Lay) (w w':World) (S':Nat→Prop) (κ:Nat→Nat→Lay):Prop where
 kid:∀m j sz c k l L,Zmf e m j sz c k l→ρ' (st.ep,i,m)=some L→∃b v,L.blk=some b∧w'.cell? ⟨b,L.base+j*sz+c,none⟩=some v∧
  RelD w' S' (fun _=>some (κ m j)) v (.sl (0,0,0) 0 l.length)∧Zp w' S' (fun _=>none) (κ m j) (.arr k l false)
 own:∀m j sz c k l b,Zmf e m j sz c k l→(κ m j).blk=some b→b < w'.heap.size∧¬S' b∧
  (w.heap.size≤b∨∃id o' L',(id,Obj.gone)∈e.wr∧st.objs id=some o'∧o'≠ .gone∧ρ id=some L'∧L'.blk=some b∧(∀o'',(id,o'')∈e.wr→o''= .gone))∧
  ∀m' o' L',(m',o')∈e.new→o'≠ .gone→ρ' (st.ep,i,m')=some L'→L'.blk≠some b
 inj:∀m j sz c k l m' j' sz' c' k' l' b,Zmf e m j sz c k l→Zmf e m' j' sz' c' k' l'→(κ m j).blk=some b→(κ m' j').blk=some b→m=m'∧j=j'
theorem Zfp.none {st:St} {i:Nat} {e:Eff} {ρ ρ':Id→Option Lay} {w w':World} {S':Nat→Prop} (h:∀k o,(k,o)∈e.new→o.isOwn=false):∃κ,Zfp st i e ρ ρ' w w' S' κ:=by
 have no:∀{m j sz c k l},¬Zmf e m j sz c k l:=by rintro m j sz c k l ⟨es,lo,out,cs,ho,_⟩;grind[Obj.isOwn]
 exact⟨fun _ _=>⟨.none,0,0,0,0⟩,fun _ _ _ _ _ _ _ hk=>(no hk).elim,fun _ _ _ _ _ _ _ hk=>(no hk).elim,fun _ _ _ _ _ _ _ _ _ _ _ _ _ hk=>(no hk).elim⟩
theorem Rep.famStep {C:Ctx} {X:Nat→Prop} {ρ:Id→Option Lay} {S S':Nat→Prop} {st:St} {tm:Array Value} {w:World} (h:Rep C X ρ S st tm w)
  {i:Nat} {t:Option Nat} {e:Eff} {w':World} (ρ':Id→Option Lay)
  (size:w.heap.size≤w'.heap.size)
  (keep:∀b,b < w.heap.size→(∀id o L,(id,o)∈e.wr→ρ id=some L→L.blk≠some b)→w'.heap[b]? =w.heap[b]?)
  (wr:∀id o,(id,o)∈e.wr→st.fz id=false∧∃o',st.objs id=some o'∧o'≠ .gone)
  (hρ:∀id L,ρ id=some L→ρ' id=some L) (kp:ZbM S w w') (hSS:∀b,S b→S' b)
  (hS':∀b,S' b→S b∨w.heap.size≤b∨∃id o L,st.objs id=some o∧o≠ .gone∧ρ id=some L∧L.blk=some b)
  (made:∀k o L b,(k,o)∈e.new→ρ' (st.ep,i,k)=some L→L.blk=some b→w.heap.size≤b∨∃id o L,st.objs id=some o∧o≠ .gone∧ρ id=some L∧L.blk=some b)
  (nfam:∃κ,Zfp st i e ρ ρ' w w' S' κ) (hfr:∀k,ρ (st.ep,i,k)=none) (wown:∀id o,(id,o)∈e.wr→o.isOwn=false):
  ∃κ,Fam C.H.size C.Lt S' ρ' (st.app i t e).objs (st.app i t e).fz w' κ:=by
 obtain⟨κ,F⟩:=h.fam;obtain⟨κn,N⟩:=nfam;have rold:∀id L,ρ id≠none→ρ' id=some L→ρ id=some L:=fun id L hn hL=>by
  cases hc:ρ id with
  |none=>grind
  |some L0=>grind
 have nold:∀m o,st.objs (st.ep,i,m)≠some o:=fun m o ho=>h.known _ (by grind) (hfr m)
 have ko:∀{id j sz c k l},Kid (st.app i t e).objs (st.app i t e).fz id j sz c k l→(id.1=st.ep∧id.2.1=i∧Zmf e id.2.2 j sz c k l)∨
   (¬(id.1=st.ep∧id.2.1=i)∧Kid st.objs st.fz id j sz c k l∧∀o',(id,o')∉e.wr):=by
  rintro id j sz c k l ⟨es,lo,out,cs,ho,hf,r1,r2,r3,r4⟩;rw[ZbK]at hf;simp only[Bool.or_eq_false_iff]at hf;rcases ZK st i t e id _ ho with ⟨k',rfl,hm⟩ |hm |⟨hnw,ho⟩
  ·exact .inl ⟨rfl,rfl,es,lo,out,cs,hm,r1,r2,r3,r4⟩
  ·grind[Obj.isOwn]
  ·refine .inr ⟨fun hc=> ?_,⟨es,lo,out,cs,ho,hf.2,r1,r2,r3,r4⟩,hnw⟩;grind
 have still:∀{id i' sz c k l},Kid st.objs st.fz id i' sz c k l→∀b,(κ id i').blk=some b→w'.heap[b]? =w.heap[b]? :=fun hk b hb=>
  keep b (F.own _ _ _ _ _ _ b hk hb).1 fun id' o' L' hm hL'=>by obtain⟨_,o'',ho'',hg''⟩:=wr id' o' hm;exact(F.own _ _ _ _ _ _ b hk hb).2.2.2 id' o'' L' ho'' hg'' hL'
 let κ':Id→Nat→Lay:=fun id=>if id.1=st.ep∧id.2.1=i then κn id.2.2 else κ id
 have hκn:∀{id:Id},id.1=st.ep→id.2.1=i→κ' id=κn id.2.2:=fun h1 h2=>by grind
 have hκo:∀{id:Id},¬(id.1=st.ep∧id.2.1=i)→κ' id=κ id:=fun h1=>by grind
 have cross:∀{m j sz c k l id' j' sz' c' k' l' b},Zmf e m j sz c k l→(κn m j).blk=some b→Kid st.objs st.fz id' j' sz' c' k' l'→(κ id' j').blk=some b→False:=fun hk hb hk' hb'=>by
  obtain⟨s1,_,_,s4⟩:=F.own _ _ _ _ _ _ _ hk' hb';rcases(N.own _ _ _ _ _ _ _ hk hb).2.2.1 with h1 |⟨id,o,L,_,q1,q2,q3,q4,_⟩
  all_goals grind
 refine⟨κ',fun id j sz c k l L hk hL=> ?_,fun id j sz c k l b hk hb=> ?_,fun id j sz c k l id' j' sz' c' k' l' b hk hk' hb hb'=> ?_⟩
 ·rcases ko hk with ⟨e1,e2,hn⟩ |⟨hne,hk,hnw⟩
  ·rw[hκn e1 e2];obtain⟨a,b,m⟩:=id;dsimp only at e1 e2 hn⊢
   subst e1 e2;exact N.kid m j sz c k l L hn hL
  rw[hκo hne];have hk2:=hk;obtain⟨es,lo,out,cs,ho,hk'⟩:=hk2;have hL0:=rold id L (h.known id (by grind)) hL;obtain⟨b,v,hb,hv,hr,hro⟩:=F.kid _ _ _ _ _ _ L hk hL0;have e1:w'.heap[b]? =w.heap[b]? :=keep b (h.own id _ L b ho (by simp) hL0 hb).1 fun id' o' L' hm hL' hb'=>by obtain⟨_,o'',ho'',hg''⟩:=wr id' o' hm;have:=h.inj id _ L id' o'' L' b ho (by simp) hL0 hb ho'' hg'' hL' hb';grind
  exact⟨b,v,hb,by grind[ZS],hr.mono kp hSS (fun _ _ h=>h),hro.mono kp hSS (fun _ _ h=>h) (still hk)⟩
 ·rcases ko hk with ⟨e1,e2,hn⟩ |⟨hne,hk,hnw⟩
  ·rw[hκn e1 e2]at hb;obtain⟨n1,n2,n3,n4⟩:=N.own _ _ _ _ _ _ _ hn hb;refine⟨n1, ?_,n2,fun id' o L ho hg hL hbl=> ?_⟩
   ·rcases n3 with n3 |⟨id',o,L,_,q1,q2,q3,q4,_⟩
    ·exact .inl (Nat.le_trans h.grow n3)
    ·exact(h.own id' o L b q1 q2 q3 q4).2.1
   ·rcases ZK st i t e id' o ho with ⟨k',rfl,hm⟩ |hm |⟨hnw,ho⟩
    ·exact n4 k' o L hm hg hL hbl
    ·obtain⟨_,o'',ho'',hg''⟩:=wr id' o hm;have hL0:=rold id' L (h.known id' (by simp[ho''])) hL;rcases n3 with n3 |⟨id2,o2,L2,q0,q1,q2,q3,q4,q5⟩
     ·have:=(h.own id' o'' L b ho'' hg'' hL0 hbl).1;omega
     ·have:=h.inj id' o'' L id2 o2 L2 b ho'' hg'' hL0 hbl q1 q2 q3 q4;subst this;exact hg (q5 o hm)
    ·have hL0:=rold id' L (h.known id' (by simp[ho])) hL;rcases n3 with n3 |⟨id2,o2,L2,q0,q1,q2,q3,q4,q5⟩
     ·have:=(h.own id' o L b ho hg hL0 hbl).1;omega
     ·have:=h.inj id' o L id2 o2 L2 b ho hg hL0 hbl q1 q2 q3 q4;subst this;exact hnw _ q0
  rw[hκo hne]at hb;obtain⟨h1,h2,h3,h4⟩:=F.own _ _ _ _ _ _ b hk hb;refine⟨by omega,h2,fun hs=> ?_,fun id' o L ho hg hL hbl=> ?_⟩
  ·rcases hS' b hs with hs |hs |⟨id',o',L',q1,q2,q3,q4⟩
   ·exact h3 hs
   ·omega
   ·exact h4 id' o' L' q1 q2 q3 q4
  ·rcases ZK st i t e id' o ho with ⟨k',rfl,hm⟩ |hm |⟨_,ho⟩
   ·rcases made k' o L b hm hL hbl with hs |⟨id',o',L',q1,q2,q3,q4⟩
    ·omega
    ·exact h4 id' o' L' q1 q2 q3 q4
   ·obtain⟨_,o'',ho'',hg''⟩:=wr id' o hm;exact h4 id' o'' L ho'' hg'' (rold id' L (h.known id' (by simp[ho''])) hL) hbl
   ·exact h4 id' o L ho hg (rold id' L (h.known id' (by simp[ho])) hL) hbl
 ·rcases ko hk with ⟨e1,e2,hn⟩ |⟨hne,hk,_⟩
  ·rw[hκn e1 e2]at hb;rcases ko hk' with ⟨e1',e2',hn'⟩ |⟨hne',hk',_⟩
   ·rw[hκn e1' e2']at hb';obtain⟨q1,q2⟩:=N.inj _ _ _ _ _ _ _ _ _ _ _ _ b hn hn' hb hb';refine⟨?_,q2⟩;obtain⟨a,b',m⟩:=id;obtain⟨a',b'',m'⟩:=id';dsimp only at e1 e2 e1' e2' q1;subst e1 e2 q1 e1' e2';rfl
   ·rw[hκo hne']at hb';exact(cross hn hb hk' hb').elim
  ·rw[hκo hne]at hb;rcases ko hk' with ⟨e1',e2',hn'⟩ |⟨hne',hk',_⟩
   ·rw[hκn e1' e2']at hb';exact(cross hn' hb' hk hb).elim
   ·rw[hκo hne']at hb';exact F.inj _ _ _ _ _ _ _ _ _ _ _ _ b hk hk' hb hb'
theorem Rep.stepG {C:Ctx} {X:Nat→Prop} {ρ:Id→Option Lay} {S:Nat→Prop} {st:St} {a:Act} {w:World} (h:Rep C X ρ S st a.tmps w)
  {i:Nat} {t:Option Nat} {e:Eff} {v:Value} {w':World} (ρ':Id→Option Lay)
  (hi:¬X i) (ht:∀d,t=some d→d < C.E.nt)
  (size:w.heap.size≤w'.heap.size) (hq:ZQ w w')
  (keep:∀b,b < w.heap.size→(∀id o L,(id,o)∈e.wr→ρ id=some L→L.blk≠some b)→w'.heap[b]? =w.heap[b]?)
  (wr:∀id o,(id,o)∈e.wr→st.fz id=false∧∃o',st.objs id=some o'∧o'≠ .gone)
  (hρ:∀id L,ρ id=some L→ρ' id=some L)
  (hnew:∀id,ρ' id≠none→ρ id≠none∨(id.1=st.ep∧id.2.1=i))
  (frz:∀id,id∈e.frz→ρ id≠none∧∀o',(id,o')∉e.wr)
  (made:∀k o,(k,o)∈e.new→∃L,ρ' (st.ep,i,k)=some L∧(∀b,L.blk=some b→
   (w.heap.size≤b∨(∃id o' L',(id,Obj.gone)∈e.wr∧st.objs id=some o'∧o'≠ .gone∧ρ id=some L'∧L'.blk=some b∧(∀o'',(id,o'')∈e.wr→o''= .gone))∨(b < w.heap.size∧(C.H.size≤b∨C.Lt b)∧¬S b∧∀id o L,st.objs id=some o→o≠ .gone→ρ id=some L→L.blk≠some b))∧b < w'.heap.size)∧
   ∀S',(∀b,S b→S' b)→(∀id,id∈e.frz→∀o L b,st.objs id=some o→o≠ .gone→ρ id=some L→L.blk=some b→S' b)→o≠ .gone→Zp w' S' ρ' L o)
  (apart:∀k o L k' o' L' b,(k,o)∈e.new→o≠ .gone→ρ' (st.ep,i,k)=some L→L.blk=some b→(k',o')∈e.new→o'≠ .gone→ρ' (st.ep,i,k')=some L'→L'.blk=some b→k=k')
  (changed:∀id o L,(id,o)∈e.wr→o≠ .gone→ρ id=some L→∀S',(∀b,S b→S' b)→(∀id,id∈e.frz→∀o L b,st.objs id=some o→o≠ .gone→ρ id=some L→L.blk=some b→S' b)→Zp w' S' ρ' L o)
  (val:∀S',(∀b,S b→S' b)→(∀id,id∈e.frz→∀o L b,st.objs id=some o→o≠ .gone→ρ id=some L→L.blk=some b→S' b)→(∀d,t=some d→RelD w' S' ρ' v e.val))
  (fam:∀S',(∀b,S b→S' b)→(∀b,S' b→S b∨∃id o L,id∈e.frz∧st.objs id=some o∧o≠ .gone∧ρ id=some L∧L.blk=some b)→ZbM S w w'→∃κ,Fam C.H.size C.Lt S' ρ' (st.app i t e).objs (st.app i t e).fz w' κ):
  ∃S',Rep C (fun j=>X j∨j=i) ρ' S' (st.app i t e) (a.put t v).tmps w':=by
 let S':Nat→Prop:=fun b=>S b∨∃id o L,id∈e.frz∧st.objs id=some o∧o≠ .gone∧ρ id=some L∧L.blk=some b
 have hSS:∀b,S b→S' b:=fun b hb=> .inl hb
 have hwrS:∀b,S b→∀id o L,(id,o)∈e.wr→ρ id=some L→L.blk≠some b:=fun b hb id o L hm hL hbl=>by obtain⟨hf,o',ho',hg⟩:=wr id o hm;exact((h.own id o' L b ho' hg hL hbl).2.2.2 hf) hb
 have kp:ZbM S w w':=fun b hb _=>keep b (h.sIn b hb) (hwrS b hb)
 have hnot:∀k,st.objs (st.ep,i,k)=none:=fun k=>by
  cases hc:st.objs (st.ep,i,k)with
  |none=>rfl
  |some o=>
   have:=h.young _ (h.known (st.ep,i,k) (by grind));grind
 have old:∀id o L,st.objs id=some o→o≠ .gone→(∀o',(id,o')∉e.wr)→ρ id=some L→∀b,L.blk=some b→w'.heap[b]? =w.heap[b]? :=by
  intro id o L ho hg hnw hL b hb;refine keep b (h.own id o L b ho hg hL hb).1 fun id' o' L' hm hL' hb'=> ?_
  obtain⟨_,o'',ho'',hg''⟩:=wr id' o' hm;have:=h.inj id o L id' o'' L' b ho hg hL hb ho'' hg'' hL' hb';grind
 have rold:∀id L,ρ id≠none→ρ' id=some L→ρ id=some L:=fun id L hn hL=>by
  cases hc:ρ id with
  |none=>grind
  |some L0=>grind
 have fresh:∀k,ρ (st.ep,i,k)=none:=fun k=>by
  cases hc:ρ (st.ep,i,k)with
  |none=>rfl
  |some L=>have:=h.young (st.ep,i,k) (by grind);grind
 have one:∀id o L id' o' L' b,st.objs id=some o→o≠ .gone→ρ id=some L→L.blk=some b→st.objs id'=some o'→o'≠ .gone→ρ id'=some L'→L'.blk=some b→id=id':=h.inj;refine⟨S',⟨?_,by have:=h.grow;omega, ?_,fun b hb=> .inl (h.s0 b hb), ?_, ?_, ?_, ?_, ?_, ?_, ?_, ?_,fun g cs hm=>(h.glob g cs hm).mono kp hSS, ?_,by rw[ZcK];exact h.ep1,h.quiet.trans hq, ?_,fam S' hSS (fun _ h=>h) kp⟩⟩
 ·rw[←h.nt];cases t<;>simp[Act.put]
 ·intro b hb hl;rw[←h.frame b hb hl];refine keep b (by have:=h.grow;omega) fun id o L hm hL hbl=> ?_
  obtain⟨_,o',ho',hg⟩:=wr id o hm;rcases(h.own id o' L b ho' hg hL hbl).2.1 with h1 |h1
  ·omega
  grind
 ·intro b hb;rcases hb with hb |⟨id,o,L,hm,ho,hg,hL,hbl⟩
  ·have:=h.sIn b hb;omega
  ·have:=(h.own id o L b ho hg hL hbl).1;omega
 ·intro k;rw[ZaU,Zip a t v k (fun d hd=>by rw[h.nt];grind)]
  by_cases hk:t=some k
  ·grind
  ·simp only[hk,if_false];exact(h.slots k).mono kp hSS hρ
 ·intro id o ho hg;rcases ZK st i t e id o ho with ⟨k,rfl,hm⟩ |hm |⟨hnw,ho⟩
  ·obtain⟨L,hL,_,hr⟩:=made k o hm;exact⟨L,hL,hr S' hSS (fun id hm o L b ho hg hL hbl=> .inr ⟨id,o,L,hm,ho,hg,hL,hbl⟩) hg⟩
  ·obtain⟨_,o',ho',hg'⟩:=wr id o hm;obtain⟨L,hL,_⟩:=h.objs id o' ho' hg';exact⟨L,hρ _ _ hL,changed id o L hm hg hL S' hSS (fun id hm o L b ho hg hL hbl=> .inr ⟨id,o,L,hm,ho,hg,hL,hbl⟩)⟩
  ·obtain⟨L,hL,hr⟩:=h.objs id o ho hg;exact⟨L,hρ _ _ hL,hr.mono kp hSS hρ (old id o L ho hg hnw hL)⟩
 ·intro id o L b ho hg hL hbl;rw[ZbK];rcases ZK st i t e id o ho with ⟨k,rfl,hm⟩ |hm |⟨hnw,ho⟩
  ·obtain⟨L',hL',hb,_⟩:=made k o hm;rw[hL]at hL';obtain rfl:=ZnN hL';obtain⟨hbn,hblt⟩:=hb b hbl;have hnf:st.fz (st.ep,i,k)=false:=by
    cases hc:st.fz (st.ep,i,k)with
    |false=>rfl
    |true=>exact absurd (fresh k) (h.fzk _ hc)
   have hnc:(st.ep,i,k)∉e.frz:=fun hm'=>(frz _ hm').1 (fresh k)
   have hnS':¬S' b:=by
    rintro(hS |⟨id1,o1,L1,hm1,ho1,hg1,hL1,hb1⟩)
    ·rcases hbn with hbn |⟨id',o',L',hm',ho',hg',hL',hb',_⟩ |⟨_,_,hs,_⟩
     ·have:=h.sIn b hS;omega
     ·exact(h.own id' o' L' b ho' hg' hL' hb').2.2.2 (wr _ _ hm').1 hS
     ·exact hs hS
    ·rcases hbn with hbn |⟨id',o',L',hm',ho',hg',hL',hb',_⟩ |⟨_,_,_,hs⟩
     ·have:=(h.own id1 o1 L1 b ho1 hg1 hL1 hb1).1;omega
     ·have:=one _ _ _ _ _ _ _ ho1 hg1 hL1 hb1 ho' hg' hL' hb';subst this;exact(frz _ hm1).2 _ hm'
     ·exact hs id1 o1 L1 ho1 hg1 hL1 hb1
   refine⟨hblt, ?_,fun hf=> ?_,fun _=>hnS'⟩
   ·rcases hbn with hbn |⟨id',o',L',hm',ho',hg',hL',hb',_⟩ |⟨_,hs,_⟩
    ·have:=h.grow;exact .inl (by omega)
    ·exact(h.own id' o' L' b ho' hg' hL' hb').2.1
    ·exact hs
   grind
  ·obtain⟨hf0,o',ho',hg'⟩:=wr id o hm;have hL0:=rold id L (h.known id (by simp[ho'])) hL;obtain⟨h1,h2,h3,h4⟩:=h.own id o' L b ho' hg' hL0 hbl;have hnc:id∉e.frz:=fun hm'=>(frz _ hm').2 _ hm
   refine⟨by omega,h2,fun hf=>by simp[hf0,hnc]at hf,fun _=> ?_⟩;rintro(hS |⟨id1,o1,L1,hm1,ho1,hg1,hL1,hb1⟩)
   ·exact h4 hf0 hS
   ·have:=one _ _ _ _ _ _ _ ho1 hg1 hL1 hb1 ho' hg' hL0 hbl;subst this;exact hnc hm1
  ·have hL0:=rold id L (h.known id (by simp[ho])) hL;obtain⟨h1,h2,h3,h4⟩:=h.own id o L b ho hg hL0 hbl;refine⟨by omega,h2,fun hf=> ?_,fun hf=> ?_⟩
   ·simp only[Bool.or_eq_true,List.contains_iff_mem]at hf;rcases hf with hf |hf
    ·exact .inr ⟨id,o,L,hf,ho,hg,hL0,hbl⟩
    ·exact .inl (h3 hf)
   ·simp only[Bool.or_eq_false_iff]at hf;rintro(hS |⟨id1,o1,L1,hm1,ho1,hg1,hL1,hb1⟩)
    ·exact h4 hf.2 hS
    ·have:=one _ _ _ _ _ _ _ ho1 hg1 hL1 hb1 ho hg hL0 hbl;subst this;have:=hf.1;simp[hm1]at this
 ·
  have newOld:∀k o L id' o' L' b,(k,o)∈e.new→o≠ .gone→ρ' (st.ep,i,k)=some L→L.blk=some b→(st.app i t e).objs id'=some o'→o'≠ .gone→
    ((id',o')∈e.wr∨((∀o'',(id',o'')∉e.wr)∧st.objs id'=some o'))→ρ' id'=some L'→L'.blk=some b→False:=by
   intro k o L id' o' L' b hm hg hL hbl _ hg' hcase hL' hbl';obtain⟨L0,hL0,hb,_⟩:=made k o hm;rw[hL]at hL0;obtain rfl:=ZnN hL0;have hpres:∃o1,st.objs id'=some o1∧o1≠ .gone:=by
    rcases hcase with hc |hc
    ·exact(wr _ _ hc).2
    ·exact⟨o',hc.2,hg'⟩
   obtain⟨o1,ho1,hg1⟩:=hpres;have hL1:=rold id' L' (h.known id' (by simp[ho1])) hL';rcases(hb b hbl).1 with hbn |⟨id2,o2,L2,hm2,ho2,hg2,hL2,hb2,hall⟩ |⟨_,_,_,hs⟩
   rotate_right
   ·exact hs id' o1 L' ho1 hg1 hL1 hbl'
   ·have:=(h.own id' o1 L' b ho1 hg1 hL1 hbl').1;omega
   ·have:=one _ _ _ _ _ _ _ ho1 hg1 hL1 hbl' ho2 hg2 hL2 hb2;subst this;rcases hcase with hc |hc
    ·exact hg' (hall _ hc)
    ·exact hc.1 _ hm2
  intro id o L id' o' L' b ho hg hL hbl ho' hg' hL' hbl';rcases ZK st i t e id o ho with ⟨k,rfl,hm⟩ |hc
  ·rcases ZK st i t e id' o' ho' with ⟨k',rfl,hm'⟩ |hc'
   ·rw[apart k o L k' o' L' b hm hg hL hbl hm' hg' hL' hbl']
   ·exact(newOld k o L id' o' L' b hm hg hL hbl ho' hg' hc' hL' hbl').elim
  ·rcases ZK st i t e id' o' ho' with ⟨k',rfl,hm'⟩ |hc'
   ·exact(newOld k' o' L' id o L b hm' hg' hL' hbl' ho hg hc hL hbl).elim
   ·have pres:∀id o,o≠ .gone→((id,o)∈e.wr∨((∀o'',(id,o'')∉e.wr)∧st.objs id=some o))→∃o1,st.objs id=some o1∧o1≠ .gone:=by
     intro id o hg hc;rcases hc with hc |hc
     ·exact(wr _ _ hc).2
     ·exact⟨o,hc.2,hg⟩
    obtain⟨o1,ho1,hg1⟩:=pres id o hg hc;obtain⟨o2,ho2,hg2⟩:=pres id' o' hg' hc';exact one _ _ _ _ _ _ _ ho1 hg1 (rold id L (h.known id (by simp[ho1])) hL) hbl ho2 hg2 (rold id' L' (h.known id' (by simp[ho2])) hL') hbl'
 ·intro id hn;cases ho:(st.app i t e).objs id with
  |none=>exact absurd ho hn
  |some o=>
   rcases ZK st i t e id o ho with ⟨k,rfl,hm⟩ |hm |⟨_,ho⟩
   ·obtain⟨L,hL,_⟩:=made k o hm;simp[hL]
   ·obtain⟨_,o',ho',_⟩:=wr id o hm;have:=h.known id (by simp[ho']);cases hc:ρ id with
    |none=>exact absurd hc this
    |some L=>simp[hρ _ _ hc]
   ·have:=h.known id (by simp[ho]);cases hc:ρ id with
    |none=>exact absurd hc this
    |some L=>simp[hρ _ _ hc]
 ·intro id hn;rw[ZcK];rcases hnew id hn with h1 |⟨h1,h2⟩
  ·rcases h.young id h1 with h2 |⟨h2,h3⟩
   ·exact .inl h2
   ·exact .inr ⟨h2,.inl h3⟩
  ·exact .inr ⟨h1,.inr h2⟩
 ·intro id hf;rw[ZbK]at hf;simp only[Bool.or_eq_true,List.contains_iff_mem]at hf;have:ρ id≠none:=by
   rcases hf with hf |hf
   ·exact(frz id hf).1
   ·exact h.fzk id hf
  cases hc:ρ id with
  |none=>exact absurd hc this
  |some L=>simp[hρ _ _ hc]
 ·intro b hb;rcases hb with hb |⟨id,o,L,hm,ho,hg,hL,hbl⟩
  ·exact h.sOut b hb
  ·exact .inr (h.own id o L b ho hg hL hbl).2.1
 ·intro k L hk hn;rcases hnew _ hn with h1 |⟨h1,_⟩
  ·exact hρ _ _ (h.lay k L hk h1)
  ·have:=h.ep1;simp only at h1;omega
theorem Rep.step {C:Ctx} {X:Nat→Prop} {ρ:Id→Option Lay} {S:Nat→Prop} {st:St} {a:Act} {w:World} (h:Rep C X ρ S st a.tmps w)
  {i:Nat} {t:Option Nat} {e:Eff} {v:Value} {w':World} (ρ':Id→Option Lay)
  (hi:¬X i) (ht:∀d,t=some d→d < C.E.nt)
  (size:w.heap.size≤w'.heap.size) (hq:ZQ w w')
  (keep:∀b,b < w.heap.size→(∀id o L,(id,o)∈e.wr→ρ id=some L→L.blk≠some b)→w'.heap[b]? =w.heap[b]?)
  (wr:∀id o,(id,o)∈e.wr→st.fz id=false∧∃o',st.objs id=some o'∧o'≠ .gone)
  (hρ:∀id L,ρ id=some L→ρ' id=some L)
  (hnew:∀id,ρ' id≠none→ρ id≠none∨(id.1=st.ep∧id.2.1=i))
  (frz:∀id,id∈e.frz→ρ id≠none∧∀o',(id,o')∉e.wr)
  (made:∀k o,(k,o)∈e.new→∃L,ρ' (st.ep,i,k)=some L∧(∀b,L.blk=some b→
   (w.heap.size≤b∨∃id o' L',(id,Obj.gone)∈e.wr∧st.objs id=some o'∧o'≠ .gone∧ρ id=some L'∧L'.blk=some b∧(∀o'',(id,o'')∈e.wr→o''= .gone))∧b < w'.heap.size)∧
   ∀S',(∀b,S b→S' b)→(∀id,id∈e.frz→∀o L b,st.objs id=some o→o≠ .gone→ρ id=some L→L.blk=some b→S' b)→o≠ .gone→Zp w' S' ρ' L o)
  (apart:∀k o L k' o' L' b,(k,o)∈e.new→o≠ .gone→ρ' (st.ep,i,k)=some L→L.blk=some b→(k',o')∈e.new→o'≠ .gone→ρ' (st.ep,i,k')=some L'→L'.blk=some b→k=k')
  (changed:∀id o L,(id,o)∈e.wr→o≠ .gone→ρ id=some L→∀S',(∀b,S b→S' b)→(∀id,id∈e.frz→∀o L b,st.objs id=some o→o≠ .gone→ρ id=some L→L.blk=some b→S' b)→Zp w' S' ρ' L o)
  (val:∀S',(∀b,S b→S' b)→(∀id,id∈e.frz→∀o L b,st.objs id=some o→o≠ .gone→ρ id=some L→L.blk=some b→S' b)→(∀d,t=some d→RelD w' S' ρ' v e.val))
  (nown:∀k o,(k,o)∈e.new→o.isOwn=false:=by simp) (wown:∀id o,(id,o)∈e.wr→o.isOwn=false:=by simp):
  ∃S',Rep C (fun j=>X j∨j=i) ρ' S' (st.app i t e) (a.put t v).tmps w':=by
 refine h.stepG ρ' hi ht size hq keep wr hρ hnew frz (fun k o hm=> ?_) apart changed val (fun S' hSS hS' kp=> ?_)
 ·grind
 ·refine h.famStep ρ' size keep wr hρ kp hSS (fun b hb=>(hS' b hb).imp id fun⟨id,o,L,_,r⟩=> .inr ⟨id,o,L,r⟩) (fun k o L b hm hL hb=> ?_) (Zfp.none nown) (fun k=> ?_) wown
  rotate_right
  ·cases hc:ρ (st.ep,i,k)with
   |none=>rfl
   |some L=>have:=h.young (st.ep,i,k) (by grind);grind
  grind
end Eng
namespace Eng
open Go
def Zat:TypeDesc→TD→Bool
 | .bool,.bool=>true
 | .int k,.int k'=>k == k'
 | .string,.str=>true
 | .slice e,.sl e'=>e == e'
 | .array n e,.arr n' e'=>n == n'&&e == e'
 | .pointer e,.ptr e'=>e == e'
 | .map k e,.map k' e'=>k == k'&&e == e'
 | .struct fs,.struct gs=>fs.toList.map (fun f=>(f.offset,f.type)) == gs&&fs.all (fun f=>f.name != "_")
 | .func _ _ _,.func=>true
 | .tuple _,.tup=>true
 |_,_=>false
def zOk:Value→Z→Bool
 | .bool false,.p (.bool false)=>true
 | .int k n,.p (.int k' m)=>k == k'&&n == 0&&m == 0
 | .string s,.p (.str [])=>s.data.size == 0
 | .slice none 0 0,.nils _=>true
 | .pointer none,.p .nilp=>true
 | .map none,.p (.map _ [])=>true
 | .nilFunc,.p .nilfn=>true
 |_,_=>false
def Zmg:List Value→List Z→Bool
 | [],[]=>true
 |v::vs,z::zs=>zOk v z&&Zmg vs zs
 |_,_=>false
def tiOk (p:Program) (t:Nat) (ti:TI):Bool:=
 match p.info? t,p.underlying t with
 |some i,some d=>i.size == ti.size&&i.bytes == ti.bytes&&Zat d ti.d&&(match ti.d with | .struct fs=> !p.stoodInHeld t&& !p.eqGuardType p.depth t&&fs.all (fun f=>(p.info? f.2).isSome) | .arr _ el=>(p.info? el).isSome |_=>true)&&
  (match i.zero with
   |some z=>Zmg z.cells.toList ti.zero&&(if ti.isAgg then (match z with | .agg _=>true |_=>false)else (match z with | .agg _=>false |_=>ti.zero.length == 1))&&ti.zero.length == ti.size
   |none=>false)
 |_,_=>false
def ZjH (p:Program):Nat→List (Option TI)→Bool
 |_,[]=>true
 |t,none::r=>ZjH p (t+1) r
 |t,some ti::r=>tiOk p t ti&&ZjH p (t+1) r
structure Zl (E:Env):Prop where
 tys:ZjH E.prog 0 E.tys=true
theorem ZdH {p:Program}:∀{l:List (Option TI)} {n t:Nat} {ti:TI},ZjH p n l=true→l[t]? =some (some ti)→tiOk p (n+t) ti=true
 | [],n,t,ti,_,h=>by grind
 |none::r,n,t,ti,h,hg=>by
  cases t with
  |zero=>simp_all
  |succ t=>simp only[List.getElem?_cons_succ]at hg;have:=ZdH (n:=n+1) h hg;grind
 |some x::r,n,t,ti,h,hg=>by
  simp only[ZjH,Znu]at h;cases t with
  |zero=>simp_all
  |succ t=>simp only[List.getElem?_cons_succ]at hg;have:=ZdH (n:=n+1) h.2 hg;grind
theorem Zl.ti {E:Env} (h:Zl E) {t:Nat} {ti:TI} (ht:E.ty t=some ti):tiOk E.prog t ti=true:=by
 unfold Env.ty at ht;split at ht;rotate_left;simp at ht;rename_i i hi;cases ht;have:=ZdH h.tys hi
 simp_all
structure TIs (p:Program) (t:Nat) (ti:TI) (i:TypeInfo) (d:TypeDesc) (z:Value):Prop where
 info:p.info? t=some i
 und:p.underlying t=some d
 size:i.size=ti.size
 bytes:i.bytes=ti.bytes
 td:Zat d ti.d=true
 eq:(match ti.d with | .struct fs=> !p.stoodInHeld t&& !p.eqGuardType p.depth t&&fs.all (fun f=>(p.info? f.2).isSome) | .arr _ el=>(p.info? el).isSome |_=>true)=true
 zero:i.zero=some z
 zs:Zmg z.cells.toList ti.zero=true
 zl:ti.zero.length=ti.size
 agg:ti.isAgg=true→∃cs,z= .agg cs
 flat:ti.isAgg=false→z.cells= #[z]∧ti.zero.length=1
theorem Zl.is {E:Env} (h:Zl E) {t:Nat} {ti:TI} (ht:E.ty t=some ti):∃i d z,TIs E.prog t ti i d z:=by
 have h1:=h.ti ht;unfold tiOk at h1;split at h1;rotate_left;simp at h1;rename_i i d hi hd;simp only[Znu,beq_iff_eq]at h1;obtain⟨⟨⟨⟨h2,h3⟩,h4⟩,h4'⟩,h5⟩:=h1;split at h5;rotate_left;simp at h5;rename_i z hz;simp only[Znu,beq_iff_eq]at h5;obtain⟨⟨h6,h7⟩,h8⟩:=h5;refine⟨i,d,z,⟨hi,hd,h2,h3,h4,h4',hz,h6,h8,fun ha=> ?_,fun ha=> ?_⟩⟩
 ·grind
 ·rw[ha]at h7;cases z<;>simp at h7<;>exact⟨rfl,h7⟩
theorem Za {P:Program} {t:TypeId} {d:TypeDesc} (h:P.underlying t=some d) (w:World):(underlying t).run P w= .ok d w:=run_underlying h w
theorem ZC {P:Program} {t:TypeId} {i:TypeInfo} (h:P.info? t=some i) (w:World):(typeInfo t).run P w= .ok i w:=by simp[typeInfo,h]
theorem Zao {P:Program} {t:TypeId} {i:TypeInfo} (h:P.info? t=some i) (w:World):(Go.sizeOf t).run P w= .ok i.size w:=by simp[Go.sizeOf,ZC h]
theorem Z0 {P:Program} {t:TypeId} {i:TypeInfo} {z:Value} (h:P.info? t=some i) (hz:i.zero=some z) (w:World):(zeroValue t).run P w= .ok z w:=by simp[zeroValue,ZC h,hz]
theorem TIs.isAgg {p:Program} {t:Nat} {ti:TI} {i:TypeInfo} {d:TypeDesc} {z:Value} (h:TIs p t ti i d z) (w:World):(Go.isAgg t).run p w= .ok ti.isAgg w:=by have:=h.td;unfold Go.isAgg;rw[Sem.run_bind,Za h.und w];cases d<;>cases hd:ti.d<;>simp[hd,Zat]at this<;>simp[TI.isAgg,hd]
theorem Zmh {w:World} {S:Nat→Prop} {ρ:Id→Option Lay} {v:Value} {z:Z} (h:zOk v z=true):RelD w S ρ v z.toD∧Zbp v:=by
 unfold zOk at h;split at h
 ·exact⟨.p _ _ (.bool false),rfl⟩
 ·rename_i k n k' m;simp only[Znu,beq_iff_eq]at h;obtain⟨⟨rfl,rfl⟩,rfl⟩:=h;refine⟨.p _ _ (.int _ _ ?_ ?_),rfl⟩<;>cases k<;>decide
 ·rename_i s;obtain⟨⟨l⟩⟩:=s;simp at h;subst h;exact⟨.p _ _ (.str [] (by simp)),rfl⟩
 ·exact⟨.nils _,rfl⟩
 ·exact⟨.p _ _ .nilp,rfl⟩
 ·exact⟨.p _ _ (.nilmap _),rfl⟩
 ·exact⟨.p _ _ .nilfn,rfl⟩
 simp_all
theorem Zco:∀{vs:List Value} {zs:List Z},Zmg vs zs=true→vs.length=zs.length∧∀(i:Nat) v z,vs[i]? =some v→zs[i]? =some z→zOk v z=true
 | [],[],_=>⟨rfl,by simp⟩
 | [],_::_,h=>by grind[Zmg]
 |_::_,[],h=>by grind[Zmg]
 |v::vs,z::zs,h=>by
  simp only[Zmg,Znu]at h;obtain⟨hl,hi⟩:=Zco h.2;grind
theorem ZmA {w:World} {S:Nat→Prop} {ρ:Id→Option Lay} (sz:Nat) (td:TD) {v:Value} (h:ZE (.const v)=true):RelD w S ρ v (D.ofV sz td v):=by
 unfold D.ofV;split
 ·exact .p _ _ (.bool _)
 ·simp[ZE]at h;exact .p _ _ (.int _ _ h.1 h.2)
 ·rename_i s;obtain⟨⟨l⟩⟩:=s;simp[ZE]at h;exact .p _ _ (.str l h)
 ·exact .nils sz
 ·exact .p _ _ .nilp
 ·exact .p _ _ (.nilmap _)
 ·exact .p _ _ .nilfn
 ·exact .dead v
theorem Zm {C:Ctx} {X:Nat→Prop} {ρ:Id→Option Lay} {S:Nat→Prop} {st:St} {a:Act} {w:World} (h:Rep C X ρ S st a.tmps w) (t:Nat) {x:Operand} (hx:ZE x=true):
  RelD w S ρ (a.eval x) (ev C.E st.slots t x):=by
 cases x with
 |tmp k=>exact h.slots k
 |const v=>exact ZmA _ _ hx
 |global g=>
  simp only[Act.eval,ev,Env.glob];split
  ·rename_i x hf;have h1:=List.find?_some hf;have h2:=List.mem_of_find?_eq_some hf;simp only[beq_iff_eq]at h1;subst h1;exact .p _ _ (h.glob _ _ h2).1
  ·exact .dead _
 |func f=>exact .p _ _ (.fn f #[] #[] [] [] rfl rfl (by simp) (by simp))
end Eng
namespace Eng
open Go
section
variable {C:Ctx} {X:Nat→Prop} {ρ:Id→Option Lay} {S:Nat→Prop} {st:St} {a:Act} {w:World} {i:Nat} {o:Oper} {e:Eff}
def Zv (C:Ctx) (X:Nat→Prop) (st:St) (a:Act) (w:World) (i:Nat) (o:Oper) (e:Eff):Prop:=
 ∃n v w',(execOp a.eval o).run C.E.prog w= .ok n w'∧(n= .value v∨(n= .skip∧v=undef))∧
  ∃ρ' S',Rep C (fun j=>X j∨j=i) ρ' S' (st.app i o.dst e) (a.put o.dst v).tmps w'
theorem Zv.frz (h:Rep C X ρ S st a.tmps w) (hi:¬X i) (ht:∀d,o.dst=some d→d < C.E.nt) {v:Value} (hrun:(execOp a.eval o).run C.E.prog w= .ok (.value v) w)
  (hn:e.new=[]) (hw:e.wr=[]) (hf:∀id,id∈e.frz→ρ id≠none)
  (hv:∀S',(∀b,S b→S' b)→(∀id,id∈e.frz→∀o L b,st.objs id=some o→o≠ .gone→ρ id=some L→L.blk=some b→S' b)→RelD w S' ρ v e.val):Zv C X st a w i o e:=
 ⟨_,v,w,hrun,.inl rfl,ρ,h.step ρ hi ht (ZnJ _) (ZQ.refl _) (fun _ _ _=>rfl) (by grind) (fun _ _ h=>h) (fun id h=> .inl h) (fun id hid=>⟨hf id hid,by grind⟩)
  (by grind) (by grind) (by grind) (fun S' h1 h2 _ _=>hv S' h1 h2) (by grind) (by grind)⟩
theorem Zv.quiet (h:Rep C X ρ S st a.tmps w) (hi:¬X i) (ht:∀d,o.dst=some d→d < C.E.nt) {v:Value} (hrun:(execOp a.eval o).run C.E.prog w= .ok (.value v) w)
  (hn:e.new=[]) (hw:e.wr=[]) (hf:e.frz=[]) (hv:RelD w S ρ v e.val):Zv C X st a w i o e:=
 Zv.frz h hi ht hrun hn hw (by grind) fun _ h1 _=>hv.mono (fun _ _ _=>rfl) h1 fun _ _ h=>h
theorem RelD.of_p {v:Value} {x:P} (h:RelD w S ρ v (.p x)):RelP w S v x:=by cases h;omega
theorem RelP.bool_inv {v:Value} {b:Bool} (h:RelP w S v (.bool b)):v= .bool b:=by cases h;rfl
theorem RelP.int_inv {v:Value} {k:IntKind} {n:Int} (h:RelP w S v (.int k n)):v= .int k n∧k.min≤n∧n≤k.max:=by cases h;simp_all
theorem RelP.str_inv {v:Value} {s:List UInt8} (h:RelP w S v (.str s)):v= .string ⟨s.toArray⟩∧s.length≤Zr:=by cases h;simp_all
theorem Za9 (k:IntKind) (n:Int):k.min≤k.wrap n∧k.wrap n≤k.max:=by
 unfold IntKind.wrap;cases k<;>simp only[IntKind.min,IntKind.max,IntKind.bits,IntKind.signed,Bool.true_and,Bool.false_and,Znv,if_true,if_false]<;>
  first
   |omega
   |grind
theorem Zmi (k:IntKind) (n:Int) (h0:k.min≤n) (h1:n≤k.max):k.wrap n=n:=by
 unfold IntKind.wrap;cases k<;>simp only[IntKind.min,IntKind.max,IntKind.bits,IntKind.signed,Bool.true_and,Bool.false_and,Znv,if_true,if_false]at* <;>
  first
   |omega
   |grind
theorem Zf9 (l:List UInt8):(ByteArray.mk l.toArray).toList=l:=by simp_all
variable (h:Rep C X ρ S st a.tmps w) (hi:¬X i) (ht:∀d,o.dst=some d→d < C.E.nt) (hlit:o.op.operands.all ZE=true) (hE:Zl C.E)
include h hi ht hlit
theorem ZkA {x:Operand} (ho:o.op= .move x) (hc:Zf C.E st.ep i o.op o.type st.slots st.objs=some e):Zv C X st a w i o e:=by rw[ho]at hc hlit;simp only[Zf,ZnO]at hc;subst hc;exact Zv.quiet h hi ht (by simp[execOp,ho]) rfl rfl rfl (Zm h _ (by grind[Op.operands]))
theorem Zky {c x y:Operand} (ho:o.op= .pick c x y) (hc:Zf C.E st.ep i o.op o.type st.slots st.objs=some e):Zv C X st a w i o e:=by rw[ho]at hc hlit;simp[Op.operands]at hlit;have h1:=Zm h o.type hlit.1;have h2:=Zm h o.type hlit.2.1;have h3:=Zm h o.type hlit.2.2;simp only[Zf]at hc;split at hc;rotate_left;simp at hc;rename_i b hb;cases hc;rw[hb]at h1;have hv:=h1.of_p.bool_inv;refine Zv.quiet h hi ht (v:=if b then a.eval x else a.eval y) (by simp_all[execOp,asBool]) rfl rfl rfl ?_;grind
theorem ZfU {x:Operand} (ho:o.op= .nilCheck x) (hc:Zf C.E st.ep i o.op o.type st.slots st.objs=some e):Zv C X st a w i o e:=by
 rw[ho]at hc hlit;simp[Op.operands]at hlit;have h1:=Zm h 0 hlit;simp only[Zf]at hc;split at hc<;>simp only[ZnO,reduceCtorEq]at hc
 all_goals
  subst hc;rename_i hev;rw[hev]at h1;refine Zv.quiet h hi ht (v:=a.eval x) ?_ rfl rfl rfl h1;generalize hv:a.eval x=v at h1
 ·cases h1 with |p _ _ h1=>cases h1;simp_all[execOp]
 ·cases h1;simp_all[execOp]
 ·cases h1 with |p _ _ h1=>cases h1;simp_all[execOp]
 ·cases h1;simp_all[execOp]
 ·cases h1;simp_all[execOp]
theorem ZgS {x:Operand} {n:Nat} (ho:o.op= .extract x n) (hc:Zf C.E st.ep i o.op o.type st.slots st.objs=some e):Zv C X st a w i o e:=by
 rw[ho]at hc hlit;simp[Op.operands]at hlit;have h1:=Zm h 0 hlit;simp only[Zf]at hc;split at hc;rotate_left;simp at hc;rename_i vs hev;rw[hev]at h1;simp only[ZnM]at hc;obtain⟨d,hd,rfl⟩:=hc;cases hv:a.eval x<;>rw[hv]at h1<;>cases h1;rename_i us hl hr;have hlt:n < us.size:=by grind
 refine Zv.quiet h hi ht (v:=us[n]) (by simp[execOp,ho,hv,Instr.extract,hlt]) rfl rfl rfl (hr n _ d (by grind) hd)
theorem ZfV {f:Fn} {fs cs:Array Operand} (ho:o.op= .makeFunc f fs cs) (hc:Zf C.E st.ep i o.op o.type st.slots st.objs=some e):Zv C X st a w i o e:=by
 rw[ho]at hc hlit;cases f<;>simp only[Zf,ZnO,reduceCtorEq]at hc;rename_i f;subst hc;simp[Op.operands]at hlit;have key:∀(xs:Array Operand),(∀x∈xs,ZE x=true)→∀(k:Nat) v d,(xs.map a.eval)[k]? =some v→(xs.toList.map (ev C.E st.slots 0))[k]? =some d→RelD w S ρ v d:=by
  grind[Zm]
 refine Zv.quiet h hi ht (v:= .func (.func f) (fs.map a.eval) (cs.map a.eval)) (by simp[execOp,ho,Instr.makeFunc]) rfl rfl rfl ?_;have k1:=key fs (fun x hx=>by grind[Zns]);have k2:=key cs (fun x hx=>by grind[Zns]);dsimp only;split
 ·rename_i pa pb hpa hpb;rw[Zx hpa]at k1;rw[Zx hpb]at k2;have la:=congrArg List.length (Zx hpa);have lb:=congrArg List.length (Zx hpb);simp at la lb;exact .p _ _ (.fn f _ _ pa pb (by simpa using la) (by simpa using lb) (fun k v x hv hx=>(k1 k v _ hv (by simp[hx])).of_p) (fun k v x hv hx=>(k2 k v _ hv (by simp[hx])).of_p))
 ·exact .fn f _ _ _ _ (by simp) (by simp) k1 k2
omit h hi ht hlit in
theorem ZdB {op:BinOp} {k:IntKind} {x y n:Int} (hb:ZfZ op k x y=some n):k.min≤n∧n≤k.max:=by
 unfold ZfZ at hb
 cases op<;>simp at hb<;>subst hb<;>exact Za9 k _
omit h hi ht hlit in
theorem kind0 (k:IntKind):k.min≤0∧0≤k.max:=by cases k<;>decide
omit h hi ht hlit in
theorem Zl2 (n:Nat) (y:Int):0≤((n:Int)).tmod y∧((n:Int)).tmod y≤n:=by
 obtain⟨m,rfl |rfl⟩:∃m:Nat,y=m∨y= -(m:Int):=⟨y.natAbs,by omega⟩
 ·have:=Nat.mod_le n m
  have e:((n:Int)).tmod (m:Int)=((n % m:Nat):Int):=rfl
  omega
 ·have:=Nat.mod_le n m
  have e:((n:Int)).tmod (-(m:Int))=((n % m:Nat):Int):=by rw[Int.tmod_neg];rfl
  omega
omit h hi ht hlit in
theorem ZeP (k:IntKind) (x y:Int) (h0:k.min≤x) (h1:x≤k.max):k.min≤x.tmod y∧x.tmod y≤k.max:=by
 have hm:=kind0 k
 by_cases hx:0≤x
 ·obtain⟨n,rfl⟩:=Int.eq_ofNat_of_zero_le hx
  have:=Zl2 n y
  omega
 ·obtain⟨n,rfl⟩:∃n:Nat,x= -(n:Int):=⟨x.natAbs,by omega⟩
  rw[Int.neg_tmod]
  have:=Zl2 n y
  omega
omit h hi ht hlit in
theorem Ze9 (k:IntKind) (x:Int) (m:Nat) (h0:k.min≤x) (h1:x≤k.max):k.min≤x.fdiv (2 ^ m)∧x.fdiv (2 ^ m)≤k.max:=by
 have hm:=kind0 k
 have hp:(0:Int) < 2 ^ m:=Int.pow_pos (by decide)
 rw[Int.fdiv_eq_ediv_of_nonneg _ (by omega)]
 by_cases hx:0≤x
 ·have:=Int.ediv_nonneg hx (by omega:(0:Int)≤2 ^ m)
  have:=Int.ediv_le_self (2 ^ m) hx
  omega
 ·have h2:x / 2 ^ m < 0:=Int.ediv_neg_of_neg_of_pos (by omega) hp
  have h3:x≤x / 2 ^ m:=by
   refine Int.le_ediv_of_mul_le hp ?_
   obtain⟨d,hd⟩:=Int.eq_ofNat_of_zero_le (by omega:0≤(2:Int) ^ m - 1)
   have e:(2:Int) ^ m=1+d:=by omega
   rw[e,Int.mul_add,Int.mul_one]
   have:=Int.mul_nonpos_of_nonpos_of_nonneg (by omega:x≤0) (by omega:(0:Int)≤d)
   omega
  omega
omit h hi ht hlit in
theorem ZaI (k:IntKind) (n:Int) (hc:∀q∈(ZaJ k n).2,q=true):RelP w S (.int k (k.wrap n)) (ZaJ k n).1:=by
 have gen:RelP w S (.int k (k.wrap n)) (.int k (k.wrap n)):= .int k _ (Za9 k n).1 (Za9 k n).2
 cases k<;>first
  |exact gen
  |(have hc:=Zkn.1 (hc (Zls n) (by simp[ZaJ]));rw[Zmi _ n hc.1 hc.2];exact .int _ n hc.1 hc.2)
omit h hi ht hlit in
theorem Zkm {op:BinOp} {k:IntKind} {x y:Int} {z:P} {c:List Bool} (hx:k.min≤x∧x≤k.max) (hz:ZmN op k x y=some (z,c))
  (hc:∀q∈c,q=true) (P:Program) (t:TypeId) (w:World):
  ∃v,(Go.binOp op t (.int k x) (.int k y)).run P w= .ok v w∧RelP w S v z:=by
 have rb:∀b:Bool,RelP w S (.bool b) (.bool b):=fun b=> .bool b
 have bits:∀n,ZfZ op k x y=some n→z= .int k n→(op= .and∨op= .or∨op= .xor∨op= .andNot)→∃v,(Go.binOp op t (.int k x) (.int k y)).run P w= .ok v w∧RelP w S v z:=by
  intro n hn hz hop
  subst hz
  refine⟨.int k n, ?_,.int k n (ZdB hn).1 (ZdB hn).2⟩
  rcases hop with rfl |rfl |rfl |rfl<;>simp[ZfZ]at hn<;>subst hn<;>simp[Go.binOp,Op.intBits]
 cases op<;>simp only[ZmN,Option.some.injEq,Prod.mk.injEq]at hz
 case add=>obtain⟨rfl,rfl⟩:=Prod.mk.injEq .. ▸hz;exact⟨_,by simp[Go.binOp,Op.intArith],ZaI k _ hc⟩
 case sub=>obtain⟨rfl,rfl⟩:=Prod.mk.injEq .. ▸hz;exact⟨_,by simp[Go.binOp,Op.intArith],ZaI k _ hc⟩
 case mul=>obtain⟨rfl,rfl⟩:=Prod.mk.injEq .. ▸hz;exact⟨_,by simp[Go.binOp,Op.intArith],ZaI k _ hc⟩
 case quo=>
  obtain⟨rfl,rfl⟩:=hz
  have h0:¬y=0:=of_decide_eq_true (hc (decide (y≠0)) (by simp))
  exact⟨_,by simp[Go.binOp,Op.intDiv,h0],ZaI k _ fun q hq=>hc q (by simp[hq])⟩
 case rem=>
  obtain⟨rfl,rfl⟩:=hz
  have h0:¬y=0:=of_decide_eq_true (hc (decide (y≠0)) (by simp))
  exact⟨_,by simp[Go.binOp,Op.intDiv,h0],.int _ _ (ZeP _ _ _ hx.1 hx.2).1 (ZeP _ _ _ hx.1 hx.2).2⟩
 case shl=>simp[ZfZ]at hz
 case shr=>simp[ZfZ]at hz
 case eql=>obtain⟨rfl,rfl⟩:=hz;exact⟨_,by simp[Go.binOp,Op.intCmp],rb _⟩
 case neq=>obtain⟨rfl,rfl⟩:=hz;exact⟨_,by simp[Go.binOp,Op.intCmp],rb _⟩
 case lss=>obtain⟨rfl,rfl⟩:=hz;exact⟨_,by simp[Go.binOp,Op.intCmp],rb _⟩
 case leq=>obtain⟨rfl,rfl⟩:=hz;exact⟨_,by simp[Go.binOp,Op.intCmp],rb _⟩
 case gtr=>obtain⟨rfl,rfl⟩:=hz;exact⟨_,by simp[Go.binOp,Op.intCmp],rb _⟩
 case geq=>obtain⟨rfl,rfl⟩:=hz;exact⟨_,by simp[Go.binOp,Op.intCmp],rb _⟩
 all_goals
  split at hz
  rotate_left
  simp at hz
  rename_i n hn
  simp only[Option.some.injEq,Prod.mk.injEq]at hz
  exact bits n hn hz.1.symm (by simp)
omit h hi ht hlit in
theorem ZdL {op:BinOp} {k k':IntKind} {x y:Int} {z:P} {c:List Bool} (hx:k.min≤x∧x≤k.max) (hz:Zhg op k x y=some (z,c)) (hop:op= .shl∨op= .shr)
  (hc:∀q∈c,q=true) (P:Program) (t:TypeId) (w:World):
  ∃v,(Go.binOp op t (.int k x) (.int k' y)).run P w= .ok v w∧RelP w S v z:=by
 rcases hop with rfl |rfl<;>simp only[Zhg,Option.some.injEq,Prod.mk.injEq]at hz<;>obtain⟨rfl,rfl⟩:=hz
 ·have h0:¬y < 0:=by have:=of_decide_eq_true (hc (decide (0≤y)) (by simp));omega
  exact⟨_,by simp[Go.binOp,Op.shift,h0],.int k _ (Za9 k _).1 (Za9 k _).2⟩
 ·have h0:¬y < 0:=by have:=of_decide_eq_true (hc (decide (0≤y)) (by simp));omega
  exact⟨_,by simp[Go.binOp,Op.shift,h0],.int k _ (Ze9 k x _ hx.1 hx.2).1 (Ze9 k x _ hx.1 hx.2).2⟩
omit h hi ht hlit in
theorem ZjM {op:BinOp} {x y:List UInt8} {z:P} {c:List Bool} (hz:Zmm op x y=some (z,c)) (hc:∀q∈c,q=true) (P:Program) (t:TypeId) (w:World):
  ∃v,(Go.binOp op t (.string ⟨x.toArray⟩) (.string ⟨y.toArray⟩)).run P w= .ok v w∧RelP w S v z:=by
 have rb:∀b:Bool,RelP w S (.bool b) (.bool b):=fun b=> .bool b
 cases op<;>simp only[Zmm,Option.some.injEq,Prod.mk.injEq,reduceCtorEq]at hz<;>obtain⟨rfl,rfl⟩:=hz
 case add=>
  have h0:=of_decide_eq_true (hc _ (by simp;rfl))
  refine⟨.string ⟨(x++y).toArray⟩, ?_,.str _ (by simpa using h0)⟩
  have e:(ByteArray.mk x.toArray++ByteArray.mk y.toArray)=ByteArray.mk (x++y).toArray:=by
   apply ByteArray.ext;simp
  have hs:¬(((ByteArray.mk x.toArray).size+(ByteArray.mk y.toArray).size:Nat):Int) > IntKind.i64.max:=by
   have:(ByteArray.mk x.toArray).size=x.length:=by simp[ByteArray.size]
   have:(ByteArray.mk y.toArray).size=y.length:=by simp[ByteArray.size]
   have:IntKind.i64.max=9223372036854775807:=by decide
   unfold Zr at h0
   omega
  simp only[Go.binOp,Op.stringOp,hs,if_false,e]
  rfl
 all_goals exact⟨_,by simp[Go.binOp,Op.stringOp],rb _⟩
omit h hi ht hlit in
theorem Zc5 {op:BinOp} {t:TypeId} {x y:Operand} {u v:Value} (P:Program) (w:World) (hu:(∀cs,u≠ .agg cs)∧u≠ .nilIface):(eqGuard op t x y u v).run P w= .ok () w:=by
 unfold eqGuard
 cases op<;>(try rfl)<;>cases u<;>first |rfl |(simp at hu;done)
theorem Zbo {b:BinOp} {t t':TypeId} {x y:Operand} (ho:o.op= .binOp b t x y t') {u v:P} (hu:ev C.E st.slots 0 x= .p u) (hv:ev C.E st.slots 0 y= .p v)
  (hcc:e.new=[]∧e.wr=[]∧e.frz=[]) {z:P} (hz:e.val= .p z)
  (hrun:∀p q,RelP w S p u→RelP w S q v→∃r,(Go.binOp b t p q).run C.E.prog w= .ok r w∧RelP w S r z∧((∀cs,p≠ .agg cs)∧p≠ .nilIface)):Zv C X st a w i o e:=by
 rw[ho]at hlit;simp[Op.operands]at hlit;have h1:=Zm h 0 hlit.1;have h2:=Zm h 0 hlit.2;rw[hu]at h1;rw[hv]at h2;obtain⟨r,hr,hrel,hg⟩:=hrun _ _ h1.of_p h2.of_p;refine Zv.quiet h hi ht (v:=r) ?_ hcc.1 hcc.2.1 hcc.2.2 (hz▸ .p _ _ hrel);grind[execOp,Sem.run_bind,Result.andThen_ok,Sem.run_pure,Zc5]
omit h hi ht hlit in
theorem Zl.und {E:Env} (hE:Zl E) {t:Nat} {td:TD} (h:E.td t=some td):∃d,E.prog.underlying t=some d∧Zat d td=true:=by
 unfold Env.td at h
 split at h
 rotate_left
 simp at h
 rename_i ti hti
 simp only[Option.some.injEq]at h
 obtain⟨i,d,z,hi⟩:=hE.is hti
 exact⟨d,hi.und,h▸hi.td⟩
omit h hi ht hlit in
theorem ZfR {P:Program} (w:World) (t e:TypeId) (p:Option Addr) (hu:P.underlying t=some (.pointer e)):(Op.equal t (.pointer p) (.pointer none)).run P w= .ok p.isNone w:=by
 have key:∀d,(Op.equalIn (d+1) t (.pointer p) (.pointer none)).run P w= .ok p.isNone w:=by intro d;cases p<;>simp[Op.equalIn,Za hu]
 exact key 9999
omit h hi ht hlit in
theorem Zeh {P:Program} (w:World) (t e:TypeId) (p:Option Addr) (n c:Nat) (hu:P.underlying t=some (.slice e)):(Op.equal t (.slice p n c) (.slice none 0 0)).run P w= .ok p.isNone w:=by
 have key:∀d,(Op.equalIn (d+1) t (.slice p n c) (.slice none 0 0)).run P w= .ok p.isNone w:=by intro d;cases p<;>simp[Op.equalIn,Za hu]
 exact key 9999
omit h hi ht hlit in
theorem ZeG {P:Program} (w:World) (t:TypeId) (ps rs:Array TypeId) (vr:Bool) (f:Fn) (g k:Array Value) (hu:P.underlying t=some (.func ps rs vr)):(Op.equal t (.func f g k) .nilFunc).run P w= .ok false w:=by
 have key:∀d,(Op.equalIn (d+1) t (.func f g k) .nilFunc).run P w= .ok false w:=by intro d;simp[Op.equalIn,Za hu]
 exact key 9999
omit h hi ht hlit in
theorem ZeF {P:Program} (w:World) (t:TypeId) (ps rs:Array TypeId) (vr:Bool) (hu:P.underlying t=some (.func ps rs vr)):(Op.equal t .nilFunc .nilFunc).run P w= .ok true w:=by
 have key:∀d,(Op.equalIn (d+1) t .nilFunc .nilFunc).run P w= .ok true w:=by intro d;simp[Op.equalIn,Za hu]
 exact key 9999
omit h hi ht hlit in
theorem ZeY {E:Env} (hE:Zl E) {t:TypeId} {td:TD} (htd:E.td t=some td) {y:Operand} {dx d:D} {v:Value} (hv:RelD w S ρ v dx) (hd:Zdi td y dx=some d) (w:World):
  ∃r:Bool,(Go.binOp .eql t v (a.eval y)).run E.prog w= .ok (.bool r) w∧(Go.binOp .neq t v (a.eval y)).run E.prog w= .ok (.bool !r) w∧
   (d= .p (.bool r)∨d= .anyb)∧((∀cs,v≠ .agg cs)∧v≠ .nilIface):=by
 obtain⟨ds,hu,hk⟩:=hE.und htd
 have eqp:∀e p,E.prog.underlying t=some (.pointer e)→(Op.equal t (.pointer p) (.pointer none)).run E.prog w= .ok p.isNone w:=fun e p hu=>ZfR w t e p hu
 have eqs:∀e p n c,E.prog.underlying t=some (.slice e)→(Op.equal t (.slice p n c) (.slice none 0 0)).run E.prog w= .ok p.isNone w:=fun e p n c hu=>Zeh w t e p n c hu
 have eqf:∀f g h ps rs vr,E.prog.underlying t=some (.func ps rs vr)→(Op.equal t (.func f g h) .nilFunc).run E.prog w= .ok false w:=fun f g h ps rs vr hu=>ZeG w t ps rs vr f g h hu
 have eqn:∀ps rs vr,E.prog.underlying t=some (.func ps rs vr)→(Op.equal t .nilFunc .nilFunc).run E.prog w= .ok true w:=fun ps rs vr hu=>ZeF w t ps rs vr hu
 unfold Zdi at hd
 split at hd
 ·
  have hy:a.eval (.const (.pointer none))= .pointer none:=rfl
  cases ds<;>simp[Zat]at hk
  rename_i e
  split at hd<;>simp only[Option.some.injEq,reduceCtorEq]at hd<;>subst hd
  ·cases hv with |p _ _ hv=>cases hv;exact⟨true,by simp[Go.binOp,hy,eqp e none hu],by simp[Go.binOp,hy,eqp e none hu],.inl rfl,by simp,by simp⟩
  ·cases hv with |p _ _ hv=>cases hv;exact⟨false,by simp[Go.binOp,hy,eqp e (some _) hu],by simp[Go.binOp,hy,eqp e (some _) hu],.inl rfl,by simp,by simp⟩
  ·cases hv;exact⟨false,by simp[Go.binOp,hy,eqp e (some _) hu],by simp[Go.binOp,hy,eqp e (some _) hu],.inl rfl,by simp,by simp⟩
 ·
  have hy:a.eval (.const .nilFunc)= .nilFunc:=rfl
  cases ds<;>simp[Zat]at hk
  rename_i ps rs vr
  split at hd<;>simp only[Option.some.injEq,reduceCtorEq]at hd<;>subst hd
  ·cases hv with |p _ _ hv=>cases hv;exact⟨true,by simp[Go.binOp,hy,eqn ps rs vr hu],by simp[Go.binOp,hy,eqn ps rs vr hu],.inl rfl,by simp,by simp⟩
  ·cases hv with |p _ _ hv=>cases hv;exact⟨false,by simp[Go.binOp,hy,eqf _ _ _ ps rs vr hu],by simp[Go.binOp,hy,eqf _ _ _ ps rs vr hu],.inl rfl,by simp,by simp⟩
  ·cases hv;exact⟨false,by simp[Go.binOp,hy,eqf _ _ _ ps rs vr hu],by simp[Go.binOp,hy,eqf _ _ _ ps rs vr hu],.inl rfl,by simp,by simp⟩
 ·
  have hy:a.eval (.const (.slice none 0 0))= .slice none 0 0:=rfl
  cases ds<;>simp[Zat]at hk
  rename_i e
  split at hd<;>simp only[Option.some.injEq,reduceCtorEq]at hd<;>subst hd
  ·cases hv;exact⟨true,by simp[Go.binOp,hy,eqs e none 0 0 hu],by simp[Go.binOp,hy,eqs e none 0 0 hu],.inl rfl,by simp,by simp⟩
  ·rename_i sz es
   cases hv with
   |p _ _ hv=>
    cases hv with
    |sl p len cap _ _ evs hl hm hcc hsz hcell hrel=>
     refine⟨p.isNone,by simp[Go.binOp,hy,eqs e p len cap hu],by simp[Go.binOp,hy,eqs e p len cap hu], ?_,by simp,by simp⟩
     cases es with
     |nil=>exact .inr rfl
     |cons x xs=>
      obtain⟨b,o,hp,_⟩:=hcell 0 (by simp at hl;omega)
      subst hp;exact .inl rfl
  ·rename_i id off len
   cases hv with
   |sl _ _ _ cap p L hL hl hm' hcc ha=>
    refine⟨p.isNone,by simp[Go.binOp,hy,eqs e p len cap hu],by simp[Go.binOp,hy,eqs e p len cap hu], ?_,by simp,by simp⟩
    by_cases h0:len=0
    ·simp[h0]
    ·rcases ha with ha |⟨b,_,hp,_⟩
     ·omega
     ·subst hp;simp[h0]
 ·simp at hd
include hE in
theorem ZhF {b:BinOp} {t t':TypeId} {x y:Operand} (ho:o.op= .binOp b t x y t') (hn:Operand.isNil y=true) (hc:Zf C.E st.ep i o.op o.type st.slots st.objs=some e):Zv C X st a w i o e:=by
 rw[ho]at hc hlit
 simp[Op.operands]at hlit
 have h1:=Zm h 0 hlit.1
 simp only[Zf,hn,if_true]at hc
 split at hc
 rotate_left
 simp at hc
 rename_i td htd
 split at hc
 ·rename_i d hd
  cases hc
  obtain⟨r,hr,_,hrel,hg⟩:=ZeY (a:=a) hE htd h1 hd w
  refine Zv.quiet h hi ht (v:= .bool r) (by simp only[execOp,ho,Sem.run_bind,Zc5 C.E.prog w hg,Result.andThen_ok,hr,Sem.run_pure]) rfl rfl rfl ?_
  rcases hrel with rfl |rfl
  ·exact .p _ _ (.bool _)
  ·exact .anyb _
 ·rename_i d hd
  split at hc
  rotate_left
  simp at hc
  rename_i d' hd'
  cases hc
  obtain⟨r,_,hr,hrel,hg⟩:=ZeY (a:=a) hE htd h1 hd w
  refine Zv.quiet h hi ht (v:= .bool !r) (by simp only[execOp,ho,Sem.run_bind,Zc5 C.E.prog w hg,Result.andThen_ok,hr,Sem.run_pure]) rfl rfl rfl ?_
  rcases hrel with rfl |rfl
  ·simp only[D.notb,Option.some.injEq]at hd';subst hd';exact .p _ _ (.bool _)
  ·simp only[D.notb,Option.some.injEq]at hd';subst hd';exact .anyb _
 ·simp at hc
end
end Eng
namespace Eng
open Go
section
variable {C:Ctx} {X:Nat→Prop} {ρ:Id→Option Lay} {S:Nat→Prop} {st:St} {a:Act} {w:World} {i:Nat} {o:Oper} {e:Eff}
theorem Zbv {P:Program} (w:World) (t:TypeId) (a b:Bool) (h:P.underlying t=some .bool):(Op.equal t (.bool a) (.bool b)).run P w= .ok (a == b) w:=by
 have key:∀d,(Op.equalIn (d+1) t (.bool a) (.bool b)).run P w= .ok (a == b) w:=by intro d;simp[Op.equalIn,Za h]
 exact key 9999
def Zg5 (w:World) (S:Nat→Prop) (us:Array Value) (as:List P):Prop:=us.size=as.length∧∀(i:Nat) u x,us[i]? =some u→as[i]? =some x→RelP w S u x
def Zan (ti:TI) (us:Array Value):Value:=if ti.isAgg then .agg us else us.getD 0 undef
theorem Zbd {E:Env} (hE:Zl E) {t:Nat} {ti:TI} (ht:E.ty t=some ti) (us:Array Value) (off:Nat) (hl:off+ti.size≤us.size) (w:World):
  (part t us off).run E.prog w= .ok (Zan ti (us.extract off (off+ti.size))) w:=by
 obtain⟨ii,ds,z,hi⟩:=hE.is ht;unfold part Zan;rw[Sem.run_bind,hi.isAgg w];cases hg:ti.isAgg with
 |true=>simp[Zao hi.info,hi.size]
 |false=>
  have h1:=(hi.flat hg).2;have h2:=hi.zl;have:off < us.size:=by omega
  simp_all
theorem Zkt {xs us:List P} {tds:List TD}:∀{rs:List TD} {ys vs:List P} {c:Bool},xs.length=tds.length→us.length=tds.length→
  eqt (tds++rs) (xs++ys) (us++vs)=some c→∃a b,eqt tds xs us=some a∧eqt rs ys vs=some b∧c=(a&&b):=by
 induction tds generalizing xs us with
 |nil=>
  intro rs ys vs c h1 h2 h;cases xs<;>simp at h1;cases us<;>simp at h2;exact⟨true,c,rfl,by simp_all,by simp⟩
 |cons td tds ih=>
  intro rs ys vs c h1 h2 h;cases xs with
  |nil=>simp_all
  |cons x xs=>
   cases us with
   |nil=>simp_all
   |cons u us=>
    simp only[List.cons_append,eqt]at h;split at h;rotate_left;simp at h;rename_i hok;grind[eqt]
theorem ZfS:∀{tds:List TD} {xs ys:List P} {c:Bool},eqt tds xs ys=some c→xs.length=tds.length∧ys.length=tds.length
 | [],[],[],_,_=>⟨rfl,rfl⟩
 |td::r,x::xs,y::ys,c,h=>by simp only[eqt]at h;split at h;rotate_left;simp at h;split at h;rotate_left;simp at h;rename_i hq;have:=ZfS hq;simp_all
 | [],[],_::_,_,h=>by grind[eqt]
 | [],_::_,_,_,h=>by grind[eqt]
 |_::_,[],_,_,h=>by grind[eqt]
 |_::_,_::_,[],_,h=>by grind[eqt]
theorem ZbA {E:Env} {f:Nat→Option (List TD)} {size:Nat}:∀{fs:List (Nat×Nat)} {off:Nat} {tds:List TD},ZaW E f size off fs=some tds→off+tds.length=size
 | [],off,tds,h=>by grind[ZaW]
 |(o,t)::r,off,tds,h=>by simp only[ZaW]at h;split at h;rotate_left;simp at h;split at h;rotate_left;simp at h;rename_i a ti ha hti;split at h;rotate_left;simp at h;rename_i hl;split at h;rotate_left;simp at h;rename_i b hb;cases h;have:=ZbA hb;grind
theorem Zcs {us:Array Value} {as:List P} (h:Zg5 w S us as) (o n:Nat):Zg5 w S (us.extract o (o+n)) ((as.drop o).take n):=by obtain⟨h1,h2⟩:=h;refine⟨by grind,fun i u x hu hx=> ?_⟩;grind
theorem Zdk {E:Env} (hE:Zl E) (w:World) (S:Nat→Prop) {n size d:Nat}
  (ih:∀(t:Nat) (ti:TI) tds,Zbf E n t=some tds→E.ty t=some ti→∀(us vs:Array Value) (as bs:List P) (c:Bool),Zg5 w S us as→Zg5 w S vs bs→eqt tds as bs=some c→
   (Op.equalIn d t (Zan ti us) (Zan ti vs)).run E.prog w= .ok c w):
  ∀(fs:List Field) (off:Nat) (tds:List TD),(∀f∈fs,f.name≠ "_")→ZaW E (Zbf E n) size off (fs.map fun f=>(f.offset,f.type))=some tds→
   ∀(us vs:Array Value) (as bs:List P) (c:Bool),us.size=size→vs.size=size→Zg5 w S us as→Zg5 w S vs bs→eqt tds (as.drop off) (bs.drop off)=some c→
   (Op.eqFields d us vs fs).run E.prog w= .ok c w
 | [],off,tds,_,hl,us,vs,as,bs,c,hu,hv,ha,hb,hc=>by simp only[List.map_nil,ZaW]at hl;split at hl<;>simp at hl;subst hl;have:=ZfS hc;cases hd:as.drop off<;>rw[hd]at hc this<;>cases hd':bs.drop off<;>rw[hd']at hc this<;>simp[eqt]at hc this;subst hc;rfl
 |f::fs,off,tds,hn,hl,us,vs,as,bs,c,hu,hv,ha,hb,hc=>by
  simp only[List.map_cons,ZaW]at hl;split at hl;rotate_left;simp at hl;rename_i ho;split at hl;rotate_left;simp at hl;rename_i l ti hle hti;split at hl;rotate_left;simp at hl;rename_i hlen;split at hl;rotate_left;simp at hl;rename_i r hr;cases hl;have hlr:=ZbA hr;have ea:as.drop off=(as.drop off).take ti.size++as.drop (off+ti.size):=by rw[←List.drop_drop,List.take_append_drop]
  have eb:bs.drop off=(bs.drop off).take ti.size++bs.drop (off+ti.size):=by rw[←List.drop_drop,List.take_append_drop]
  rw[ea,eb]at hc;obtain⟨p,q,h1,h2,rfl⟩:=Zkt (by simp[hlen];have:=ha.1;omega) (by simp[hlen];have:=hb.1;omega) hc;have hname:=hn f (by simp);have r1:=Zbd hE hti us f.offset (by omega) w;have r2:=Zbd hE hti vs f.offset (by omega) w;have r3:=ih f.type ti l hle hti _ _ _ _ p (Zcs ha f.offset ti.size) (Zcs hb f.offset ti.size) (by grind);simp only[Op.eqFields,ne_eq,hname,not_false_eq_true,if_true,Sem.run_bind,r1,r2,r3,Result.andThen_ok];cases p with
  |false=>simp
  |true=>
   simp only[Bool.not_true,Znv,if_false,Bool.true_and];exact Zdk hE w S ih fs (off+ti.size) r (fun g hg=>hn g (by grind)) hr us vs as bs q hu hv ha hb h2
theorem ZeH {E:Env} (hE:Zl E) (w:World) (S:Nat→Prop):∀(n d:Nat),n≤d→∀(t:Nat) (ti:TI) tds,Zbf E n t=some tds→E.ty t=some ti→
  ∀(us vs:Array Value) (as bs:List P) (c:Bool),Zg5 w S us as→Zg5 w S vs bs→eqt tds as bs=some c→(Op.equalIn d t (Zan ti us) (Zan ti vs)).run E.prog w= .ok c w:=by
 intro n
 induction n with
 |zero=>grind[Zbf]
 |succ n ih=>
  intro d hd t ti tds hf ht us vs as bs c hu hv hc;obtain⟨d,rfl⟩:∃d',d=d'+1:=⟨d - 1,by omega⟩;obtain⟨ii,ds,z,hi⟩:=hE.is ht;simp only[Zbf,ht]at hf;have hund:=hi.und;have htd:=hi.td;have one:∀td,tds=[td]→ti.isAgg=false→∃x y u v,as=[x]∧bs=[y]∧ZZ td x=true∧ZZ td y=true∧P.eqc x y=some c∧RelP w S u x∧RelP w S v y∧Zan ti us=u∧Zan ti vs=v:=by
   rintro td rfl hg;obtain⟨l1,l2⟩:=ZfS hc
   match as,bs,l1,l2 with
   | [x],[y],_,_=>
    simp only[eqt]at hc;split at hc;rotate_left;simp at hc;rename_i hok;simp only[Znu]at hok;split at hc;rotate_left;simp at hc;rename_i p q hp hq;simp only[ZnO]at hq;simp only[ZnO]at hc;subst hq;have s1:us.size=1:=by simpa using hu.1
    have s2:vs.size=1:=by simpa using hv.1
    refine⟨x,y,us[0],vs[0],rfl,rfl,hok.1,hok.2,by simp_all,hu.2 0 _ x (by simp) rfl,hv.2 0 _ y (by simp) rfl, ?_, ?_⟩
    ·simp[Zan,hg,Znp (by omega:0 < us.size)]
    ·simp[Zan,hg,Znp (by omega:0 < vs.size)]
  split at hf
  ·rename_i hb;simp only[ZnO]at hf;rw[hb]at htd;cases ds<;>simp[Zat]at htd;obtain⟨x,y,u,v,rfl,rfl,o1,o2,hec,r1,r2,e1,e2⟩:=one _ hf.symm (by grind[TI.isAgg]);cases x<;>simp[ZZ]at o1;cases y<;>simp[ZZ]at o2;simp[P.eqc]at hec;subst hec;rw[e1,e2,r1.bool_inv,r2.bool_inv];simp[Op.equalIn,Za hund]
  ·rename_i k hb;simp only[ZnO]at hf;rw[hb]at htd;cases ds<;>simp[Zat]at htd;obtain⟨x,y,u,v,rfl,rfl,o1,o2,hec,r1,r2,e1,e2⟩:=one _ hf.symm (by grind[TI.isAgg]);cases x<;>simp[ZZ]at o1;cases y<;>simp[ZZ]at o2;simp[P.eqc,←o1,←o2]at hec;subst hec;rw[e1,e2,r1.int_inv.1,r2.int_inv.1];simp[Op.equalIn,Za hund,←o1,←o2]
  ·rename_i hb;simp only[ZnO]at hf;rw[hb]at htd;cases ds<;>simp[Zat]at htd;obtain⟨x,y,u,v,rfl,rfl,o1,o2,hec,r1,r2,e1,e2⟩:=one _ hf.symm (by simp[TI.isAgg,hb]);cases x<;>simp[ZZ]at o1;cases y<;>simp[ZZ]at o2;simp[P.eqc]at hec;subst hec;rw[e1,e2,r1.str_inv.1,r2.str_inv.1];simp[Op.equalIn,Za hund,beq_toListBytes]
  ·rename_i fs hb;have heq:=hi.eq;rw[hb]at htd heq;cases ds<;>simp[Zat]at htd;rename_i gs;simp only[Znu,Bool.not_eq_true']at heq;have hag:ti.isAgg=true:=by simp[TI.isAgg,hb]
   have hfo:E.prog.fieldsOf t=gs:=by simp[Program.fieldsOf,hund]
   obtain⟨l1,l2⟩:=ZfS hc;have hlen:=ZbA hf;simp only[Zan,hag,if_true];rw[run_equalIn_struct w d t us vs (by rw[hfo];exact hund) heq.1.1,hfo];refine Zdk hE w S (ih d (by omega)) gs.toList 0 tds ?_ (by rw[htd.1];exact hf) us vs as bs c (by have:=hu.1;omega) (by have:=hv.1;omega) hu hv (by simpa using hc);intro f hfm;have:=htd.2;obtain⟨j,hj,rfl⟩:=Zns.1 (Znt.1 hfm);exact this j hj
  simp_all
variable (h:Rep C X ρ S st a.tmps w) (hi:¬X i) (ht:∀d,o.dst=some d→d < C.E.nt) (hlit:o.op.operands.all ZE=true) (hE:Zl C.E)
include h hi ht hlit hE
theorem Zjh {b:BinOp} {t t':TypeId} {x y:Operand} (ho:o.op= .binOp b t x y t') (hc:Zf C.E st.ep i o.op o.type st.slots st.objs=some e) (hcond:∀q∈e.cond,q=true):Zv C X st a w i o e:=by
 by_cases hn:Operand.isNil y=true
 ·grind[ZhF]
 rw[ho]at hc;simp only[Zf,hn,Znv,if_false]at hc;split at hc
 ·
  rename_i u v hu hv;split at hc;rotate_left;simp at hc;rename_i z htd hz;cases hc;refine Zbo h hi ht hlit ho hu hv ⟨rfl,rfl,rfl⟩ rfl fun p q hp hq=> ?_
  rw[hp.bool_inv,hq.bool_inv];obtain⟨ds,hund,hk⟩:=hE.und htd;cases ds<;>simp[Zat]at hk;cases b<;>simp only[ZkJ,ZnO,reduceCtorEq]at hz<;>subst hz
  ·exact⟨_,by simp_all[Go.binOp,Zbv],.bool _,by simp,by simp⟩
  ·exact⟨_,by simp_all[Go.binOp,Zbv],.bool _,by simp,by simp⟩
 ·
  rename_i us vs hu hv;split at hc;rotate_left;simp at hc;rename_i z hz;cases hc;rw[ho]at hlit;simp[Op.operands]at hlit;have h1:=Zm h 0 hlit.1;have h2:=Zm h 0 hlit.2;rw[hu]at h1;rw[hv]at h2;generalize hp:a.eval x=p at h1;generalize hq:a.eval y=q at h2;cases h1 with |p _ _ h1=>cases h2 with |p _ _ h2=>cases h1 with |agg ps _ l1 o1 r1=>cases h2 with |agg qs _ l2 o2 r2=>
  unfold Zm6 at hz;split at hz;rotate_left;simp at hz;rename_i fs tds htd htds;have key:∀c,eqt tds us vs=some c→(Op.equal t (.agg ps) (.agg qs)).run C.E.prog w= .ok c w∧(eqGuard b t x y (.agg ps) (.agg qs)).run C.E.prog w= .ok () w:=by
   intro c hc;cases hty:C.E.ty t with
   |none=>grind[Env.td]
   |some ti=>
    simp only[Env.td,hty,ZnO]at htd;obtain⟨ii,ds,z,hi⟩:=hE.is hty;have hag:ti.isAgg=true:=by grind[TI.isAgg]
    have:=ZeH hE w S depth 10000 (by decide) t ti tds htds hty ps qs us vs c ⟨l1,r1⟩ ⟨l2,r2⟩ hc;simp only[Zan,hag,if_true]at this;refine⟨this,run_eqGuard_agg w b t x y ps qs ?_⟩;have:=hi.eq;simp_all
  split at hz
  ·rename_i c hc;cases hz;obtain⟨k1,k2⟩:=key c hc;exact Zv.quiet h hi ht (v:= .bool c) (by simp_all[execOp,Go.binOp]) rfl rfl rfl (.p _ _ (.bool _))
  ·rename_i c hc;cases hz;obtain⟨k1,k2⟩:=key c hc;exact Zv.quiet h hi ht (v:= .bool !c) (by simp_all[execOp,Go.binOp]) rfl rfl rfl (.p _ _ (.bool _))
  simp_all
 ·
  rename_i u v _ _ hu hv;split at hc;rotate_left;simp at hc;rename_i z c hz;cases hc;refine Zbo h hi ht hlit ho hu hv ⟨rfl,rfl,rfl⟩ rfl fun p q hp hq=> ?_
  unfold Zm0 at hz;split at hz
  ·rename_i k m k' n;rw[hp.int_inv.1,hq.int_inv.1];split at hz
   ·obtain⟨r,h1,h2⟩:=ZdL (S:=S) hp.int_inv.2 hz (.inl rfl) hcond C.E.prog t w;exact⟨r,h1,h2,by simp,by simp⟩
   ·obtain⟨r,h1,h2⟩:=ZdL (S:=S) hp.int_inv.2 hz (.inr rfl) hcond C.E.prog t w;exact⟨r,h1,h2,by simp,by simp⟩
   ·split at hz;rotate_left;simp at hz;rename_i hk;subst hk;obtain⟨r,h1,h2⟩:=Zkm (S:=S) hp.int_inv.2 hz hcond C.E.prog t w;exact⟨r,h1,h2,by simp,by simp⟩
  ·rw[hp.str_inv.1,hq.str_inv.1];obtain⟨r,h1,h2⟩:=ZjM (S:=S) hz hcond C.E.prog t w;exact⟨r,h1,h2,by simp,by simp⟩
  simp_all
 simp_all
end
section
variable {C:Ctx} {X:Nat→Prop} {ρ:Id→Option Lay} {S:Nat→Prop} {st:St} {a:Act} {w:World} {i:Nat}
theorem Rep.takeOut (h:Rep C X ρ S st a.tmps w) {t:Option Nat} (hi:¬X i) (ht:∀d,t=some d→d < C.E.nt) {id:Id} {i' sz c k lo:Nat} {es cs l:List P} {L:Lay} {b:Nat} {v:Value}
  (hlk:st.objs id=some (.own sz c k es lo none)) (hilo:i' < lo) (hfz:st.fz id=false) (hes:es[i']? =some (.agg cs)) (hcs:cs[c]? =some (.sl k l)) (hL:ρ id=some L) (hb:L.blk=some b)
  (hv:w.cell? ⟨b,L.base+i'*sz+c,none⟩=some v):
  ∃ρ' S',Rep C (fun j=>X j∨j=i) ρ' S' (st.app i t {val:= .sl (st.ep,i,0) 0 l.length,new:=[(0,.arr k l false)],wr:=[(id,.own sz c k es lo (some i'))]}) (a.put t v).tmps w:=by
 obtain⟨κ,F⟩:=h.fam;have hk:Kid st.objs st.fz id i' sz c k l:=⟨es,lo,none,cs,hlk,hfz,hes,hcs,hilo,by simp⟩;obtain⟨b',v',hb',hv',hr,hro⟩:=F.kid _ _ _ _ _ _ L hk hL;rw[hb]at hb';obtain rfl:=ZnN hb';rw[hv]at hv';obtain rfl:=ZnN hv';let ρ':Id→Option Lay:=upd ρ (st.ep,i,0) (some (κ id i'));have fr:ρ (st.ep,i,0)=none:=by
  cases hc:ρ (st.ep,i,0)with
  |none=>rfl
  |some L=>have:=h.young (st.ep,i,0) (by grind);simp_all
 have hρ:∀id L,ρ id=some L→ρ' id=some L:=by
  grind[upd]
 have hbox:ρ' (st.ep,i,0)=some (κ id i'):=by grind[upd]
 have kw:ZbM S w w:=fun _ _ _=>rfl
 have ne:id≠(st.ep,i,0):=fun e=>by simp_all
 obtain⟨S',hrep⟩:=h.stepG (i:=i) (t:=t) (e:={val:= .sl (st.ep,i,0) 0 l.length,new:=[(0,.arr k l false)],wr:=[(id,.own sz c k es lo (some i'))]}) (v:=v) (w':=w) ρ' hi ht (ZnJ _) (ZQ.refl _) (fun _ _ _=>rfl)
  (fun id1 o hm=>by simp_all) hρ
  (fun id1 hn=>by
   grind[upd]) (by simp)
  (fun k1 o hm=>by simp only[ZnF,ZnP]at hm;obtain⟨rfl,rfl⟩:=hm;refine⟨κ id i',hbox,fun b1 hb1=> ?_,fun S' hS _ _=>hro.mono kw hS (ρ':=ρ') (fun _ _ h=>by grind) fun _ _=>rfl⟩;have:=F.own _ _ _ _ _ _ b1 hk hb1;grind)
  (fun k1 o1 L1 k2 o2 L2 b1 hm _ _ _ hm2 _ _ _=>by simp_all)
  (fun id1 o L1 hm _ hL1 S' hS _=>by
   simp only[ZnF,ZnP]at hm;obtain⟨rfl,rfl⟩:=hm;obtain⟨L2,hL2,hro2⟩:=h.objs id1 _ hlk (by simp);rw[hL1]at hL2;obtain rfl:=ZnN hL2;have:=hro2.mono kw hS hρ fun _ _=>rfl
   exact this)
  (fun S' hS _ d _=>by
   cases hr with
   |sl _ _ _ cap ad Lk hLk hl hm hc ha=>
    cases hLk;exact .sl _ _ _ cap ad _ hbox hl hm hc ha)
  (fun S' hS hS' _=>by
   have hS0:∀b,S' b→S b:=fun b hb=>(hS' b hb).elim (fun h=>h) fun⟨_,_,_,hm,_⟩=>by simp_all
   have rold:∀id L,ρ id≠none→ρ' id=some L→ρ id=some L:=fun id L hn hL=>by
    cases hc:ρ id with
    |none=>simp_all
    |some L0=>simp_all
   generalize he:(st.app i t {val:= .sl (st.ep,i,0) 0 l.length,new:=[(0,.arr k l false)],wr:=[(id,.own sz c k es lo (some i'))]})=st2;have hob:∀id1 o,st2.objs id1=some o→(id1=(st.ep,i,0)∧o= .arr k l false)∨(id1=id∧o= .own sz c k es lo (some i'))∨(id1≠id∧st.objs id1=some o):=by
    intro id1 o ho;rw[←he]at ho;rcases ZK st i t _ id1 o ho with ⟨k1,rfl,hm⟩ |hm |⟨hn,ho⟩
    all_goals simp_all
   have hf2:∀id1,st2.fz id1=st.fz id1:=fun id1=>by grind[ZbK]
   have ko:∀{id1 i1 sz1 c1 k1 l1},Kid st2.objs st2.fz id1 i1 sz1 c1 k1 l1→Kid st.objs st.fz id1 i1 sz1 c1 k1 l1∧¬(id=id1∧i'=i1):=by
    rintro id1 i1 sz1 c1 k1 l1 ⟨es1,lo1,out1,cs1,ho,hf,q1,q2,q0,q3⟩;rw[hf2]at hf;rcases hob _ _ ho with ⟨_,ho⟩ |⟨rfl,ho⟩ |⟨hne,ho⟩
    ·simp_all
    ·simp only[Obj.own.injEq]at ho;obtain⟨rfl,rfl,rfl,rfl,rfl,rfl⟩:=ho;exact⟨⟨es1,_,none,cs1,hlk,hf,q1,q2,q0,by simp⟩,fun⟨_,e⟩=>q3 (by rw[e])⟩
    ·exact⟨⟨es1,lo1,out1,cs1,ho,hf,q1,q2,q0,q3⟩,fun e=>hne e.1.symm⟩
   refine⟨κ,fun id1 i1 sz1 c1 k1 l1 L1 hk1 hL1=> ?_,fun id1 i1 sz1 c1 k1 l1 b1 hk1 hb1=> ?_,fun id1 i1 sz1 c1 k1 l1 id2 i2 sz2 c2 k2 l2 b1 h1 h2 h3 h4=>F.inj _ _ _ _ _ _ _ _ _ _ _ _ b1 (ko h1).1 (ko h2).1 h3 h4⟩
   ·obtain⟨hk0,_⟩:=ko hk1;have hk2:=hk0;obtain⟨es1,lo1,out1,cs1,ho,_⟩:=hk2;obtain⟨b1,v1,q1,q2,q3,q4⟩:=F.kid _ _ _ _ _ _ L1 hk0 (rold id1 L1 (h.known id1 (by grind)) hL1);exact⟨b1,v1,q1,q2,q3.mono kw hS (fun _ _ h=>h),q4.mono kw hS (fun _ _ h=>h) fun _ _=>rfl⟩
   ·obtain⟨hk0,hne⟩:=ko hk1;obtain⟨q1,q2,q3,q4⟩:=F.own _ _ _ _ _ _ b1 hk0 hb1;refine⟨q1,q2,fun hs=>q3 (hS0 _ hs),fun id2 o2 L2 ho2 hg2 hL2 hb2=> ?_⟩;rcases hob _ _ ho2 with ⟨rfl,ho⟩ |⟨rfl,ho⟩ |⟨_,ho⟩
    ·rw[hbox]at hL2;obtain rfl:=ZnN hL2;exact hne (F.inj _ _ _ _ _ _ _ _ _ _ _ _ b1 hk hk0 hb2 hb1)
    ·exact q4 id2 _ L2 hlk (by simp) (rold id2 L2 (h.known id2 (by simp[hlk])) hL2) hb2
    ·exact q4 id2 o2 L2 ho hg2 (rold id2 L2 (h.known id2 (by simp[ho])) hL2) hb2)
 grind
end
end Eng
namespace Eng
open Go
section
variable {C:Ctx} {X:Nat→Prop} {ρ:Id→Option Lay} {S:Nat→Prop} {st:St} {a:Act} {w:World} {i:Nat} {o:Oper} {e:Eff}
theorem Z8 (b o n:Nat):(⟨b,o,none⟩:Addr).add n=⟨b,o+n,none⟩:=by
 grind[Addr.add]
theorem Zl.struct {E:Env} (hE:Zl E) {t:Nat} {ti:TI} {fs:List (Nat×Nat)} (ht:E.ty t=some ti) (hd:ti.d= .struct fs):
  ∃gs:Array Field,E.prog.underlying t=some (.struct gs)∧gs.toList.map (fun f=>(f.offset,f.type))=fs:=by
 obtain⟨ii,ds,z,hi⟩:=hE.is ht;have:=hi.td;rw[hd]at this;cases hds:ds<;>rw[hds]at this<;>simp[Zat]at this;exact⟨_,by rw[←hds];exact hi.und,this.1⟩
theorem Zl.slice {E:Env} (hE:Zl E) {t:Nat} {ti:TI} {e:Nat} (ht:E.ty t=some ti) (hd:ti.d= .sl e):E.prog.underlying t=some (.slice e):=by obtain⟨ii,ds,z,hi⟩:=hE.is ht;have:=hi.td;rw[hd]at this;cases hds:ds<;>rw[hds]at this<;>simp[Zat]at this;subst this;rw[←hds];exact hi.und
theorem Zl.array {E:Env} (hE:Zl E) {t:Nat} {ti:TI} {m e:Nat} (ht:E.ty t=some ti) (hd:ti.d= .arr m e):E.prog.underlying t=some (.array m e):=by obtain⟨ii,ds,z,hi⟩:=hE.is ht;have:=hi.td;rw[hd]at this;cases hds:ds<;>rw[hds]at this<;>simp[Zat]at this;obtain⟨rfl,rfl⟩:=this;rw[←hds];exact hi.und
theorem Zl.map {E:Env} (hE:Zl E) {t:Nat} {ti:TI} {k e:Nat} (ht:E.ty t=some ti) (hd:ti.d= .map k e):E.prog.underlying t=some (.map k e):=by obtain⟨ii,ds,z,hi⟩:=hE.is ht;have:=hi.td;rw[hd]at this;cases hds:ds<;>rw[hds]at this<;>simp[Zat]at this;obtain⟨rfl,rfl⟩:=this;rw[←hds];exact hi.und
theorem Zl.str {E:Env} (hE:Zl E) {t:Nat} (hd:E.td t=some .str):E.prog.underlying t=some .string:=by obtain⟨ds,hu,hk⟩:=hE.und hd;grind[Zat]
theorem Zl.info {E:Env} (hE:Zl E) {t:Nat} {ti:TI} (ht:E.ty t=some ti):∃ii,E.prog.info? t=some ii∧ii.size=ti.size∧ii.bytes=ti.bytes:=by obtain⟨ii,ds,z,hi⟩:=hE.is ht;exact⟨ii,hi.info,hi.size,hi.bytes⟩
variable (h:Rep C X ρ S st a.tmps w) (hi:¬X i) (ht:∀d,o.dst=some d→d < C.E.nt) (hlit:o.op.operands.all ZE=true) (hE:Zl C.E)
include h hi ht hlit
theorem Zkx {u:UnOp} {t:TypeId} {x:Operand} (ho:o.op= .unOp u t x) (hc:Zf C.E st.ep i o.op o.type st.slots st.objs=some e) (hcond:∀q∈e.cond,q=true):Zv C X st a w i o e:=by
 rw[ho]at hc hlit;simp[Op.operands]at hlit;have h1:=Zm h 0 hlit;simp only[Zf]at hc;split at hc;rotate_left;simp at hc;rename_i v hv;rw[hv]at h1;have h2:=h1.of_p;split at hc;rotate_left;simp at hc;rename_i z c hz;cases hc;unfold unop at hz;split at hz
 ·rename_i k n;obtain⟨e1,e2⟩:=h2.int_inv;split at hz
  ·obtain⟨rfl,rfl⟩:(ZaJ k (0 - n)).1=z∧(ZaJ k (0 - n)).2=c:=by simp_all
   exact Zv.quiet h hi ht (v:= .int k (k.wrap (0 - n))) (by simp_all[execOp,Op.unary,Op.intArith]) rfl rfl rfl (.p _ _ (ZaI k _ hcond))
  ·split at hz;rotate_left;simp at hz;rename_i m hm;simp only[ZnO,ZnP]at hz;obtain⟨rfl,rfl⟩:=hz;refine Zv.quiet h hi ht (v:= .int k m) ?_ rfl rfl rfl (.p _ _ (.int k m (ZdB hm).1 (ZdB hm).2));simp_all[ZfZ,execOp,Op.unary,Op.intBits]
  simp_all
 ·rename_i b;have e1:=h2.bool_inv;split at hz;rotate_left;simp at hz;simp only[ZnO,ZnP]at hz;obtain⟨rfl,rfl⟩:=hz;exact Zv.quiet h hi ht (v:= .bool !b) (by simp_all[execOp,Op.unary]) rfl rfl rfl (.p _ _ (.bool _))
 simp_all
include hE
theorem ZeK {t:TypeId} {x:Operand} {f:Nat} (ho:o.op= .fieldAddr t x f) (hc:Zf C.E st.ep i o.op o.type st.slots st.objs=some e):Zv C X st a w i o e:=by
 rw[ho]at hc hlit;simp[Op.operands]at hlit;have h1:=Zm h 0 hlit;simp only[Zf]at hc;split at hc;rotate_left;simp at hc;rename_i fs sz by_ ze hty;split at hc;rotate_left;simp at hc;rename_i off ft hf;split at hc;rotate_left;simp at hc;rename_i tf htf;obtain⟨gs,hu,hgs⟩:=hE.struct hty rfl;obtain⟨ii,hinfo,hsz,_⟩:=hE.info htf;have hg:∃g,gs[f]? =some g∧g.offset=off∧g.type=ft:=by grind
 obtain⟨g,hg,rfl,rfl⟩:=hg;split at hc
 ·simp_all
 ·rename_i hsz0;have run:∀b o',a.eval x= .pointer (some ⟨b,o',none⟩)→(execOp a.eval o).run C.E.prog w= .ok (.value (.pointer (some ⟨b,o'+g.offset,none⟩))) w:=by simp_all[execOp,Instr.fieldAt,Instr.sureAddr,fieldPlace,Z8,Za,Zao]
  split at hc
  ·rename_i cs hv;cases hc;rw[hv]at h1;generalize hp:a.eval x=p at h1;cases h1 with |p _ _ h1=>cases h1 with |ptr b o' _ vs hS hcell h1 hr=>
   refine Zv.quiet h hi ht (run b o' hp) rfl rfl rfl (.p _ _ (.ptr b (o'+g.offset) _ (fun j=>vs (g.offset+j)) hS (fun j c hj=> ?_) (fun j c hj=> ?_) (fun j c hj=> ?_)))
   all_goals grind
  ·rename_i id i' j hv;cases hc;rw[hv]at h1;generalize hp:a.eval x=p at h1;cases h1 with |ptr _ _ _ L b hL hil hb=>
   refine Zv.quiet h hi ht (run b _ hp) rfl rfl rfl ?_;rw[ZnH];exact .ptr id i' (j+g.offset) L b hL hil hb
  ·rename_i y id hv;rw[hv]at h1;generalize hp:a.eval x=p at h1;cases h1 with |rp _ _ b o' r u L hS hx hm hL hb=>
   obtain⟨q1,q2,q3⟩:=hx y rfl;split at hc
   ·rename_i h0;cases hc;refine Zv.quiet h hi ht (run b o' hp) rfl rfl rfl (.p _ _ (.ptr b (o'+g.offset) [y] (fun _=>u) hS (fun j c hj=> ?_) (fun j c hj=> ?_) (fun j c hj=> ?_)))
    all_goals
     match j,hj with
     |0,hj=>
      obtain rfl:=ZnN hj
      first |(rw[h0];exact q1) |exact q2 |exact q3
     |j+1,hj=>simp at hj
   ·rename_i h0;cases hc;refine Zv.quiet h hi ht (run b o' hp) rfl rfl rfl ?_;rw[h0];exact .rp none id b (o'+1) r u L hS (fun _ h=>by simp at h) hm hL hb
   ·simp at hc
  simp_all
omit h hi ht hlit in
theorem Zcg {t:TypeId} {ti:TI} (hty:C.E.ty t=some ti) (b o':Nat) (us:List Value) (hl:us.length=ti.size) (hcell:∀(j:Nat) u,us[j]? =some u→w.cell? ⟨b,o'+j,none⟩=some u):
  (loadVar t ⟨b,o',none⟩).run C.E.prog w= .ok (Zan ti us.toArray) w:=by
 obtain⟨ii,ds,z,hi⟩:=hE.is hty
 unfold loadVar Zan
 rw[Sem.run_bind,hi.isAgg w]
 cases hg:ti.isAgg with
 |true=>
  have hlc:=run_loadCells_list (P:=C.E.prog) w ⟨b,o',none⟩ us (fun j v hj=>by rw[Z8];exact hcell j v hj)
  simp[Zao hi.info,hi.size,←hl,hlc]
 |false=>
  have h1:=(hi.flat hg).2
  have h2:=hi.zl
  match us,hl with
  | [u],_=>
   have:=hcell 0 u rfl
   simp at this
   simp[this]
  | [],hl=>simp at hl;omega
  |_::_::_,hl=>simp at hl;omega
omit h hi ht hlit hE in
theorem Zbz {ti:TI} {cs:List P} {x:P} (hx:Zdp ti cs=some x) (hg:ti.isAgg=false→ti.size=1):
  ti.size≤cs.length∧∀us:List Value,us.length=ti.size→(∀(j:Nat) u c,us[j]? =some u→cs[j]? =some c→RelP w S u c∧Zbp u)→RelP w S (Zan ti us.toArray) x:=by
 unfold Zdp at hx
 cases hag:ti.isAgg with
 |true=>
  simp only[hag,if_true]at hx
  split at hx
  rotate_left
  simp at hx
  rename_i hle
  cases hx
  refine⟨hle,fun us hl hr=> ?_⟩
  simp only[Zan,hag,if_true]
  refine .agg _ _ (by simp;omega) (fun j u hu=> ?_) (fun j u c hu hc=> ?_)
  ·have hlt:j < ti.size:=by have:=(Array.getElem?_eq_some_iff.1 hu).1;simpa[hl]using this
   have hu':us[j]? =some u:=by simpa using hu
   exact(hr j u cs[j] hu' (by simp)).2
  ·rw[List.getElem?_take]at hc
   split at hc
   rotate_left
   simp at hc
   exact(hr j u c (by simpa using hu) hc).1
 |false=>
  simp only[hag,Bool.false_eq_true,if_false]at hx
  have h1:=hg hag
  cases cs with
  |nil=>simp at hx
  |cons c cs=>
   simp only[List.head?_cons,Option.some.injEq]at hx;subst hx
   refine⟨by simp;omega,fun us hl hr=> ?_⟩
   match us,hl with
   | [u],_=>simp only[Zan,hag];simpa using (hr 0 u c rfl rfl).1
   | [],hl=>simp at hl;omega
   |_::_::_,hl=>simp at hl;omega
omit h hi ht hlit hE in
theorem TIs.one {p:Program} {t:Nat} {ti:TI} {i:TypeInfo} {d:TypeDesc} {z:Value} (h:TIs p t ti i d z) (hg:ti.isAgg=false):ti.size=1:=by
 have:=(h.flat hg).2;have:=h.zl;omega
omit h hi ht hlit hE in
theorem Zd1 {ti:TI} {cs:List D} {x:D} (hx:ZfK ti cs=some x) (hg:ti.isAgg=false→ti.size=1):
  ti.size≤cs.length∧∀us:List Value,us.length=ti.size→(∀(j:Nat) u c,us[j]? =some u→cs[j]? =some c→RelD w S ρ u c∧Zbp u)→RelD w S ρ (Zan ti us.toArray) x:=by
 unfold ZfK at hx
 cases hag:ti.isAgg with
 |true=>
  simp only[hag,if_true]at hx
  split at hx
  rotate_left
  simp at hx
  rename_i hle
  cases hx
  refine⟨hle,fun us hl hr=> ?_⟩
  simp only[Zan,hag,if_true]
  have ho:∀(j:Nat) u,us.toArray[j]? =some u→Zbp u:=fun j u hu=>by
   have hlt:j < ti.size:=by have:=(Array.getElem?_eq_some_iff.1 hu).1;simpa[hl]using this
   have hu':us[j]? =some u:=by simpa using hu
   exact(hr j u cs[j] hu' (by simp)).2
  have hh:∀(j:Nat) u c,us.toArray[j]? =some u→(cs.take ti.size)[j]? =some c→RelD w S ρ u c:=fun j u c hu hc=>by
   rw[List.getElem?_take]at hc
   split at hc
   rotate_left
   simp at hc
   exact(hr j u c (by simpa using hu) hc).1
  unfold D.mkAgg
  split
  ·rename_i ps hps
   have he:=Zx hps
   have hl':=congrArg List.length he
   simp at hl'
   refine .p _ _ (.agg _ _ (by simp;omega) ho fun j u c hu hc=>(hh j u (.p c) hu (by rw[he];simp[hc])).of_p)
  ·exact .agg _ _ (by simp;omega) ho hh
 |false=>
  simp only[hag,Bool.false_eq_true,if_false]at hx
  have h1:=hg hag
  cases cs with
  |nil=>simp at hx
  |cons c cs=>
   simp only[List.head?_cons,Option.some.injEq]at hx;subst hx
   refine⟨by simp;omega,fun us hl hr=> ?_⟩
   match us,hl with
   | [u],_=>simp only[Zan,hag];simpa using (hr 0 u c rfl rfl).1
   | [],hl=>simp at hl;omega
   |_::_::_,hl=>simp at hl;omega
theorem ZkB {t:TypeId} {x:Operand} (ho:o.op= .load t x) (hc:Zf C.E st.ep i o.op o.type st.slots st.objs=some e) (hw:Zdu st e=true):Zv C X st a w i o e:=by
 rw[ho]at hc hlit;simp[Op.operands]at hlit;have h1:=Zm h 0 hlit;simp only[Zf]at hc;split at hc;rotate_left;simp at hc;rename_i ti hty;obtain⟨ii,ds,z,hti⟩:=hE.is hty;have run:∀b o' (us:List Value),a.eval x= .pointer (some ⟨b,o',none⟩)→us.length=ti.size→(∀(j:Nat) u,us[j]? =some u→w.cell? ⟨b,o'+j,none⟩=some u)→
   (execOp a.eval o).run C.E.prog w= .ok (.value (Zan ti us.toArray)) w:=by
  intro b o' us hv hl hcell;simp[execOp,ho,hv,Instr.loadAt,Instr.sureAddr,Zcg hE hty b o' us hl hcell]
 split at hc
 ·rename_i cs hv;split at hc;rotate_left;simp at hc;rename_i y hy;cases hc;rw[hv]at h1;generalize hp:a.eval x=p at h1;cases h1 with |p _ _ h1=>cases h1 with |ptr b o' _ vs hS hcell h1 hr=>
  obtain⟨hle,hrel⟩:=Zbz (w:=w) (S:=S) hy hti.one;have get:∀(j:Nat) u,((List.range ti.size).map vs)[j]? =some u→j < ti.size∧u=vs j:=by
   grind
  refine Zv.quiet h hi ht (run b o' ((List.range ti.size).map vs) hp (by simp) fun j u hu=> ?_) rfl rfl rfl (.p _ _ (hrel _ (by simp) fun j u c hu hc=> ?_))
  all_goals grind
 ·rename_i id i' j hv;rw[hv]at h1;generalize hp:a.eval x=p at h1;cases h1 with |ptr _ _ _ L b hL hil hb=>
  split at hc
  ·
   rename_i cs hlk;split at hc;rotate_left;simp at hc;rename_i hi0;subst hi0;split at hc;rotate_left;simp at hc;rename_i d hd;cases hc;obtain⟨hle,hrel⟩:=Zd1 (w:=w) (S:=S) (ρ:=ρ) hd hti.one;obtain⟨L',hL',b',hb',hsz,hln,hcs⟩:=h.objs id _ hlk (by simp);rw[hL]at hL';obtain rfl:=ZnN hL';rw[hb]at hb';obtain rfl:=ZnN hb';have get:∀k,k < ti.size→∃u,w.cell? ⟨b,L.base+0*L.sz+j+k,none⟩=some u∧Zbp u∧∀c,(cs.drop j)[k]? =some c→RelD w S ρ u c:=by intro k hk;simp at hle;obtain⟨u,hu,_,h1,hr⟩:=hcs (j+k) cs[j+k] (by simp);grind
   have gets:∀(k:Nat) u,((List.range ti.size).map fun k=>(w.cell? ⟨b,L.base+0*L.sz+j+k,none⟩).getD default)[k]? =some u→
     w.cell? ⟨b,L.base+0*L.sz+j+k,none⟩=some u∧Zbp u∧∀c,(cs.drop j)[k]? =some c→RelD w S ρ u c:=by
    intro k u hu;have hlt:k < ti.size:=by grind
    grind[List.getElem?_range]
   exact Zv.quiet h hi ht (run b _ _ hp (by simp) fun k u hu=>(gets k u hu).1) rfl rfl rfl (hrel _ (by simp) fun k u c hu hc=>⟨(gets k u hu).2.2 c hc,(gets k u hu).2.1⟩)
  ·
   rename_i sz es fix hlk;split at hc;rotate_left;simp at hc;rename_i y hy;cases hc;obtain⟨L',hL',hsz,hel,hlc,hlm,hbn,hcells,evs,hev,hcell,hrel⟩:=h.objs id _ hlk (by simp);rw[hL]at hL';obtain rfl:=ZnN hL';obtain⟨hle,hre⟩:=Zbz (w:=w) (S:=S) hy hti.one;have hie:i' < es.length:=by omega
   have hge:es.getD i' default=es[i']:=by simp[hie]
   rw[hge]at hle hre;have hri:=hrel i' es[i'] (by simp[hie]);have get:∀(k:Nat) u,(((evs i').cells.toList.drop j).take ti.size)[k]? =some u→k < ti.size∧(evs i').cells[j+k]? =some u:=by intro k u hu;rw[ZnC]at hu;split at hu;rotate_left;simp at hu;rename_i hk;rw[Znz]at hu;exact⟨hk,by simpa using hu⟩
   have hcl:=hri.size;refine Zv.quiet h hi ht (run b _ (((evs i').cells.toList.drop j).take ti.size) hp (by simp at hle⊢;omega) fun k u hu=> ?_) rfl rfl rfl (.p _ _ (hre _ (by simp at hle⊢;omega) fun k u c hu hc=> ?_))
   ·have:=hcell b hb i' (j+k) u hil (get k u hu).2;rw[hsz,←this];congr 2;omega
   ·rw[Znz]at hc;exact hri.cell (get k u hu).2 hc
  ·
   rename_i sz c k es lo out hlk;split at hc;rotate_left;simp at hc;rename_i cs hes;split at hc
   ·
    rename_i hlo;split at hc;rotate_left;simp at hc;rename_i y hy;cases hc;obtain⟨L',hL',hsz,hel,hlc,hlm,hcz,hbn,hcells,hrel⟩:=h.objs id _ hlk (by simp);rw[hL]at hL';obtain rfl:=ZnN hL';subst hsz;obtain⟨hle,hre⟩:=Zbz (w:=w) (S:=S) hy hti.one;obtain⟨cs0,l0,q1,q2,q3,q4⟩:=hrel i' _ hes;simp only[P.agg.injEq]at q1;subst q1;simp at hle;have hmul:(i'+1)*L.sz≤L.cap*L.sz:=ZnK _ (by omega);rw[ZnI,Nat.one_mul]at hmul;have get:∀m,m < ti.size→∃u,w.cell? ⟨b,L.base+i'*L.sz+j+m,none⟩=some u∧Zbp u∧∀x,(cs.drop j)[m]? =some x→RelP w S u x:=by
     intro m hm;obtain⟨⟨u,hu⟩,_⟩:=hcells b hb (i'*L.sz+(j+m)) (by omega);rw[←ZnH]at hu;have hx:cs[j+m]? =some (cs[j+m]'(by omega)):=by simp
     have r:=q4 b hb (j+m) _ u hx hu;refine⟨u,by rw[←hu];congr 2;omega,r.1,fun x hx'=> ?_⟩;rw[Znz,hx]at hx';obtain rfl:=ZnN hx';exact r.2 (.inr hlo)
    have gets:∀(m:Nat) u,((List.range ti.size).map fun m=>(w.cell? ⟨b,L.base+i'*L.sz+j+m,none⟩).getD default)[m]? =some u→
      w.cell? ⟨b,L.base+i'*L.sz+j+m,none⟩=some u∧Zbp u∧∀x,(cs.drop j)[m]? =some x→RelP w S u x:=by
     intro m u hu;have hlt:m < ti.size:=by have:=(ZnA.1 hu).1;simpa using this
     obtain⟨u',hu',h1,h2⟩:=get m hlt;simp only[ZnB,List.getElem?_range hlt,Option.map_some,hu',ZnL,ZnO]at hu;subst hu;exact⟨hu',h1,h2⟩
    exact Zv.quiet h hi ht (run b _ _ hp (by simp) fun m u hu=>(gets m u hu).1) rfl rfl rfl (.p _ _ (hre _ (by simp) fun m u x hu hx=>⟨(gets m u hu).2.2 x hx,(gets m u hu).2.1⟩))
   rename_i hlo;split at hc;rotate_left;simp at hc;rename_i k' l hcs;split at hc;rotate_left;simp at hc;rename_i hcnd;obtain⟨rfl,rfl,hs1,hag⟩:=hcnd;cases hc;have hfz:st.fz id=false:=by simpa[Zdu]using hw
   obtain⟨L',hL',hsz,hel,hlc,hlm,hcz,hbn,hcells,hrel⟩:=h.objs id _ hlk (by simp);rw[hL]at hL';obtain rfl:=ZnN hL';subst hsz;have hmul:(i'+1)*L.sz≤L.cap*L.sz:=ZnK _ (by omega);rw[ZnI,Nat.one_mul]at hmul;obtain⟨⟨v,hv'⟩,_⟩:=hcells b hb (i'*L.sz+j) (by omega);rw[←ZnH]at hv';obtain⟨ρ',S',hrep⟩:=h.takeOut (t:=o.dst) hi ht hlk (by omega) hfz hes hcs hL hb hv';refine⟨_,v,w, ?_,.inl rfl,ρ',S',hrep⟩;have:=run b _ [v] hp (by simp[hs1]) fun m u hu=>by
    cases m with
    |zero=>simp only[Zny,ZnO]at hu;subst hu;exact hv'
    |succ m=>simp at hu
   rw[this];simp[Zan,hag]
  simp_all
 ·rename_i id hv;split at hc;rotate_left;simp at hc;rename_i hs;cases hc;rw[hv]at h1;generalize hp:a.eval x=p at h1;cases h1 with |rp _ _ b o' r u L hS hx hm hL hb=>
  have hr:=run b o' [.map (some r)] hp (by simp[hs.1]) fun m v hv=>by
   cases m with
   |zero=>simp only[Zny,ZnO]at hv;subst hv;exact hm
   |succ m=>simp at hv
  refine Zv.quiet h hi ht hr rfl rfl rfl ?_;simp only[Zan,hs.2];exact .map id L r hL hb
 simp_all
end
end Eng
namespace Eng
open Go
section
variable {C:Ctx} {X:Nat→Prop} {ρ:Id→Option Lay} {S:Nat→Prop} {st:St} {a:Act} {w:World} {i:Nat} {o:Oper} {e:Eff}
theorem Zba (l:List UInt8):(ByteArray.mk l.toArray).size=l.length:=by simp[ByteArray.size]
theorem ZN {E:Env} (hE:Zl E) {t:Nat} {ti:TI} (ht:E.ty t=some ti) (w:World):(Go.sizeOf t).run E.prog w= .ok ti.size w:=by obtain⟨ii,hinfo,hsz,_⟩:=hE.info ht;grind[Zao]
theorem ZbX {v:Value} {k:IntKind} {n:Int} (h:RelD w S ρ v (.p (.int k n))):v= .int k n∧k.min≤n∧n≤k.max:=h.of_p.int_inv
variable (h:Rep C X ρ S st a.tmps w) (hi:¬X i) (ht:∀d,o.dst=some d→d < C.E.nt) (hlit:o.op.operands.all ZE=true) (hE:Zl C.E)
include h hi ht hlit hE
theorem Zje {t:TypeId} {x:Operand} {f:Nat} (ho:o.op= .field t x f) (hc:Zf C.E st.ep i o.op o.type st.slots st.objs=some e):Zv C X st a w i o e:=by
 rw[ho]at hc hlit;simp[Op.operands]at hlit;have h1:=Zm h 0 hlit;simp only[Zf]at hc;split at hc;rotate_left;simp at hc;rename_i fs sz by_ ze hty;split at hc;rotate_left;simp at hc;rename_i off ft hf;obtain⟨gs,hu,hgs⟩:=hE.struct hty rfl;have hg:∃g,gs[f]? =some g∧g.offset=off∧g.type=ft:=by grind
 obtain⟨g,hg,rfl,rfl⟩:=hg;have run:∀(us:Array Value) tf,C.E.ty g.type=some tf→a.eval x= .agg us→g.offset+tf.size≤us.size→
   (execOp a.eval o).run C.E.prog w= .ok (.value (Zan tf (us.extract g.offset (g.offset+tf.size)))) w:=by
  simp_all[execOp,Instr.field,asAgg,Za,Zbd]
 generalize hp:a.eval x=p at h1;split at hc
 ·rename_i tf cs htf hv;split at hc
  ·simp_all
  rename_i hz0;simp only[ZnM]at hc;obtain⟨y,hy,rfl⟩:=hc;rw[hv]at h1;cases h1 with |p _ _ h1=>cases h1 with |agg us _ hl ho1 hr=>
  obtain⟨ii,ds,z,hti⟩:=hE.is htf;obtain⟨hle,hrel⟩:=Zbz (w:=w) (S:=S) hy hti.one;simp at hle;have hb:g.offset+tf.size≤us.size:=by omega
  refine Zv.quiet h hi ht (run us tf htf hp hb) rfl rfl rfl (.p _ _ ?_);have:=hrel (us.extract g.offset (g.offset+tf.size)).toList (by simp_all) (fun j u c hu hc=> ?_)
  ·omega
  grind
 ·rename_i tf cs htf hv;split at hc
  ·simp at hc
  rename_i hz0;simp only[ZnM]at hc;obtain⟨y,hy,rfl⟩:=hc;rw[hv]at h1;cases h1 with |agg us _ hl ho1 hr=>
  obtain⟨ii,ds,z,hti⟩:=hE.is htf;obtain⟨hle,hrel⟩:=Zd1 (w:=w) (S:=S) (ρ:=ρ) hy hti.one;simp at hle;have hb:g.offset+tf.size≤us.size:=by omega
  refine Zv.quiet h hi ht (run us tf htf hp hb) rfl rfl rfl ?_;have:=hrel (us.extract g.offset (g.offset+tf.size)).toList (by simp;omega) (fun j u c hu hc=> ?_)
  ·rwa [Array.toArray_toList]at this
  ·simp only[Array.getElem?_toList,Znr]at hu;split at hu;rotate_left;simp at hu;rw[Znz]at hc;exact⟨hr _ u c hu hc,ho1 _ u hu⟩
 simp_all
theorem ZeJ {t:TypeId} {x ix:Operand} (ho:o.op= .indexAddr t x ix) (hc:Zf C.E st.ep i o.op o.type st.slots st.objs=some e) (hcond:∀q∈e.cond,q=true):Zv C X st a w i o e:=by
 rw[ho]at hc hlit;simp[Op.operands]at hlit;have h1:=Zm h 0 hlit.1;have h2:=Zm h 0 hlit.2;simp only[Zf]at hc;split at hc;rotate_left;simp at hc;rename_i k n hn;rw[hn]at h2;obtain⟨e2,_⟩:=ZbX h2;generalize hp:a.eval x=p at h1;split at hc
 ·rename_i el sz by_ ze hty;have hu:=hE.slice hty rfl;split at hc;rotate_left;simp at hc;rename_i te hte;split at hc
  ·rename_i sz' es hv;split at hc;rotate_left;simp at hc;rename_i hsz;cases hc;obtain⟨c0,c1⟩:=of_decide_eq_true (hcond _ ZnE);rw[hv]at h1;cases h1 with |p _ _ h1=>cases h1 with |sl p len cap _ _ evs hl hm hcc hevs hcell hr=>
   obtain⟨m,rfl⟩:=Znw c0;have hml:m < len:=by omega
   have hme:m < es.length:=by omega
   obtain⟨b,o',rfl,hS,hcl⟩:=hcell m hml;have hge:es.getD m default=es[m]:=by grind
   refine Zv.quiet h hi ht (v:= .pointer (some ⟨b,o'+m*te.size,none⟩)) ?_ rfl rfl rfl ?_
   ·simp[execOp,ho,hp,e2,Instr.indexAt,asIntOf,Za hu,hml,ZN hE hte,Z8]
   ·simp only[Znx,hge];have hrm:=hr m es[m] (by grind);have hcs:=hrm.size;refine .p _ _ (.ptr b _ _ (fun j=>(evs m).cells.getD j undef) hS (fun j c hj=> ?_) (fun j c hj=> ?_) (fun j c hj=> ?_))
    all_goals
     have hlt:j < (evs m).cells.size:=by grind
     have hu:(evs m).cells[j]? =some (evs m).cells[j]:=by grind
     have hgd:(evs m).cells.getD j undef=(evs m).cells[j]:=by simp[Znp hlt]
    ·simp_all
    ·rw[hgd];exact(hrm.cell hu hj).2
    ·rw[hgd];exact(hrm.cell hu hj).1
  ·rename_i id off len hv;split at hc
   ·rename_i sz' es fix hlk;split at hc;rotate_left;simp at hc;rename_i hsz;cases hc;obtain⟨c0,c1⟩:=of_decide_eq_true (hcond _ ZnE);rw[hv]at h1;cases h1 with |sl _ _ _ cap p L hL hl hm' hcc ha=>
    obtain⟨m,rfl⟩:=Znw c0;have hml:m < len:=by omega
    obtain⟨L',hL',hsz',_⟩:=h.objs id _ hlk (by simp);rw[hL]at hL';obtain rfl:=ZnN hL';rcases ha with ha |⟨b,hb,rfl,_⟩
    ·omega
    ·refine Zv.quiet h hi ht (v:= .pointer (some ⟨b,L.base+off*L.sz+m*te.size,none⟩)) ?_ rfl rfl rfl ?_
     ·simp[execOp,ho,hp,e2,Instr.indexAt,asIntOf,Za hu,hml,ZN hE hte,Z8]
     ·have:L.base+off*L.sz+m*te.size=L.base+(off+m)*L.sz+0:=by rw[ZnI,hsz',hsz];omega
      simp only[Znx,this];exact .ptr id (off+m) 0 L b hL (by omega) hb
   ·rename_i sz' _ _ _ _ _ hlk;split at hc;rotate_left;simp at hc;rename_i hsz;cases hc;obtain⟨c0,c1⟩:=of_decide_eq_true (hcond _ ZnE);rw[hv]at h1;cases h1 with |sl _ _ _ cap p L hL hl hm' hcc ha=>
    obtain⟨m,rfl⟩:=Znw c0;have hml:m < len:=by omega
    obtain⟨L',hL',hsz',_⟩:=h.objs id _ hlk (by simp);rw[hL]at hL';obtain rfl:=ZnN hL';rcases ha with ha |⟨b,hb,rfl,_⟩
    ·omega
    ·refine Zv.quiet h hi ht (v:= .pointer (some ⟨b,L.base+off*L.sz+m*te.size,none⟩)) ?_ rfl rfl rfl ?_
     ·simp[execOp,ho,hp,e2,Instr.indexAt,asIntOf,Za hu,hml,ZN hE hte,Z8]
     ·have:L.base+off*L.sz+m*te.size=L.base+(off+m)*L.sz+0:=by rw[ZnI,hsz',hsz];omega
      simp only[Znx,this];exact .ptr id (off+m) 0 L b hL (by omega) hb
   simp_all
  simp_all
 ·rename_i m el sz by_ ze hty;have hu:=hE.array hty rfl;split at hc;rotate_left;simp at hc;rename_i te hte;have run:∀b o',p= .pointer (some ⟨b,o',none⟩)→0≤n∧n < m→(execOp a.eval o).run C.E.prog w= .ok (.value (.pointer (some ⟨b,o'+n.toNat*te.size,none⟩))) w:=by intro b o' hv hr;subst hv;simp[execOp,ho,hp,e2,Instr.indexAt,asIntOf,Za hu,Instr.sureAddr,hr,ZN hE hte,Z8]
  split at hc
  ·rename_i cs hv;cases hc;have hr:=of_decide_eq_true (hcond _ ZnE);rw[hv]at h1;cases h1 with |p _ _ h1=>cases h1 with |ptr b o' _ vs hS hcell h1 hrr=>
   refine Zv.quiet h hi ht (run b o' rfl hr) rfl rfl rfl (.p _ _ (.ptr b _ _ (fun j=>vs (n.toNat*te.size+j)) hS (fun j c hj=> ?_) (fun j c hj=> ?_) (fun j c hj=> ?_)))
   ·rw[Znz]at hj;rw[←hcell _ c hj,ZnH]
   ·rw[Znz]at hj;exact h1 _ c hj
   ·rw[Znz]at hj;exact hrr _ c hj
  ·rename_i id i' j hv;cases hc;have hr:=of_decide_eq_true (hcond _ ZnE);rw[hv]at h1;cases h1 with |ptr _ _ _ L b hL hil hb=>
   refine Zv.quiet h hi ht (run b _ rfl hr) rfl rfl rfl ?_;rw[ZnH];exact .ptr id i' _ L b hL hil hb
  ·simp at hc
 simp_all
theorem Zjd {t:TypeId} {x ix:Operand} (ho:o.op= .index t x ix) (hc:Zf C.E st.ep i o.op o.type st.slots st.objs=some e) (hcond:∀q∈e.cond,q=true):Zv C X st a w i o e:=by
 rw[ho]at hc hlit;simp[Op.operands]at hlit;have h1:=Zm h 0 hlit.1;have h2:=Zm h 0 hlit.2;simp only[Zf]at hc;split at hc;rotate_left;simp at hc;rename_i k n hn;rw[hn]at h2;obtain⟨e2,_⟩:=ZbX h2;generalize hp:a.eval x=p at h1;split at hc;rotate_left;simp at hc;rename_i s hv;split at hc;rotate_left;simp at hc;rename_i hts;cases hc;obtain⟨c0,c1⟩:=of_decide_eq_true (hcond _ ZnE);rw[hv]at h1;obtain⟨rfl,_⟩:=h1.of_p.str_inv;obtain⟨m,rfl⟩:=Znw c0;have hml:m < s.length:=by omega
 have hu:=hE.str hts;refine Zv.quiet h hi ht (v:= .int .u8 (s[m]).toNat) ?_ rfl rfl rfl ?_
 ·have:(ByteArray.mk s.toArray)[m]? =some s[m]:=by
   have hd:m < (ByteArray.mk s.toArray).size:=by grind[Zba]
   rw[getElem?_pos _ m hd];congr 1
  simp_all[execOp,Instr.index,asIntOf,Za]
 ·have hlt:=(s[m]).toNat_lt;simp only[Znx,List.getD_eq_getElem?_getD,List.getElem?_eq_getElem hml,ZnL];exact .p _ _ (.int _ _ (by grind[IntKind.min]) (by grind[IntKind.max,IntKind.signed,IntKind.bits]))
end
end Eng
namespace Eng
open Go
section
variable {C:Ctx} {X:Nat→Prop} {ρ:Id→Option Lay} {S:Nat→Prop} {st:St} {a:Act} {w:World} {i:Nat} {o:Oper} {e:Eff}
def Zme:Option Value→Option Int→Prop
 |none,none=>True
 |some v,some n=>∃k,v= .int k n
 |_,_=>False
theorem Zme.cases {v:Option Value} {A:Option Int} (h:Zme v A):(v=none∧A=none)∨∃k n,v=some (.int k n)∧A=some n:=by
 unfold Zme at h;grind
theorem ZkI {P:Program} (k:IntKind) (n:Int) (y:Nat) (code:BoundsCode) (h:0≤n∧n≤y) (w:World):(Instr.sliceBound (.int k n) y code).run P w= .ok n.toNat w:=by simp[Instr.sliceBound,asIntOf,h]
theorem Zff {P:Program} (isS:Bool) (len cap:Nat) {lov hiv mxv:Option Value} {A B M:Option Int} (hlo:Zme lov A) (hhi:Zme hiv B) (hmx:Zme mxv M)
  (hx:M.isSome→B.isSome) (h0:0≤A.getD 0) (h1:A.getD 0≤B.getD len) (h2:B.getD len≤M.getD cap) (h3:M.getD cap≤cap) (_hlc:len≤cap) (w:World):
  (Instr.sliceBounds isS len cap lov hiv mxv).run P w= .ok ((A.getD 0).toNat,(B.getD len).toNat,(M.getD cap).toNat) w:=by
 have F:∀(k:IntKind) (n:Int) (y:Nat) (code:BoundsCode),0≤n→n≤y→(Instr.sliceBound (.int k n) y code).run P w= .ok n.toNat w:=fun k n y code q r=>ZkI k n y code ⟨q,r⟩ w
 rcases hlo.cases with ⟨rfl,rfl⟩ |⟨ka,n,rfl,rfl⟩<;>rcases hhi.cases with ⟨rfl,rfl⟩ |⟨kb,b,rfl,rfl⟩<;>rcases hmx.cases with ⟨rfl,rfl⟩ |⟨km,m,rfl,rfl⟩<;>simp only[Option.getD_none,ZnL]at h0 h1 h2 h3
 ·simp[Instr.sliceBounds]
 ·simp_all
 ·simp_all[Instr.sliceBounds]
 ·simp[Instr.sliceBounds,F km m cap _ (by omega) h3,F kb b m.toNat _ h1 (by omega)]
 ·simp_all[Instr.sliceBounds]
 ·simp_all
 ·simp[Instr.sliceBounds,F kb b cap _ (by omega) h2,F ka n b.toNat _ h0 (by omega)]
 ·simp[Instr.sliceBounds,F km m cap _ (by omega) h3,F kb b m.toNat _ (by omega) (by omega),F ka n b.toNat _ h0 (by omega)]
theorem ZcU (h:Rep C X ρ S st a.tmps w) {lo:Option Operand} {A:Option Int} (hl:∀x,lo=some x→ZE x=true) (hA:Zb1 C.E st.slots lo=some A):Zme (lo.map a.eval) A:=by
 unfold Zb1 at hA;split at hA
 ·cases hA;trivial
 ·rename_i x;split at hA;rotate_left;simp at hA;rename_i k n hn;cases hA;have h1:=Zm h 0 (hl x rfl);rw[hn]at h1;exact⟨k,h1.of_p.int_inv.1⟩
variable (h:Rep C X ρ S st a.tmps w) (hi:¬X i) (ht:∀d,o.dst=some d→d < C.E.nt) (hlit:o.op.operands.all ZE=true) (hE:Zl C.E)
include h hi ht hlit hE
theorem Zjb {t:TypeId} {x:Operand} {lo hi' mx:Option Operand} (ho:o.op= .slice t x lo hi' mx) (hc:Zf C.E st.ep i o.op o.type st.slots st.objs=some e) (hcond:∀q∈e.cond,q=true):Zv C X st a w i o e:=by
 rw[ho]at hc hlit;have hl4:ZE x=true∧(∀y,lo=some y→ZE y=true)∧(∀y,hi'=some y→ZE y=true)∧(∀y,mx=some y→ZE y=true):=by grind[Op.operands]
 have h1:=Zm h 0 hl4.1;simp only[Zf]at hc;split at hc;rotate_left;simp at hc;rename_i sz A B M hsz hA hB hM;have oA:=ZcU h hl4.2.1 hA;have oB:=ZcU h hl4.2.2.1 hB;have oM:=ZcU h hl4.2.2.2 hM;generalize hp:a.eval x=p at h1;unfold ZaV at hc;have run:∀el te (ad:Option Addr) (len cap:Nat),C.E.td t=some (.sl el)→C.E.ty el=some te→p= .slice ad len cap→(M.isSome→B.isSome)→0≤A.getD 0→A.getD 0≤B.getD len→B.getD len≤M.getD cap→M.getD cap≤cap→len≤cap→
   (execOp a.eval o).run C.E.prog w= .ok (.value (.slice (if (M.getD cap).toNat=(A.getD 0).toNat then ad else ad.map (·.add ((A.getD 0).toNat*te.size))) ((B.getD len).toNat - (A.getD 0).toNat) ((M.getD cap).toNat - (A.getD 0).toNat))) w:=by
  intro el te ad len cap htd hte hv hx q0 q1 q2 q3 hlc;obtain⟨ds,hu,hk⟩:=hE.und htd;cases ds<;>simp[Zat]at hk;subst hk hv;simp only[execOp,ho,hp,Instr.sliceAt,Instr.slice,Sem.run_bind,Za hu,Result.andThen_ok,Zff true len cap oA oB oM hx q0 q1 q2 q3 hlc,ZN hE hte,Sem.run_pure]
 have styp:∀n,sz=some n→∃el te,C.E.td t=some (.sl el)∧C.E.ty el=some te∧te.size=n:=by
  grind
 split at hc
 ·
  rename_i s hv;split at hc
  ·simp_all
  ·cases hc;obtain⟨c0,c1,c2⟩:=of_decide_eq_true (hcond _ ZnE);rw[hv]at h1;obtain⟨rfl,hsl⟩:=h1.of_p.str_inv;have hts:C.E.td t=some .str:=by
    grind
   have hu:=hE.str hts;have hmx:mx=none:=by
    match mx,oM with
    |none,_=>rfl
   subst hmx;have hb:=Zff (P:=C.E.prog) false (ByteArray.mk s.toArray).size (ByteArray.mk s.toArray).size oA oB (show Zme none none from trivial) (by simp) c0 (by grind[Zba]) (by grind[Zba]) (by simp) (ZnJ _) w;refine Zv.quiet h hi ht (v:= .string ⟨((s.take (B.getD s.length).toNat).drop (A.getD 0).toNat).toArray⟩) ?_ rfl rfl rfl (.p _ _ (.str _ (by grind)));simp only[execOp,ho,hp,Instr.sliceAt,Instr.slice,Sem.run_bind,Za hu,Result.andThen_ok,Option.map_none,Option.isSome_none,Znv,if_false,hb,Sem.run_pure];grind[Lib.extract_eq,Zba,List.drop_take]
 ·
  rename_i n sz' es hv;obtain⟨el,te,htd,hte,hn⟩:=styp n rfl;split at hc;rotate_left;simp at hc;rename_i hse;rw[hv]at h1;cases h1 with |p _ _ h1=>cases h1 with |sl ad len cap _ _ evs hl hm hcc hevs hcell hr=>
  have rel:∀(A' H' cap':Nat) (ad':Option Addr),A'≤H'→H'≤len→H' - A'≤cap'→(H' - A'=0∨ad'=ad.map (·.add (A'*te.size)))→RelP w S (.slice ad' (H' - A') cap') (.sl sz' ((es.take H').drop A')):=by
   intro A' H' cap' ad' l1 l2 l3 l4;refine .sl _ _ _ _ _ (fun j=>evs (A'+j)) (by grind) (by omega) l3 (fun j hj=>hevs _ (by omega)) (fun j hj=> ?_) (fun j u hu=> ?_)
   ·obtain⟨b,o',rfl,hS,hcl⟩:=hcell (A'+j) (by omega);rcases l4 with l4 |l4
    ·omega
    ·subst l4;refine⟨b,o'+A'*te.size,by simp[Z8],hS,fun k v hv=> ?_⟩;have:=hcl k v hv;rw[ZnI]at this;rw[←this,hn,←hse];congr 2;omega
   grind
  split at hc
  ·
   cases hc;obtain⟨c0,c1,c2⟩:=of_decide_eq_true (hcond _ ZnE);have c1':A.getD 0≤B.getD len:=by rw[←hl];exact c1
   have c2':B.getD len≤len:=by rw[←hl];exact c2
   have hr':=run el te ad len cap htd hte rfl (by simp) c0 c1' (by simp;omega) (by simp) hcc;refine Zv.quiet h hi ht hr' rfl rfl rfl (.p _ _ ?_);rw[hl];refine rel _ _ _ _ (by omega) (by omega) (by simp;omega) ?_;simp only[Option.getD_none,Znx];split
   ·exact .inl (by omega)
   ·exact .inr rfl
  ·
   rename_i m hh;cases hc;obtain⟨c0,c1,c2,rfl⟩:=of_decide_eq_true (hcond _ ZnE);have hr':=run el te ad len cap htd hte rfl (by simp) c0 c1 (by simp) (by simp;omega) hcc;refine Zv.quiet h hi ht hr' rfl rfl rfl ?_;simp only[ZnL];refine .clip _ _ _ _ (rel _ _ _ _ (by omega) (by omega) (by omega) ?_);split
   ·exact .inl (by omega)
   ·exact .inr rfl
  grind
 ·
  rename_i n id off len hv;obtain⟨el,te,htd,hte,hn⟩:=styp n rfl;split at hc;rotate_left;simp at hc;rename_i sz' es fix hlk;split at hc;rotate_left;simp at hc;rename_i hse;rw[hv]at h1;cases h1 with |sl _ _ _ cap ad L hL hl hm' hcc ha=>
  have hL':=h.objs id _ hlk (by simp);obtain⟨L',hL',hsz',hel,hlc,hlm,hbn,hcells,evs,hev,hcell,hrel⟩:=hL';rw[hL]at hL';obtain rfl:=ZnN hL';split at hc
  ·cases hc;obtain⟨c0,c1,c2⟩:=of_decide_eq_true (hcond _ ZnE);have hr':=run el te ad len cap htd hte rfl (by simp) c0 c1 (by simp;omega) (by simp) hcc;refine Zv.quiet h hi ht hr' rfl rfl rfl ?_;simp only[Option.getD_none,Znx];refine .sl id _ _ _ _ L hL (by omega) (by omega) (by omega) ?_;rcases ha with ha |⟨b,hb,rfl,hcap⟩
   ·exact .inl (by omega)
   ·by_cases hq:cap=(A.getD 0).toNat
    ·exact .inl (by omega)
    ·refine .inr ⟨b,hb, ?_,by omega⟩;rw[if_neg hq];simp only[Option.map_some,Z8,hsz',hse,hn,ZnI];congr 2;omega
  ·rename_i m hh;cases hc;obtain⟨c0,c1,c2,rfl⟩:=of_decide_eq_true (hcond _ ZnE);have hr':=run el te ad len cap htd hte rfl (by simp) c0 c1 (by simp) (by simp;omega) hcc;refine Zv.frz h hi ht hr' rfl rfl (by simp[hL]) fun S' hS1 hS2=> ?_
   simp only[ZnL];refine .clip _ _ _ _ ?_;refine .sl _ _ _ _ _ (fun j=>evs (off+(A.getD 0).toNat+j)) (by simp;omega) (by omega) (ZnJ _) (fun j hj=>hev _ (by omega)) (fun j hj=> ?_) (fun j u hu=> ?_)
   ·rcases ha with ha |⟨b,hb,rfl,hcap⟩
    ·omega
    ·rw[if_neg (by omega)];refine⟨b,L.base+off*L.sz+(A.getD 0).toNat*te.size,by simp[Z8],hS2 id (by simp) _ L b hlk (by simp) hL hb,fun k v hv=> ?_⟩;have:=hcell b hb (off+(A.getD 0).toNat+j) k v (by omega) hv;rw[←this,hsz',hse,hn];congr 2;simp only[ZnI];omega
   ·rw[ZnC]at hu;split at hu;rotate_left;simp at hu;rw[Znz]at hu;exact(hrel _ u hu).mono (fun _ _ _=>rfl) hS1
  ·simp at hc
 ·
  rename_i n sz' hv;obtain⟨el,te,htd,hte,hn⟩:=styp n rfl;split at hc;rotate_left;simp at hc;cases hc;obtain⟨c0,c1⟩:=of_decide_eq_true (hcond _ ZnE);rw[hv]at h1;cases h1;have cB:B.getD (0:Nat)=0:=c1;have hr':=run el te none 0 0 htd hte rfl (by simp) (by omega) (by omega) (by simp;omega) (by simp) (ZnJ _);refine Zv.quiet h hi ht hr' rfl rfl rfl ?_;simp[c0,c1];exact .nils _
 simp_all
end
end Eng
namespace Eng
open Go
section
variable {C:Ctx} {X:Nat→Prop} {ρ:Id→Option Lay} {S:Nat→Prop} {st:St} {a:Act} {w:World} {i:Nat} {o:Oper} {e:Eff}
theorem ZF {P:Program} {b:Builtin} {args:Array Operand} {ats:Array TypeId} (ho:o.op= .call {callee:= .builtin b,args,argTypes:=ats}):
  ∃cs,(execOp a.eval o).run P w=(builtin b ats o.type cs (args.map a.eval)).run P w:=by
 refine⟨args.map fun | .const _=>true |_=>false, ?_⟩;grind[execOp,resolve,invoke]
theorem Zgk {P:Program} {s:Sem Value} {r:Value} {w':World} (h:s.run P w= .ok r w'):(do pure (Next.value (←s)):Sem Next).run P w= .ok (.value r) w':=by simp[h]
theorem ZdV {n:Nat} (h:n≤Zr):IntKind.i64.min≤(n:Int)∧(n:Int)≤IntKind.i64.max:=by
 have e1:IntKind.i64.min= -9223372036854775808:=by decide
 have e2:IntKind.i64.max=9223372036854775807:=by decide
 grind[Zr]
theorem Zlp {lk:Id→Option Obj} (hob:Objs w S ρ lk) {v:Value} {d:D} {n:Nat} {c:List Bool} {td:TD} (hv:RelD w S ρ v d) (hn:Zf4 lk td d=some (n,c)) (hcond:∀q∈c,q=true) {E:Env} (hE:Zl E) {t:Nat} (htd:E.td t=some td)
  (ats:Array TypeId) (hat:ats[0]? =some t) (ty:TypeId):(Builtin.len_ ats ty #[v]).run E.prog w= .ok (.int .i64 n) w∧n≤Zr:=by
 obtain⟨ds,hu,hk'⟩:=hE.und htd;have hmx:Z9≤Zr:=by decide
 unfold Zf4 at hn;split at hn<;>(try simp only[ZnO,ZnP,reduceCtorEq]at hn)
 ·obtain⟨rfl,rfl⟩:=hn;cases ds<;>simp[Zat]at hk';obtain⟨rfl,rfl⟩:=hk';exact⟨by simp_all[Builtin.len_,goInt,Za],of_decide_eq_true (hcond _ ZnE)⟩
 ·obtain⟨rfl,rfl⟩:=hn;obtain⟨rfl,hl⟩:=hv.of_p.str_inv;cases ds<;>simp[Zat]at hk';simp_all[Builtin.len_,goInt,Zba,Za]
 ·obtain⟨rfl,rfl⟩:=hn;cases ds<;>simp[Zat]at hk';cases hv with |p _ _ hv=>cases hv with |sl ad len cap _ _ evs hl hm hcc hevs hcell hr=>
  exact⟨by simp_all[Builtin.len_,goInt,Za],by omega⟩
 ·obtain⟨rfl,rfl⟩:=hn;cases ds<;>simp[Zat]at hk';cases hv with |clip ad len _ _ hv=>cases hv with |sl ad len cap _ _ evs hl hm hcc hevs hcell hr=>
  exact⟨by simp[Builtin.len_,hat,Za hu,goInt,hl],by omega⟩
 ·obtain⟨rfl,rfl⟩:=hn;cases ds<;>simp[Zat]at hk';cases hv;exact⟨by simp[Builtin.len_,hat,Za hu,goInt],by simp⟩
 ·obtain⟨rfl,rfl⟩:=hn;cases ds<;>simp[Zat]at hk';cases hv with |sl _ _ _ cap p L hL hl hm' hcc ha=>
  exact⟨by simp[Builtin.len_,hat,Za hu,goInt],by omega⟩
 ·obtain⟨rfl,rfl⟩:=hn;cases ds<;>simp[Zat]at hk';cases hv with |p _ _ hv=>cases hv with
  |nilmap=>exact⟨by simp[Builtin.len_,hat,Za hu,goInt],by simp⟩
  |map _ r es clock _ kv' hS hb hp hl _ _ _ _ hborn hbd=>
   exact⟨by simp[Builtin.len_,hat,Za hu,goInt,getObj,Sem.run,hb,hl,hp.length_eq],of_decide_eq_true (hcond _ ZnE)⟩
 ·rename_i id;split at hn;rotate_left;simp at hn;rename_i kv hlk;simp only[ZnO,ZnP]at hn;obtain⟨rfl,rfl⟩:=hn;cases ds<;>simp[Zat]at hk';cases hv with |map _ L b hL hb=>
  obtain⟨L',hL',b',hb',es,clock,kv',g1,g2,g3,_⟩:=hob id _ hlk (by simp);rw[hL]at hL';obtain rfl:=ZnN hL';rw[hb]at hb';obtain rfl:=ZnN hb';exact⟨by simp[Builtin.len_,hat,Za hu,goInt,getObj,Sem.run,g1,g3,g2.length_eq],of_decide_eq_true (hcond _ ZnE)⟩
variable (h:Rep C X ρ S st a.tmps w) (hi:¬X i) (ht:∀d,o.dst=some d→d < C.E.nt) (hlit:o.op.operands.all ZE=true) (hE:Zl C.E)
include h hi ht hlit
theorem ZhI {x:Operand} (ho:o.op= .assign x) (hc:Zf C.E st.ep i o.op o.type st.slots st.objs=some e):Zv C X st a w i o e:=by
 rw[ho]at hc hlit;have h1:=Zm h o.type (by grind[Op.operands]:ZE x=true);have hrun:(execOp a.eval o).run C.E.prog w= .ok (.value (a.eval x)) w:=by simp[execOp,ho]
 simp only[Zf]at hc;split at hc
 ·
  rename_i sz hv;cases hc;rw[hv]at h1;generalize hp:a.eval x=p at h1;cases h1;rw[hp]at hrun;let L:Lay:=⟨none,0,sz,0,0⟩;have fresh:ρ (st.ep,i,0)=none:=by
   cases hc:ρ (st.ep,i,0)with
   |none=>rfl
   |some L=>have:=h.young (st.ep,i,0) (by grind);simp_all
  refine⟨_,_,w,hrun,.inl rfl,upd ρ (st.ep,i,0) (some L),h.step _ hi ht (ZnJ _) (ZQ.refl _) (fun _ _ _=>rfl) (by simp) ?_ ?_ (by simp) ?_ ?_ (by simp) ?_⟩
  ·grind[upd]
  ·grind[upd]
  ·intro k o' hm;simp only[ZnF,ZnP]at hm;obtain⟨rfl,rfl⟩:=hm;exact⟨L,by simp[upd],by grind,fun S' _ _ _=>⟨rfl,rfl,by grind,by grind,by grind,by grind,fun _=>default,by grind,by grind,by simp⟩⟩
  ·simp_all
  ·intro S' _ _ d _;exact .sl _ 0 0 0 none L (by simp[upd]) (by omega) (by simp) (by simp) (.inl rfl)
 grind[Zv.quiet]
omit hi ht hlit in
theorem Zaj:∀(xs:List Operand) (ts:List Nat),(∀x∈xs,ZE x=true)→(ZY C.E st.slots xs ts).length=xs.length∧
  ∀(j:Nat) v d,(xs.map a.eval)[j]? =some v→(ZY C.E st.slots xs ts)[j]? =some d→RelD w S ρ v d
 | [],_,_=>⟨rfl,by simp⟩
 |x::xs,[],hx=>by
  obtain⟨l,r⟩:=Zaj xs [] (fun y hy=>hx y (by simp[hy]))
  refine⟨by simp[ZY,l],fun j v d hv hd=> ?_⟩
  cases j with
  |zero=>simp[ZY]at hv hd;subst hv hd;exact Zm h _ (hx x (by simp))
  |succ j=>simp[ZY]at hv hd;exact r j v d (by simpa using hv) hd
 |x::xs,t::ts,hx=>by
  obtain⟨l,r⟩:=Zaj xs ts (fun y hy=>hx y (by simp[hy]))
  refine⟨by simp[ZY,l],fun j v d hv hd=> ?_⟩
  cases j with
  |zero=>simp[ZY]at hv hd;subst hv hd;exact Zm h _ (hx x (by simp))
  |succ j=>simp[ZY]at hv hd;exact r j v d (by simpa using hv) hd
omit h hi ht hlit in
theorem Zlm {ds:List D} {z:P} (hz:maxP ds=some z) {vs:List Value} (hl:vs.length=ds.length) (hr:∀(j:Nat) v d,vs[j]? =some v→ds[j]? =some d→RelD w S ρ v d) (P:Program) (ats:Array TypeId) (ty:TypeId):
  ∃r,(Builtin.max_ ats ty vs.toArray).run P w= .ok r w∧RelP w S r z:=by
 unfold maxP at hz
 split at hz
 ·rename_i k x k' y
  by_cases hk:k=k'
  ·rw[if_pos hk]at hz
   subst hk
   cases hz
   match vs,hl with
   | [u,v],_=>
    obtain⟨rfl,r1,r2⟩:=ZbX (hr 0 _ _ rfl rfl)
    obtain⟨rfl,r3,r4⟩:=ZbX (hr 1 _ _ rfl rfl)
    refine⟨_,by simp[Builtin.max_,Builtin.max2],.int _ _ ?_ ?_⟩<;>split<;>assumption
  ·rw[if_neg hk]at hz;simp at hz
 ·rename_i k x k' y k'' z'
  by_cases hk:k=k'∧k=k''
  ·rw[if_pos hk]at hz
   obtain⟨rfl,rfl⟩:=hk
   cases hz
   match vs,hl with
   | [u,v,q],_=>
    obtain⟨rfl,r1,r2⟩:=ZbX (hr 0 _ _ rfl rfl)
    obtain⟨rfl,r3,r4⟩:=ZbX (hr 1 _ _ rfl rfl)
    obtain⟨rfl,r5,r6⟩:=ZbX (hr 2 _ _ rfl rfl)
    have g:∀b:Int,k.min≤b→b≤k.max→RelP w S (.int k b) (.int k b):=fun b p q=> .int k b p q
    refine⟨_,by simp[Builtin.max_,Builtin.max2];rfl, ?_⟩
    refine .int k _ ?_ ?_<;>split<;>(first |assumption |(split<;>first |assumption |(split<;>assumption)))
  ·rw[if_neg hk]at hz;simp at hz
 ·simp at hz
omit h hi ht hlit in
theorem Zll {ds:List D} {z:P} (hz:minP ds=some z) {vs:List Value} (hl:vs.length=ds.length) (hr:∀(j:Nat) v d,vs[j]? =some v→ds[j]? =some d→RelD w S ρ v d) (P:Program) (ats:Array TypeId) (ty:TypeId):
  ∃r,(Builtin.min_ ats ty vs.toArray).run P w= .ok r w∧RelP w S r z:=by
 unfold minP at hz
 split at hz
 ·rename_i k x k' y
  by_cases hk:k=k'
  ·rw[if_pos hk]at hz
   subst hk
   cases hz
   match vs,hl with
   | [u,v],_=>
    obtain⟨rfl,r1,r2⟩:=ZbX (hr 0 _ _ rfl rfl)
    obtain⟨rfl,r3,r4⟩:=ZbX (hr 1 _ _ rfl rfl)
    refine⟨_,by simp[Builtin.min_,Builtin.min2],.int _ _ ?_ ?_⟩<;>split<;>assumption
  ·rw[if_neg hk]at hz;simp at hz
 ·rename_i k x k' y k'' z'
  by_cases hk:k=k'∧k=k''
  ·rw[if_pos hk]at hz
   obtain⟨rfl,rfl⟩:=hk
   cases hz
   match vs,hl with
   | [u,v,q],_=>
    obtain⟨rfl,r1,r2⟩:=ZbX (hr 0 _ _ rfl rfl)
    obtain⟨rfl,r3,r4⟩:=ZbX (hr 1 _ _ rfl rfl)
    obtain⟨rfl,r5,r6⟩:=ZbX (hr 2 _ _ rfl rfl)
    have g:∀b:Int,k.min≤b→b≤k.max→RelP w S (.int k b) (.int k b):=fun b p q=> .int k b p q
    refine⟨_,by simp[Builtin.min_,Builtin.min2];rfl, ?_⟩
    refine .int k _ ?_ ?_<;>split<;>(first |assumption |(split<;>first |assumption |(split<;>assumption)))
  ·rw[if_neg hk]at hz;simp at hz
 ·simp at hz
include hE
theorem Zlz {args:Array Operand} {ats:Array TypeId} (ho:o.op= .call {callee:= .builtin .len,args,argTypes:=ats}) (hc:Zf C.E st.ep i o.op o.type st.slots st.objs=some e) (hcond:∀q∈e.cond,q=true):Zv C X st a w i o e:=by
 rw[ho]at hc hlit;simp only[Zf,ZO]at hc;unfold Zii at hc;split at hc<;>(try simp only[reduceCtorEq]at hc);rename_i t d hds hlen;split at hc;rotate_left;simp at hc;rename_i td htd;split at hc;rotate_left;simp at hc;rename_i n c hn;cases hc;obtain⟨hl,hr⟩:=Zaj h args.toList ats.toList (fun x hx=>by grind[Op.operands,Call.operands,Zns])
 rw[hlen]at hl hr;obtain⟨cs,hrun⟩:=ZF (a:=a) (w:=w) (P:=C.E.prog) ho
 match hx:args.toList,hl with
 | [x],_=>
  rw[hx]at hr;have hrel:=hr 0 (a.eval x) d rfl rfl;have hargs:args.map a.eval= #[a.eval x]:=by grind
  have h0:ats[0]? =some t:=by rw[←Array.getElem?_toList,hds];rfl
  obtain⟨h1,h2⟩:=Zlp h.objs hrel hn hcond hE htd ats h0 o.type;refine Zv.quiet h hi ht (v:= .int .i64 n) (by simp_all[builtin]) rfl rfl rfl (.p _ _ (.int _ _ (ZdV h2).1 (ZdV h2).2))
omit hE in
theorem Zly {args:Array Operand} {ats:Array TypeId} (ho:o.op= .call {callee:= .builtin .max,args,argTypes:=ats}) (hc:Zf C.E st.ep i o.op o.type st.slots st.objs=some e):Zv C X st a w i o e:=by
 rw[ho]at hc hlit
 simp only[Zf,ZO]at hc
 split at hc<;>simp only[Option.some.injEq,reduceCtorEq]at hc
 rename_i z hz
 subst hc
 obtain⟨hl,hr⟩:=Zaj h args.toList ats.toList (fun x hx=>by
  simp[Op.operands,Call.operands]at hlit
  obtain⟨j,hj,rfl⟩:=Array.mem_iff_getElem.1 (Array.mem_toList_iff.1 hx);exact hlit j hj)
 obtain⟨cs,hrun⟩:=ZF (a:=a) (w:=w) (P:=C.E.prog) ho
 obtain⟨r,h1,h2⟩:=Zlm hz (by simp[hl]) hr C.E.prog ats o.type
 have hargs:args.map a.eval=(args.toList.map a.eval).toArray:=by apply Array.ext';simp
 exact Zv.quiet h hi ht (v:=r) (by rw[hrun,hargs];simp only[builtin,Sem.run_bind,h1,Result.andThen_ok,Sem.run_pure]) rfl rfl rfl (.p _ _ h2)
omit hE in
theorem Zlx {args:Array Operand} {ats:Array TypeId} (ho:o.op= .call {callee:= .builtin .min,args,argTypes:=ats}) (hc:Zf C.E st.ep i o.op o.type st.slots st.objs=some e):Zv C X st a w i o e:=by
 rw[ho]at hc hlit
 simp only[Zf,ZO]at hc
 split at hc<;>simp only[Option.some.injEq,reduceCtorEq]at hc
 rename_i z hz
 subst hc
 obtain⟨hl,hr⟩:=Zaj h args.toList ats.toList (fun x hx=>by
  simp[Op.operands,Call.operands]at hlit
  obtain⟨j,hj,rfl⟩:=Array.mem_iff_getElem.1 (Array.mem_toList_iff.1 hx);exact hlit j hj)
 obtain⟨cs,hrun⟩:=ZF (a:=a) (w:=w) (P:=C.E.prog) ho
 obtain⟨r,h1,h2⟩:=Zll hz (by simp[hl]) hr C.E.prog ats o.type
 have hargs:args.map a.eval=(args.toList.map a.eval).toArray:=by apply Array.ext';simp
 exact Zv.quiet h hi ht (v:=r) (by rw[hrun,hargs];simp only[builtin,Sem.run_bind,h1,Result.andThen_ok,Sem.run_pure]) rfl rfl rfl (.p _ _ h2)
end
end Eng
namespace Eng
open Go
section
variable {C:Ctx} {X:Nat→Prop} {ρ:Id→Option Lay} {S:Nat→Prop} {st:St} {a:Act} {w:World} {i:Nat} {o:Oper} {e:Eff}
theorem Zdv (ep i:Nat):∀(ds:List D) (k:Nat),(ZeO ep i k ds).length=ds.length
 | [],_=>rfl
 |d::r,k=>by cases d<;>simp[ZeO,Zdv ep i r (k+1)]
theorem ZhY (ep i:Nat):∀(ds:List D) (k j:Nat) (d:D),ds[j]? =some d→
  (ZeO ep i k ds)[j]? =some (match d with | .nils _=> .sl (ep,i,k+j) 0 0 |d=>d)
 | [],_,_,_,h=>by grind
 |x::r,k,0,d,h=>by grind[ZeO]
 |x::r,k,j+1,d,h=>by
  have:=ZhY ep i r (k+1) j d (by simp_all);have e:k+1+j=k+(j+1):=by omega
  rw[e]at this;cases x<;>simpa[ZeO]using this
theorem ZaK:∀(ds:List D) (k m:Nat) (o:Obj),(m,o)∈ZU k ds→k≤m∧∃sz,ds[m - k]? =some (.nils sz)∧o= .arr sz [] false
 | [],_,_,_,h=>by grind[ZU]
 |d::r,k,m,o,h=>by
  have rest:(m,o)∈ZU (k+1) r→k≤m∧∃sz,(d::r)[m - k]? =some (.nils sz)∧o= .arr sz [] false:=fun h=>by obtain⟨h1,sz,h2,h3⟩:=ZaK r (k+1) m o h;grind
  cases d<;>simp only[ZU]at h<;>first |exact rest h |skip
  grind
theorem Zem {v:Value} {d:D} (h:RelD w S ρ v d) (hd:d.okv=true):v.cells.size=d.cells.length∧
  ∀(j:Nat) u c,v.cells[j]? =some u→d.cells[j]? =some c→RelD w S ρ u c∧Zbp u:=by
 have one:∀(v:Value) (d:D),v.cells= #[v]→d.cells=[d]→Zbp v→RelD w S ρ v d→v.cells.size=d.cells.length∧∀(j:Nat) u c,v.cells[j]? =some u→d.cells[j]? =some c→RelD w S ρ u c∧Zbp u:=by
  grind
 cases h with
 |p v x h=>
  have hs:=h.size
  by_cases hx:∃cs,x= .agg cs
  ·obtain⟨cs,rfl⟩:=hx;refine⟨by grind[D.cells,P.cells],fun j u c hu hc=> ?_⟩;simp only[D.cells,ZnB,ZnM]at hc;obtain⟨y,hy,rfl⟩:=hc;have:=h.cell hu (by simpa[P.cells]using hy);exact⟨.p _ _ this.1,this.2⟩
  ·have hv:v.cells= #[v]∧Zbp v:=by cases h<;>first |exact⟨rfl,rfl⟩ |simp_all
   have hd:(D.p x).cells=[.p x]:=by cases x<;>first |rfl |simp_all
   exact one v _ hv.1 hd hv.2 (.p _ _ h)
 |dead v=>grind[D.okv]
 |val v=>grind[D.okv]
 |undef=>grind[D.okv]
 |anyb b=>exact one _ _ rfl rfl rfl (.anyb b)
 |nils sz=>exact one _ _ rfl rfl rfl (.nils sz)
 |clip a n sz es h=>exact one _ _ rfl rfl rfl (.clip a n sz es h)
 |agg vs cs hl h1 h=>exact⟨hl,fun j u c hu hc=>⟨h j u c hu hc,h1 j u hu⟩⟩
 |tup vs cs=>grind[D.okv]
 |sl id off len cap a L hL hl hm' hc ha=>exact one _ _ rfl rfl rfl (.sl id off len cap a L hL hl hm' hc ha)
 |ptr id i j L b hL hi hb=>exact one _ _ rfl rfl rfl (.ptr id i j L b hL hi hb)
 |map id L b hL hb=>exact one _ _ rfl rfl rfl (.map id L b hL hb)
 |it id L b hL hb=>exact one _ _ rfl rfl rfl (.it id L b hL hb)
 |fn f fs cs a b hf hc h h'=>exact one _ _ rfl rfl rfl (.fn f fs cs a b hf hc h h')
 |rp x id b o r u L hS hx hm hL hb=>exact one _ _ rfl rfl rfl (.rp x id b o r u L hS hx hm hL hb)
def ZjB (ds:List D) (k0 k:Nat):Option Lay:=
 match ds[k - k0]? with
 |some (.nils sz)=>if k0≤k then some ⟨none,0,sz,0,0⟩else none
 |_=>none
theorem ZhX {w':World} {S':Nat→Prop} {ρ':Id→Option Lay} {ep:Nat} {ds:List D} {k0 j:Nat} {v:Value} {d:D} (hk:ZbM S w w') (hS:∀b,S b→S' b) (hρ:∀id L,ρ id=some L→ρ' id=some L)
  (hv:∀k L,ZjB ds k0 k=some L→ρ' (ep,i,k)=some L) (hd:ds[j]? =some d) (h:RelD w S ρ v d):∃d',(ZeO ep i k0 ds)[j]? =some d'∧RelD w' S' ρ' v d':=by
 refine⟨_,ZhY ep i ds k0 j d hd, ?_⟩;cases d with
 |nils sz=>
  cases h;have:ZjB ds k0 (k0+j)=some ⟨none,0,sz,0,0⟩:=by grind[ZjB]
  exact .sl _ 0 0 0 none _ (hv _ _ this) (by simp) (by simp) (by simp) (.inl rfl)
 |_=>exact h.mono hk hS hρ
theorem Zau {w:World} {S:Nat→Prop} {ρ:Id→Option Lay} (sz:Nat) (fix:Bool):Zp w S ρ ⟨none,0,sz,0,0⟩ (.arr sz [] fix):=
 ⟨rfl,rfl,by simp,by simp,by simp,by simp,fun _=>default,by simp,by simp,by simp⟩
theorem Z3 {w w':World} {x:Go.Obj} (hw:w'.heap=w.heap.push x):w'.heap[w.heap.size]? =some x:=by simp_all
theorem Zaq {w w':World} {x:Go.Obj} (hw:w'.heap=w.heap.push x) {b:Nat} (hb:b < w.heap.size):w'.heap[b]? =w.heap[b]? :=by grind
section
variable (h:Rep C X ρ S st a.tmps w) (hi:¬X i) (ht:∀d,o.dst=some d→d < C.E.nt) (hlit:o.op.operands.all ZE=true) (hE:Zl C.E)
include h hi
theorem Rep.fresh (k:Nat):ρ (st.ep,i,k)=none:=by
 cases hc:ρ (st.ep,i,k)with
 |none=>rfl
 |some L=>have:=h.young (st.ep,i,k) (by grind);simp_all
include ht
theorem Zv.box {us:Array Value} {t:TypeId} {ds:List D} {w':World} (hw:w'.heap=w.heap.push (.cells us t)) (hqu:ZQ w w') (hrun:(execOp a.eval o).run C.E.prog w= .ok (.value (.pointer (some ⟨w.heap.size,0,none⟩))) w')
  (hl:us.size=ds.length) (hrel:∀(j:Nat) u d,us[j]? =some u→ds[j]? =some d→RelD w S ρ u d∧Zbp u)
  (he:e={val:= .ptr (st.ep,i,0) 0 0,new:=(0,.box (ZeO st.ep i 1 ds))::ZU 1 ds}):Zv C X st a w i o e:=by
 subst he;let L:Lay:=⟨some w.heap.size,0,ds.length,1,1⟩;let ρ':Id→Option Lay:=fun id=>if id.1=st.ep∧id.2.1=i then (if id.2.2=0 then some L else ZjB ds 1 id.2.2)else ρ id
 have f:=h.fresh hi;have hρ:∀id L,ρ id=some L→ρ' id=some L:=by
  grind
 have hv:∀k L,ZjB ds 1 k=some L→ρ' (st.ep,i,k)=some L:=by
  grind[ZjB]
 have hbox:ρ' (st.ep,i,0)=some L:=by grind
 have kp:∀b,b < w.heap.size→w'.heap[b]? =w.heap[b]? :=fun b hb=>Zaq hw hb
 have kS:ZbM S w w':=fun b hb _=>kp b (h.sIn b hb)
 have hsz:w'.heap.size=w.heap.size+1:=by simp_all
 have hcell:∀j,w'.cell? ⟨w.heap.size,j,none⟩=us[j]? :=fun j=>by grind[World.cell?]
 have hfz:∀j,w'.frozen? ⟨w.heap.size,j,none⟩=false:=fun j=>by grind[World.frozen?]
 refine⟨_,_,w',hrun,.inl rfl,ρ',h.step ρ' hi ht (by omega) hqu (fun b hb _=>kp b hb) (by simp) hρ ?_ (by simp) ?_ ?_ (by simp) ?_
  (fun k o hm=>(ZnD.1 hm).elim (fun h=>by simp_all) (ZdG _ _ k o))⟩
 ·grind
 ·intro k o' hm;rcases ZnD.1 hm with hm |hm
  ·simp only[ZnP]at hm;obtain⟨rfl,rfl⟩:=hm;refine⟨L,hbox,fun b hb=> ?_,fun S' hS _ _=>⟨w.heap.size,rfl,by simp[L,Zdv],rfl,fun j d hd=> ?_⟩⟩
   ·grind
   ·have hjl:j < ds.length:=by grind[Zdv]
    have hju:j < us.size:=by omega
    obtain⟨r1,r2⟩:=hrel j us[j] ds[j] (by grind) (by grind);obtain⟨d',hd',hr⟩:=ZhX (i:=i) (ep:=st.ep) (k0:=1) kS hS hρ hv (by grind:ds[j]? =some ds[j]) r1;grind
  ·obtain⟨h1,sz,h2,rfl⟩:=ZaK _ _ _ _ hm;simp_all[ZjB,Zau]
 ·intro k o1 L1 k' o2 L2 b hm _ hL hb hm' _ hL' hb';grind[ZjB,ZnP]
 ·intro S' _ _ d _;have:=RelD.ptr (w:=w') (S:=S') (ρ:=ρ') (st.ep,i,0) 0 0 L w.heap.size hbox (by simp[L]) rfl;simpa[L]using this
theorem Zv.arr {cells:Array Value} {t:TypeId} {fr:Nat×Nat} {sz len cap:Nat} {es:List P} {fs:List Id} {c:List Bool} {evs:Nat→Value} {w':World} (hw:w'.heap=w.heap.push (.cells cells t fr)) (hqu:ZQ w w') (hfr:∀j,j < cells.size→¬(fr.1≤j∧j < fr.2))
  (hrun:(execOp a.eval o).run C.E.prog w= .ok (.value (.slice (some ⟨w.heap.size,0,none⟩) len cap)) w')
  (hlen:es.length=len) (hlc:len≤cap) (hlm:len≤Z9∧cap≤Zr) (hcs:cells.size=cap*sz) (hev:∀j,j < len→(evs j).cells.size=sz)
  (hcell:∀(j k:Nat) v,j < len→(evs j).cells[k]? =some v→cells[j*sz+k]? =some v)
  (hfs:∀id,id∈fs→ρ id≠none)
  (hrel:∀S',(∀b,S b→S' b)→(∀id,id∈fs→∀o L b,st.objs id=some o→o≠ .gone→ρ id=some L→L.blk=some b→S' b)→∀(j:Nat) x,es[j]? =some x→RelP w S' (evs j) x)
  (he:e={val:= .sl (st.ep,i,0) 0 len,new:=[(0,.arr sz es false)],frz:=fs,cond:=c}):Zv C X st a w i o e:=by
 subst he;let L:Lay:=⟨some w.heap.size,0,sz,len,cap⟩;let ρ':Id→Option Lay:=upd ρ (st.ep,i,0) (some L);have f:=h.fresh hi;have hρ:∀id L,ρ id=some L→ρ' id=some L:=by
  grind[upd]
 have hbox:ρ' (st.ep,i,0)=some L:=by grind[upd]
 have kp:∀b,b < w.heap.size→w'.heap[b]? =w.heap[b]? :=fun b hb=>Zaq hw hb
 have hsz:w'.heap.size=w.heap.size+1:=by simp_all
 have hc:∀j,w'.cell? ⟨w.heap.size,j,none⟩=cells[j]? :=fun j=>by grind[World.cell?]
 have hfz:∀j,j < cells.size→w'.frozen? ⟨w.heap.size,j,none⟩=false:=fun j hj=>by grind[World.frozen?]
 refine⟨_,_,w',hrun,.inl rfl,ρ',h.step ρ' hi ht (by omega) hqu (fun b hb _=>kp b hb) (by simp) hρ ?_ (fun id hid=>⟨hfs id hid,by simp⟩) ?_ ?_ (by simp) ?_⟩
 ·grind[upd]
 ·intro k o' hm;simp only[ZnF,ZnP]at hm;obtain⟨rfl,rfl⟩:=hm;refine⟨L,hbox,fun b hb=> ?_,fun S' hS hF _=>⟨rfl,hlen,hlc,hlm.1,by grind,fun b hb j hj=> ?_,evs,hev,fun b hb j k v hj hv=> ?_,fun j x hx=> ?_⟩⟩
  ·grind
  ·grind
  ·grind
  ·have:=hrel S' hS hF j x hx;exact this.mono (fun b _ hb=>kp b hb) fun _ h=>h
 ·simp_all
 ·intro S' _ _ d _;exact .sl _ 0 len cap _ L hbox (by simp[L]) hlm hlc (.inr ⟨w.heap.size,rfl,by simp[L],by simp[L]⟩)
include hE
omit h hi ht in
theorem Zf5 {t:Nat} {ti:TI} (hty:C.E.ty t=some ti):∃z,(∀w,(zeroValue t).run C.E.prog w= .ok z w)∧z.cells.size=(ti.zero.map Z.toD).length∧z.cells.size=ti.size∧
  ∀(j:Nat) u d,z.cells[j]? =some u→(ti.zero.map Z.toD)[j]? =some d→RelD w S ρ u d∧Zbp u:=by
 obtain⟨ii,ds,z,hti⟩:=hE.is hty
 obtain⟨hl,hz⟩:=Zco hti.zs
 simp at hl
 refine⟨z,fun w=>Z0 hti.info hti.zero w,by simp[hl],by rw[hl];exact hti.zl,fun j u d hu hd=> ?_⟩
 rw[List.getElem?_map,Option.map_eq_some_iff]at hd
 obtain⟨y,hy,rfl⟩:=hd
 exact Zmh (hz j u y (by simpa using hu) hy)
theorem Zji {t:TypeId} (ho:o.op= .alloc t) (hc:Zf C.E st.ep i o.op o.type st.slots st.objs=some e):Zv C X st a w i o e:=by rw[ho]at hc;simp only[Zf]at hc;split at hc;rotate_left;simp at hc;rename_i ti hty;simp only[ZnO]at hc;obtain⟨z,hz,hl,_,hrel⟩:=Zf5 (ρ:=ρ) (S:=S) (w:=w) hE hty;refine Zv.box h hi ht (us:=z.cells) (t:=t) (w':=w.alloc (.cells z.cells t)) rfl ⟨rfl,rfl⟩ ?_ hl hrel hc.symm;simp_all[execOp,Instr.alloc,newVar,newRow]
include hlit
theorem ZlA {t:TypeId} {x:Operand} (ho:o.op= .box t x) (hc:Zf C.E st.ep i o.op o.type st.slots st.objs=some e):Zv C X st a w i o e:=by
 rw[ho]at hc hlit;simp[Op.operands]at hlit;have h1:=Zm h t hlit;simp only[Zf]at hc;split at hc;rotate_left;simp at hc;rename_i ti hty;split at hc;rotate_left;simp at hc;rename_i hsz;obtain⟨hsz,hok⟩:=hsz;simp only[ZnO]at hc;have hrun:(execOp a.eval o).run C.E.prog w= .ok (.value (.pointer (some ⟨w.heap.size,0,none⟩))) (w.alloc (.cells (a.eval x).cells t)):=by simp[execOp,ho,Instr.box,newVar,newRow]
 have cells:(a.eval x).cells.size=(ev C.E st.slots t x).cells.length∧∀(j:Nat) u d,(a.eval x).cells[j]? =some u→(ev C.E st.slots t x).cells[j]? =some d→RelD w S ρ u d∧Zbp u:=Zem h1 hok;exact Zv.box h hi ht (w':=w.alloc (.cells (a.eval x).cells t)) rfl ⟨rfl,rfl⟩ hrun cells.1 cells.2 hc.symm
end
end
end Eng
namespace Eng
open Go
section
variable {C:Ctx} {X:Nat→Prop} {ρ:Id→Option Lay} {S:Nat→Prop} {st:St} {a:Act} {w:World} {i:Nat} {o:Oper} {e:Eff}
section
variable (h:Rep C X ρ S st a.tmps w) (hi:¬X i) (ht:∀d,o.dst=some d→d < C.E.nt) (hlit:o.op.operands.all ZE=true) (hE:Zl C.E)
include h hi ht
theorem Zv.new1 {x:Go.Obj} {L:Lay} {ob:Obj} {fs:List Id} {c:List Bool} {v:Value} {d:D} {w':World} (hw:w'.heap=w.heap.push x) (hqu:ZQ w w')
  (hrun:(execOp a.eval o).run C.E.prog w= .ok (.value v) w') (hLb:L.blk=some w.heap.size) (hfs:∀id,id∈fs→ρ id≠none)
  (hobj:∀S' ρ',(∀b,S b→S' b)→(∀id,id∈fs→∀o L b,st.objs id=some o→o≠ .gone→ρ id=some L→L.blk=some b→S' b)→(∀id L,ρ id=some L→ρ' id=some L)→ρ' (st.ep,i,0)=some L→Zp w' S' ρ' L ob)
  (hval:∀S' ρ',(∀b,S b→S' b)→(∀id L,ρ id=some L→ρ' id=some L)→ρ' (st.ep,i,0)=some L→RelD w' S' ρ' v d)
  (he:e={val:=d,new:=[(0,ob)],frz:=fs,cond:=c}) (hob:ob.isOwn=false:=by rfl):Zv C X st a w i o e:=by
 subst he;let ρ':Id→Option Lay:=upd ρ (st.ep,i,0) (some L);have f:=h.fresh hi;have hρ:∀id L,ρ id=some L→ρ' id=some L:=by
  grind[upd]
 have hbox:ρ' (st.ep,i,0)=some L:=by grind[upd]
 have kp:∀b,b < w.heap.size→w'.heap[b]? =w.heap[b]? :=fun b hb=>Zaq hw hb
 have hsz:w'.heap.size=w.heap.size+1:=by simp_all
 refine⟨_,_,w',hrun,.inl rfl,ρ',h.step ρ' hi ht (by omega) hqu (fun b hb _=>kp b hb) (by simp) hρ ?_ (fun id hid=>⟨hfs id hid,by simp⟩) ?_ ?_ (by simp) ?_ (by simp_all)⟩
 all_goals grind[upd]
theorem ZgR {t:TypeId} (ho:o.op= .makeMap t none) (hc:Zf C.E st.ep i o.op o.type st.slots st.objs=some e):Zv C X st a w i o e:=by
 rw[ho]at hc;simp only[Zf,ZnO]at hc;refine Zv.new1 h hi ht (x:= .map #[] 0) (L:=⟨some w.heap.size,0,0,0,0⟩) (w':=w.alloc (.map #[] 0)) (v:= .map (some w.heap.size)) rfl ⟨rfl,rfl⟩ (by simp[execOp,ho,Instr.makeMap]) rfl (fs:=[]) (by simp) ?_ ?_ hc.symm
 ·intro S' ρ' _ _ _ _;exact⟨_,rfl, #[],0,[],Z3 rfl,.refl _,rfl,by simp,by simp,by simp,by simp,by simp⟩
 ·intro S' ρ' _ _ hL;exact .map _ _ _ hL rfl
include hlit hE
theorem Zjc {t:TypeId} {x:Operand} (ho:o.op= .range t x) (hc:Zf C.E st.ep i o.op o.type st.slots st.objs=some e):Zv C X st a w i o e:=by
 rw[ho]at hc hlit;simp[Op.operands]at hlit;have h1:=Zm h 0 hlit;simp only[Zf]at hc;split at hc
 ·
  rename_i s htd hx;rw[hx]at h1;obtain⟨h2,h3⟩:=h1.of_p.str_inv;simp only[ZnO]at hc;obtain⟨d,hu,hd⟩:=hE.und htd;have hd':d= .string:=by grind[Zat]
  subst hd';refine Zv.new1 h hi ht (x:= .stringIter ⟨s.toArray⟩ 0) (L:=⟨some w.heap.size,0,0,0,0⟩) (w':=w.alloc (.stringIter ⟨s.toArray⟩ 0)) (v:= .pointer (some ⟨w.heap.size,0,none⟩)) rfl ⟨rfl,rfl⟩
   (by simp_all[execOp,Instr.range,Za]) rfl (fs:=[]) (by simp) ?_ ?_ hc.symm
  ·intro S' ρ' _ _ _ _;exact⟨_,rfl,Z3 rfl,h3⟩
  ·intro S' ρ' _ _ hL;exact .it _ _ _ hL rfl
 ·
  rename_i k el td kv htd hx;rw[hx]at h1;simp only[ZnO]at hc;obtain⟨d,hu,hd⟩:=hE.und htd;have hd':d= .map k el:=by cases d<;>simp[Zat]at hd;grind
  subst hd';generalize hv:a.eval x=v at h1;have h1:=h1.of_p;cases h1 with
  |nilmap=>
   refine Zv.new1 h hi ht (x:= .mapIter none 0 #[] 0) (L:=⟨some w.heap.size,0,0,0,0⟩) (w':=w.alloc (.mapIter none 0 #[] 0)) (v:= .pointer (some ⟨w.heap.size,0,none⟩)) rfl ⟨rfl,rfl⟩
    (by simp_all[execOp,Instr.range,Za]) rfl (fs:=[]) (by simp) ?_ ?_ hc.symm
   ·intro S' ρ' _ _ _ _;exact⟨_,rfl,.inl ⟨0, #[],0,Z3 rfl,rfl,rfl⟩⟩
   ·intro S' ρ' _ _ hL;exact .it _ _ _ hL rfl
  |map td r es clock kv kv' hS hb hp hl hk hv' hd2 hkey hborn hbd=>
   refine Zv.new1 h hi ht (x:= .mapIter (some r) clock #[] clock) (L:=⟨some w.heap.size,0,0,0,0⟩) (w':=w.alloc (.mapIter (some r) clock #[] clock)) (v:= .pointer (some ⟨w.heap.size,0,none⟩)) rfl ⟨rfl,rfl⟩
    (by simp[execOp,ho,Instr.range,hv,Za hu,getObj,Sem.run,hb]) rfl (fs:=[]) (by simp) ?_ ?_ hc.symm
   ·intro S' ρ' hSS _ _ _;have kS:ZbM S w (w.alloc (.mapIter (some r) clock #[] clock)):=fun b hb _=>Zaq rfl (h.sIn b hb)
    refine⟨_,rfl,.inr ⟨r,es,clock, #[],kv',hSS r hS, ?_,Z3 rfl,hl,fun j e q he hq=>⟨(hk j e q he hq).mono kS hSS,(hv' j e q he hq).mono kS hSS⟩,hborn,hbd, ?_,rfl⟩⟩
    ·rw[Zaq (w:=w) (x:= .mapIter (some r) clock #[] clock) rfl (Zd8 hb)];omega
    ·have:(es.toList.zip kv').filter (fun x=> !(#[]:Array Nat).contains x.1.born)=es.toList.zip kv':=by simp
     grind[List.map_snd_zip]
   ·intro S' ρ' _ _ hL;exact .it _ _ _ hL rfl
 ·
  rename_i k el id htd hx;split at hc;rotate_left;simp at hc;rename_i td kv hlk;rw[hx]at h1;simp only[ZnO]at hc;obtain⟨d,hu,hd⟩:=hE.und htd;have hd':d= .map k el:=by cases d<;>simp[Zat]at hd;grind
  subst hd';generalize hv:a.eval x=v at h1;cases h1 with
  |map id L r hL hLb=>
   obtain⟨L',hL',r',hr',es,clock,kv',hb,hp,hl,hkv,hd2,hkey,hborn,hbd⟩:=h.objs id _ hlk (by simp);rw[hL]at hL';obtain rfl:=ZnN hL';rw[hLb]at hr';obtain rfl:=ZnN hr';refine Zv.new1 h hi ht (x:= .mapIter (some r) clock #[] clock) (L:=⟨some w.heap.size,0,0,0,0⟩) (w':=w.alloc (.mapIter (some r) clock #[] clock)) (v:= .pointer (some ⟨w.heap.size,0,none⟩)) rfl ⟨rfl,rfl⟩
    (by simp[execOp,ho,Instr.range,hv,Za hu,getObj,Sem.run,hb]) rfl (fs:=[id]) (by grind) ?_ ?_ hc.symm
   ·intro S' ρ' hSS hF _ _;have kS:ZbM S w (w.alloc (.mapIter (some r) clock #[] clock)):=fun b hb _=>Zaq rfl (h.sIn b hb)
    refine⟨_,rfl,.inr ⟨r,es,clock, #[],kv',hF id (by simp) _ L r hlk (by simp) hL hLb, ?_,Z3 rfl,hl,fun j e q he hq=>⟨(hkv j e q he hq).1.mono kS hSS,(hkv j e q he hq).2.mono kS hSS⟩,hborn,hbd, ?_,rfl⟩⟩
    ·rw[Zaq (w:=w) (x:= .mapIter (some r) clock #[] clock) rfl (Zd8 hb)];omega
    ·have:(es.toList.zip kv').filter (fun x=> !(#[]:Array Nat).contains x.1.born)=es.toList.zip kv':=by simp
     grind[List.map_snd_zip]
   ·intro S' ρ' _ _ hL;exact .it _ _ _ hL rfl
 simp_all
omit h hi ht hlit in
theorem Zbs {t:Nat} {ti:TI} (hty:C.E.ty t=some ti):∃z,(∀w,(zeroValue t).run C.E.prog w= .ok z w)∧z.cells.size=ti.size∧RelP w S z ti.zeroP:=by
 obtain⟨ii,ds,z,hti⟩:=hE.is hty
 obtain⟨hl,hz⟩:=Zco hti.zs
 simp at hl
 have leaf:∀v z',zOk v z'=true→RelP w S v z'.toP∧Zbp v:=by
  intro v z' hz
  unfold zOk at hz
  split at hz
  ·exact⟨.bool false,rfl⟩
  ·rename_i k n k' m
   simp only[Bool.and_eq_true,beq_iff_eq]at hz
   obtain⟨⟨rfl,rfl⟩,rfl⟩:=hz
   refine⟨.int _ _ ?_ ?_,rfl⟩<;>cases k<;>decide
  ·rename_i s
   obtain⟨⟨l⟩⟩:=s
   simp at hz
   subst hz
   exact⟨.str [] (by simp),rfl⟩
  ·exact⟨.sl none 0 0 _ [] (fun _=>default) rfl (by simp) (by simp) (by simp) (by simp) (by simp),rfl⟩
  ·exact⟨.nilp,rfl⟩
  ·exact⟨.nilmap _,rfl⟩
  ·exact⟨.nilfn,rfl⟩
  ·simp at hz
 refine⟨z,fun w=>Z0 hti.info hti.zero w,by rw[hl];exact hti.zl, ?_⟩
 unfold TI.zeroP
 cases hg:ti.isAgg with
 |true=>
  obtain⟨cs,rfl⟩:=hti.agg hg
  simp only[if_true]
  simp only[Value.cells]at hl hz
  refine .agg cs _ (by simp[hl]) (fun j v hv=> ?_) (fun j v c hv hc=> ?_)
  ·have hj:j < ti.zero.length:=by have:=(Array.getElem?_eq_some_iff.1 hv).1;omega
   exact(leaf v ti.zero[j] (hz j v _ (by simpa using hv) (by simp[hj]))).2
  ·rw[List.getElem?_map,Option.map_eq_some_iff]at hc
   obtain⟨y,hy,rfl⟩:=hc
   exact(leaf v y (hz j v y (by simpa using hv) hy)).1
 |false=>
  obtain⟨hc1,hl1⟩:=hti.flat hg
  simp only[Bool.false_eq_true,if_false]
  obtain⟨y,hy⟩:∃y,ti.zero=[y]:=by
   match hq:ti.zero,hl1 with
   | [y],_=>exact⟨y,rfl⟩
  rw[hy]
  simp only[List.map_cons,List.map_nil,List.headD_cons]
  exact(leaf z y (hz 0 z y (by rw[hc1];rfl) (by rw[hy];rfl))).1
omit hlit in
theorem ZgQ {t:TypeId} {l c:Operand} {te:TI} {k1 k2:IntKind} {n1 n2:Int} {c' k:Nat} (ho:o.op= .makeSlice t l c) (e1:a.eval l= .int k1 n1) (e2:a.eval c= .int k2 n2) (hel:C.E.elem t=some te)
  (hc:(if te.isAgg=true∧c' < te.size then match te.zero[c']? with
     |some (.nils k')=>if k'=k then some ({val:= .sl (st.ep,i,0) 0 n1.toNat,new:=[(0,.own te.size c' k (List.replicate n1.toNat te.zeroP) n1.toNat none)],cond:=[decide (0≤n1∧n1≤n2∧n2*te.bytes≤ZD∧n2≤ZD)]}:Eff)else none
     |_=>none
    else none)=some e) (hcond:∀q∈e.cond,q=true):Zv C X st a w i o e:=by
 split at hc
 case isFalse=>simp at hc
 rename_i hag
 split at hc
 case h_2=>simp at hc
 rename_i k' hzc
 split at hc
 case isFalse=>simp at hc
 rename_i hkk
 subst hkk
 cases hc
 obtain⟨g0,g1,g2,g3⟩:=of_decide_eq_true (hcond _ List.mem_cons_self)
 have hel0:=hel
 unfold Env.elem at hel
 split at hel
 case h_2=>simp at hel
 rename_i el sz by_ ze hty
 have hu:=hE.slice hty rfl
 obtain⟨z,hz,hzs,hzr⟩:=Zbs (w:=w) (S:=S) hE hel
 obtain⟨ii,ds,z',hti⟩:=hE.is hel
 have hzz:z'=z:=by
  have h1:=hz w
  rw[Z0 hti.info hti.zero w]at h1
  simpa using h1
 subst hzz
 unfold ZD at g2 g3
 have hr:=run_make (P:=C.E.prog) w t el ii z' hu hti.info hti.zero k1 k2 n1 n2 g0 g1 (by rw[hti.bytes,Int.mul_comm];omega) (by omega)
 rw[hti.size]at hr
 have hcs:(madeCells z'.cells (n2.toNat*te.size)).size=n2.toNat*te.size:=size_madeCells _ _
 have hcell:∀j,j < n2.toNat*te.size→(madeCells z'.cells (n2.toNat*te.size))[j]? =some (z'.cells[j % te.size]!):=fun j hj=>by simp[madeCells,hj,hzs]
 obtain⟨hl,hz2⟩:=Zco hti.zs
 simp at hl
 have hzl:te.zero.length=te.size:=by rw[←hzs];simpa using hl.symm
 have hnil:z'.cells[c']? =some (.slice none 0 0):=by
  have hlt:c' < z'.cells.size:=by rw[hzs];exact hag.2
  have h1:=hz2 c' (z'.cells[c']) (.nils k') (by simp[hlt]) hzc
  have:z'.cells[c']= .slice none 0 0:=by
   generalize z'.cells[c']=u at h1
   unfold zOk at h1
   split at h1<;>simp_all
  rw[←this];simp[hlt]
 have hzP:te.zeroP= .agg (te.zero.map Z.toP):=by unfold TI.zeroP;rw[hag.1];rfl
 generalize hcc:madeCells z'.cells (n2.toNat*te.size)=cells at hr hcs hcell
 let L:Lay:=⟨some w.heap.size,0,te.size,n1.toNat,n2.toNat⟩
 let w':=w.alloc (.cells cells el)
 have hw':w'.heap=w.heap.push (.cells cells el):=rfl
 have hsz:w'.heap.size=w.heap.size+1:=by rw[hw'];simp
 let ρ':Id→Option Lay:=upd ρ (st.ep,i,0) (some L)
 have f:=h.fresh hi
 have hρ:∀id L,ρ id=some L→ρ' id=some L:=by
  intro id L' hL
  simp only[ρ',upd]
  split
  ·rename_i hc;subst hc;rw[f]at hL;simp at hL
  ·exact hL
 have hbox:ρ' (st.ep,i,0)=some L:=by simp[ρ',upd]
 have kp:∀b,b < w.heap.size→w'.heap[b]? =w.heap[b]? :=fun b hb=>Zaq hw' hb
 have cellAt:∀j,j < n2.toNat*te.size→w'.cell? ⟨w.heap.size,j,none⟩=some (z'.cells[j % te.size]!):=fun j hj=>by
  have:w'.cell? ⟨w.heap.size,j,none⟩=cells[j]? :=by simp[World.cell?,Z3 hw']
  rw[this];exact hcell j hj
 have modj:∀m j,j < te.size→(m*te.size+j) % te.size=j:=fun m j hj=>by rw[Nat.mul_comm,Nat.mul_add_mod];exact Nat.mod_eq_of_lt hj
 have inb:∀m j,m < n1.toNat→j < te.size→m*te.size+j < n2.toNat*te.size:=fun m j hm hj=>by
  have:(m+1)*te.size≤n2.toNat*te.size:=Nat.mul_le_mul_right _ (by omega)
  rw[Nat.add_mul]at this;omega
 have rp:∀m y,(List.replicate n1.toNat te.zeroP)[m]? =some y→m < n1.toNat∧y= .agg (te.zero.map Z.toP):=fun m y hy=>by
  rw[List.getElem?_replicate]at hy
  split at hy
  rotate_left
  simp at hy
  rename_i hm;simp only[Option.some.injEq]at hy;exact⟨hm,by rw[←hy,hzP]⟩
 have hzc2:(te.zero.map Z.toP)[c']? =some (.sl k' []):=by rw[List.getElem?_map,hzc];rfl
 refine⟨_,.slice (some ⟨w.heap.size,0,none⟩) n1.toNat n2.toNat,w',by simp only[execOp,ho,e1,e2,Sem.run_bind,hr,Result.andThen_ok,Sem.run_pure];rfl,.inl rfl,ρ',h.stepG (i:=i) (t:=o.dst) ρ' hi ht (by omega) ⟨rfl,rfl⟩ (fun b hb _=>kp b hb) (by simp) hρ ?_ (by simp) ?_ ?_ (by simp) ?_ ?_⟩
 ·intro id hn
  simp only[ρ',upd]at hn
  split at hn
  ·rename_i hc;subst hc;exact .inr ⟨rfl,rfl⟩
  ·exact .inl hn
 ·intro k o' hm
  simp only[List.mem_singleton,Prod.mk.injEq]at hm
  obtain⟨rfl,rfl⟩:=hm
  refine⟨L,hbox,fun b hb=> ?_,fun S' hS _ _=> ?_⟩
  ·simp only[L,Option.some.injEq]at hb;subst hb;exact⟨.inl (Nat.le_refl _),by omega⟩
  refine⟨rfl,by simp[L],by simp only[L];omega,by simp only[L];unfold Z9;omega,hag.2,by simp[L],fun b hb j hj=> ?_,fun m y hy=> ?_⟩
  ·simp only[L,Option.some.injEq]at hb;subst hb
   simp only[L,Nat.zero_add]at hj⊢
   refine⟨⟨_,cellAt j hj⟩, ?_⟩
   simp only[World.frozen?,Z3 hw']
   simp
  ·obtain⟨hm,rfl⟩:=rp m y hy
   refine⟨_,[],rfl,by simp[hzl],hzc2,fun b hb j x v hx hv=> ?_⟩
   simp only[L,Option.some.injEq]at hb;subst hb
   have hj:j < te.size:=by have:=(List.getElem?_eq_some_iff.1 hx).1;simp at this;omega
   simp only[L,Nat.zero_add]at hv
   rw[cellAt _ (inb m j hm hj),modj m j hj]at hv
   rw[hzP]at hzr
   have hu':z'.cells[j]? =some v:=by
    have hlt:j < z'.cells.size:=by rw[hzs];exact hj
    simp only[getElem!_def,Array.getElem?_eq_getElem hlt,Option.some.injEq]at hv
    rw[←hv];simp[hlt]
   have r:=hzr.cell (j:=j) (u:=v) (c:=x) hu' hx
   exact⟨r.2,fun _=>r.1.mono (fun b hb _=>kp b (h.sIn b hb)) hS⟩
 ·intro k o1 L1 k' o2 L2 b hm _ hL hb hm' _ hL' hb'
  simp only[List.mem_singleton,Prod.mk.injEq]at hm hm'
  rw[hm.1,hm'.1]
 ·intro S' hS _ d _
  exact .sl _ _ _ _ _ L hbox (by simp[L]) (by unfold Z9 Zr;omega) (by omega) (.inr ⟨_,rfl,by simp[L],by simp[L]⟩)
 ·intro S' hSS hS' hkp
  have hS0:∀b,S' b→S b:=fun b hb=>(hS' b hb).elim (fun h=>h) fun⟨_,_,_,hm,_⟩=>by simp at hm
  obtain⟨κ,F⟩:=h.fam
  generalize he:(st.app i o.dst {val:= .sl (st.ep,i,0) 0 n1.toNat,new:=[(0,.own te.size c' k' (List.replicate n1.toNat te.zeroP) n1.toNat none)],cond:=[decide (0≤n1∧n1≤n2∧n2*te.bytes≤ZD∧n2≤ZD)]})=st2
  have hob:∀id1 ob,st2.objs id1=some ob→(id1=(st.ep,i,0)∧ob= .own te.size c' k' (List.replicate n1.toNat te.zeroP) n1.toNat none)∨st.objs id1=some ob:=by
   intro id1 ob hob
   rw[←he]at hob
   rcases ZK st i _ _ id1 ob hob with ⟨k1,rfl,hm⟩ |hm |⟨_,hob⟩
   ·simp only[List.mem_singleton,Prod.mk.injEq]at hm
    exact .inl ⟨by rw[hm.1],hm.2⟩
   ·simp at hm
   ·exact .inr hob
  have hf2:∀id1,st2.fz id1=st.fz id1:=fun id1=>by rw[←he,ZbK];simp
  have rold:∀id L,ρ id≠none→ρ' id=some L→ρ id=some L:=fun id L hn hL=>by
   cases hc:ρ id with
   |none=>exact absurd hc hn
   |some L0=>have:=hρ id L0 hc;rw[hL]at this;rw[this]
  have ko:∀{id1 i1 sz1 c1 k1 l1},Kid st2.objs st2.fz id1 i1 sz1 c1 k1 l1→(id1=(st.ep,i,0)∧i1 < n1.toNat∧sz1=te.size∧c1=c'∧k1=k'∧l1=[])∨(id1≠(st.ep,i,0)∧Kid st.objs st.fz id1 i1 sz1 c1 k1 l1):=by
   rintro id1 i1 sz1 c1 k1 l1 ⟨es1,lo1,out1,cs1,ho1,hf,q1,q2,q0,q3⟩
   rw[hf2]at hf
   rcases hob _ _ ho1 with ⟨rfl,ho2⟩ |ho1
   ·simp only[Obj.own.injEq]at ho2
    obtain⟨rfl,rfl,rfl,rfl,rfl,rfl⟩:=ho2
    obtain⟨_,hy⟩:=rp _ _ q1
    simp only[P.agg.injEq]at hy;subst hy
    rw[hzc2]at q2
    simp only[Option.some.injEq,P.sl.injEq]at q2
    exact .inl ⟨rfl,q0,rfl,rfl,rfl,q2.2.symm⟩
   ·refine .inr ⟨fun e=> ?_,⟨es1,lo1,out1,cs1,ho1,hf,q1,q2,q0,q3⟩⟩
    have:=h.known id1 (by simp[ho1])
    rw[e,f]at this;exact this rfl
  refine⟨fun id1 i1=>if id1=(st.ep,i,0)then ⟨none,0,k',0,0⟩else κ id1 i1,fun id1 i1 sz1 c1 k1 l1 L1 hk1 hL1=> ?_,fun id1 i1 sz1 c1 k1 l1 b1 hk1 hb1=> ?_,fun id1 i1 sz1 c1 k1 l1 id2 i2 sz2 c2 k2 l2 b1 h1 h2 h3 h4=> ?_⟩
  ·rcases ko hk1 with ⟨rfl,hlt,rfl,rfl,rfl,rfl⟩ |⟨hne,hk0⟩
   ·simp only[if_true]
    rw[hbox]at hL1;obtain rfl:=Option.some.inj hL1
    refine⟨w.heap.size,.slice none 0 0,rfl, ?_,.sl _ _ _ 0 none _ rfl (by simp) (by simp[Z9,Zr]) (by simp) (.inl rfl),Zau _ _⟩
    simp only[L,Nat.zero_add]
    rw[cellAt _ (inb i1 _ hlt hag.2),modj i1 _ hag.2,getElem!_def,hnil]
   ·simp only[if_neg hne]
    have hk2:=hk0
    obtain⟨es1,lo1,out1,cs1,ho1,_⟩:=hk2
    have hL0:=rold id1 L1 (h.known id1 (by simp[ho1])) hL1
    obtain⟨b1,v1,q1,q2,q3,q4⟩:=F.kid _ _ _ _ _ _ L1 hk0 hL0
    have hb1:=(h.own id1 _ L1 b1 ho1 (by simp) hL0 q1).1
    exact⟨b1,v1,q1,by rw[ZS (kp b1 hb1)];exact q2,q3.mono hkp hSS (fun _ _ h=>h),q4.mono hkp hSS (fun _ _ h=>h) fun b2 hb2=>kp b2 (F.own _ _ _ _ _ _ b2 hk0 hb2).1⟩
  ·rcases ko hk1 with ⟨rfl,hlt,rfl,rfl,rfl,rfl⟩ |⟨hne,hk0⟩
   ·simp at hb1
   ·simp only[if_neg hne]at hb1
    obtain⟨q1,q2,q3,q4⟩:=F.own _ _ _ _ _ _ b1 hk0 hb1
    refine⟨by omega,q2,fun hs=>q3 (hS0 _ hs),fun id2 o2 L2 ho2 hg2 hL2 hb2=> ?_⟩
    rcases hob _ _ ho2 with ⟨rfl,rfl⟩ |ho2
    ·rw[hbox]at hL2;obtain rfl:=Option.some.inj hL2
     simp only[L,Option.some.injEq]at hb2;omega
    ·exact q4 id2 o2 L2 ho2 hg2 (rold id2 L2 (h.known id2 (by simp[ho2])) hL2) hb2
  ·rcases ko h1 with ⟨rfl,_,_⟩ |⟨hne1,hk1⟩
   ·simp at h3
   ·rcases ko h2 with ⟨rfl,_,_⟩ |⟨hne2,hk2⟩
    ·simp at h4
    ·simp only[if_neg hne1]at h3
     simp only[if_neg hne2]at h4
     exact F.inj _ _ _ _ _ _ _ _ _ _ _ _ b1 hk1 hk2 h3 h4
theorem ZeI {t:TypeId} {l c:Operand} (ho:o.op= .makeSlice t l c) (hc:Zf C.E st.ep i o.op o.type st.slots st.objs=some e) (hcond:∀q∈e.cond,q=true):Zv C X st a w i o e:=by
 rw[ho]at hc hlit;simp[Op.operands]at hlit;have h1:=Zm h 0 hlit.1;have h2:=Zm h 0 hlit.2;simp only[Zf]at hc;split at hc;rotate_left;simp at hc;rename_i te k1 n1 k2 n2 hel hn1 hn2;rw[hn1]at h1;rw[hn2]at h2;obtain⟨e1,_,_⟩:=ZbX h1;obtain⟨e2,_,_⟩:=ZbX h2;split at hc
 ·exact ZgQ h hi ht hE ho e1 e2 hel hc hcond
 cases hc;obtain⟨g0,g1,g2,g3⟩:=of_decide_eq_true (hcond _ ZnE);unfold Env.elem at hel;split at hel;rotate_left;simp at hel;rename_i el sz by_ ze hty;have hu:=hE.slice hty rfl;obtain⟨z,hz,hzs,hzr⟩:=Zbs (w:=w) (S:=S) hE hel;obtain⟨ii,ds,z',hti⟩:=hE.is hel;have hzz:z'=z:=by have h1:=hz w;rw[Z0 hti.info hti.zero w]at h1;simp_all
 subst hzz;unfold ZD at g2 g3;have hr:=run_make (P:=C.E.prog) w t el ii z' hu hti.info hti.zero k1 k2 n1 n2 g0 g1 (by rw[hti.bytes,Int.mul_comm];omega) (by omega);rw[hti.size]at hr;have hcs:(madeCells z'.cells (n2.toNat*te.size)).size=n2.toNat*te.size:=size_madeCells _ _;have hcell:∀j,j < n2.toNat*te.size→(madeCells z'.cells (n2.toNat*te.size))[j]? =some (z'.cells[j % te.size]!):=fun j hj=>by grind[madeCells]
 generalize hcc:madeCells z'.cells (n2.toNat*te.size)=cells at hr hcs hcell;refine Zv.arr h hi ht (cells:=cells) (t:=el) (sz:=te.size) (len:=n1.toNat) (cap:=n2.toNat) (es:=ZnG n1.toNat te.zeroP) (evs:=fun _=>z') (w':=w.alloc (.cells cells el)) rfl ⟨rfl,rfl⟩ (by simp) ?_
  (by simp) (by omega) (by grind[Z9,Zr]) hcs (fun _ _=>hzs) ?_ (fs:=[]) (by simp) ?_ rfl
 ·grind[execOp,Sem.run_bind,Result.andThen_ok,Sem.run_pure]
 ·intro j k v hj hv;have hk:k < te.size:=by grind
  have hlt:j*te.size+k < n2.toNat*te.size:=by have:(j+1)*te.size≤n2.toNat*te.size:=ZnK _ (by omega);grind
  grind[Nat.mul_comm,Nat.mul_add_mod,Nat.mod_eq_of_lt]
 ·intro S' hS _ j x hx;rw[List.getElem?_replicate]at hx;split at hx;rotate_left;simp at hx;cases hx;exact hzr.mono (fun _ _ _=>rfl) hS
end
end
end Eng
namespace Eng
open Go
section
variable {C:Ctx} {X:Nat→Prop} {ρ:Id→Option Lay} {S:Nat→Prop} {st:St} {a:Act} {w:World} {i:Nat} {o:Oper} {e:Eff}
theorem ZhR {evs:Nat→Value} {es:List P} (hu:es.all P.isU8=true) (hr:∀(j:Nat) x,es[j]? =some x→RelP w S (evs j) x):
  ∃xs:List Int,xs.length=es.length∧(∀j,j < es.length→evs j= .int .u8 (xs.getD j 0))∧strOfNums xs=⟨(es.map P.byte).toArray⟩:=by
 let f:P→Int:=fun | .int _ n=>n |_=>0
 have key:∀x∈es,x= .int .u8 (f x):=by intro x hx;have:=List.all_eq_true.1 hu x hx;cases x<;>simp[P.isU8]at this;grind
 refine⟨es.map f,by simp,fun j hj=> ?_, ?_⟩
 ·have h1:=hr j es[j] (by grind);rw[key es[j] (List.getElem_mem _)]at h1;rw[h1.int_inv.1];grind
 grind[P.byte,List.map_congr_left,strOfNums]
section
variable (h:Rep C X ρ S st a.tmps w) (hi:¬X i) (ht:∀d,o.dst=some d→d < C.E.nt) (hlit:o.op.operands.all ZE=true) (hE:Zl C.E)
include h hi ht hlit hE
theorem ZgT {s t:TypeId} {x:Operand} (ho:o.op= .convert s t x) (hc:Zf C.E st.ep i o.op o.type st.slots st.objs=some e) (hcond:∀q∈e.cond,q=true):Zv C X st a w i o e:=by
 rw[ho]at hc hlit;simp[Op.operands]at hlit;have h1:=Zm h 0 hlit;simp only[Zf,ZaD]at hc;split at hc
 ·
  rename_i k k' k'' n hs htd hx;rw[hx]at h1;obtain⟨e1,_,_⟩:=ZbX h1;cases hc;obtain⟨d,hu,hd⟩:=hE.und hs;obtain⟨d',hu',hd'⟩:=hE.und htd;have e2:d'= .int k':=by cases d'<;>simp[Zat]at hd';grind
  subst e2;refine Zv.quiet h hi ht (v:= .int k' (k'.wrap n)) ?_ rfl rfl rfl (.p _ _ (.int _ _ (Za9 _ _).1 (Za9 _ _).2));cases d<;>simp[execOp,ho,e1,convert,Za hu,Za hu',Conv.intToInt]<;>rfl
 ·
  rename_i sv hs htd hx;rw[hx]at h1;obtain⟨e1,e2⟩:=h1.of_p.str_inv;cases hc;obtain⟨d,hu,hd⟩:=hE.und hs;obtain⟨d',hu',hd'⟩:=hE.und htd;have e3:d= .string:=by grind[Zat]
  have e4:d'= .string:=by grind[Zat]
  subst e3 e4;exact Zv.quiet h hi ht (v:= .string ⟨sv.toArray⟩) (by simp[execOp,ho,e1,convert,Za hu,Za hu']) rfl rfl rfl (.p _ _ (.str _ e2))
 ·
  rename_i el sv hs htd hx;split at hc;rotate_left;simp at hc;rename_i hel;rw[hx]at h1;obtain⟨e1,e2⟩:=h1.of_p.str_inv;simp only[ZnO]at hc;obtain⟨d,hu,hd⟩:=hE.und hs;obtain⟨d',hu',hd'⟩:=hE.und htd;obtain⟨d'',hu'',hd''⟩:=hE.und hel;have e3:d= .string:=by grind[Zat]
  have e4:d'= .slice el:=by cases d'<;>simp[Zat]at hd';grind
  have e5:d''= .int .u8:=by cases d''<;>simp[Zat]at hd'';simp_all
  subst e3 e4 e5;have hr:=run_bytes_of_string (P:=C.E.prog) w s t el ⟨sv.toArray⟩ hu hu' hu'';have hcap:=grownCap_ge w (ByteArray.size ⟨sv.toArray⟩) 0 el;have hsl:ByteArray.size ⟨sv.toArray⟩=sv.length:=Zba sv;rw[hsl]at hr hcap;have hsz:(bytesRow ⟨sv.toArray⟩ (grownCap w sv.length 0 el)).size=grownCap w sv.length 0 el:=by grind[bytesRow]
  by_cases hbig:sv.length≤Z9
  ·refine Zv.arr h hi ht (cells:=bytesRow ⟨sv.toArray⟩ (grownCap w sv.length 0 el)) (t:=el) (fr:=((bytesRow ⟨sv.toArray⟩ (grownCap w sv.length 0 el)).size,(bytesRow ⟨sv.toArray⟩ (grownCap w sv.length 0 el)).size+1)) (w':=w.drew.alloc (.cells (bytesRow ⟨sv.toArray⟩ (grownCap w sv.length 0 el)) el ((bytesRow ⟨sv.toArray⟩ (grownCap w sv.length 0 el)).size,(bytesRow ⟨sv.toArray⟩ (grownCap w sv.length 0 el)).size+1))) (sz:=1) (len:=sv.length) (cap:=grownCap w sv.length 0 el) (es:=ZaR sv)
    (evs:=fun j=> .int .u8 (sv.getD j 0).toNat) rfl ⟨rfl,rfl⟩ (fun j hj=>by omega) (by grind[execOp,Sem.run_bind,Result.andThen_ok,Sem.run_pure])
    (by simp[ZaR]) hcap ⟨hbig,grownCap_le_maxLen w sv.length 0 el (by grind[Z9,maxLen])⟩ (by omega) (fun _ _=>rfl) ?_ (fs:=[]) (by simp) ?_ hc.symm
   ·grind[Value.cells,bytesRow]
   ·intro S' _ _ j x hx;have hj:j < sv.length:=by grind[ZaR]
    simp[ZaR,hj]at hx;subst hx;have:(sv.getD j 0)=sv[j]:=by grind
    rw[this];have hb:=sv[j].toNat_lt;refine .int .u8 _ ?_ ?_<;>simp[IntKind.min,IntKind.max,IntKind.signed,IntKind.bits]<;>omega
  ·exact absurd (of_decide_eq_true (hcond _ (by rw[←hc];exact ZnE))) hbig
 ·
  rename_i _ el hs htd;split at hc;rotate_left;simp at hc;rename_i sz es hel hx;simp only[ZnO]at hc;have hu8:es.all P.isU8=true:=hcond _ (by grind);obtain⟨d,hu,hd⟩:=hE.und hs;obtain⟨d',hu',hd'⟩:=hE.und htd;obtain⟨d'',hu'',hd''⟩:=hE.und hel;have e3:d= .slice el:=by cases d<;>simp[Zat]at hd;grind
  have e4:d'= .string:=by grind[Zat]
  have e5:d''= .int .u8:=by cases d''<;>simp[Zat]at hd'';simp_all
  subst e3 e4 e5;have hp:=Zaf (S':=fun _=>True) h.objs (fun _ _=>trivial) 1 _ _ _ h1 hx (fun _ _ _ _ _ _=>trivial);subst hc;generalize hv:a.eval x=v at hp;cases hp with
  |sl ad len cap sz es evs hl hm hcp hsz hcell hr=>
   obtain⟨xs,hxl,hxe,hxs⟩:=ZhR hu8 hr;refine Zv.quiet h hi ht (v:= .string ⟨(es.map P.byte).toArray⟩) ?_ rfl rfl rfl (.p _ _ (.str _ (by grind[Z9,Zr])));have hrun:(convert s t (.slice ad len cap)).run C.E.prog w= .ok (.string ⟨(es.map P.byte).toArray⟩) w:=by
    cases ad with
    |none=>
     have h0:len=0:=by
      cases len with
      |zero=>rfl
      |succ n=>obtain⟨b,o',hb,_⟩:=hcell 0 (by omega);simp_all
     subst h0;have hes:es=[]:=List.eq_nil_of_length_eq_zero hl;subst hes;rw[run_convert_bytes_nil w s el hu hu'' 0 cap t hu'];rfl
    |some ad=>
     by_cases h0:len=0
     ·subst h0;have hes:es=[]:=List.eq_nil_of_length_eq_zero hl;subst hes;rw[run_convert_bytes_string w s t el (some ad) 0 cap hu hu'' hu',run_bytesToString w ad 0 cap [] (by simpa using run_loadCells_list (P:=C.E.prog) w ad [] (by simp))];rfl
     ·obtain⟨b,o',hb,_⟩:=hcell 0 (by omega);cases hb;rw[run_convert_bytes_arg w s el hu hu'' b o' len cap xs (by omega) (fun j hj=>by obtain⟨b',o'',hb',_,hc'⟩:=hcell j hj;simp only[ZnO,Addr.mk.injEq]at hb';obtain⟨rfl,rfl,_⟩:=hb';have hj':=hxe j (by omega);have hs1:=hsz j hj;rw[hj']at hs1;simp[Value.cells]at hs1;have:=hc' 0 (.int .u8 (xs.getD j 0)) (by rw[hj'];rfl);grind) t hu',hxs]
   grind[execOp,Sem.run_bind,Result.andThen_ok,Sem.run_pure]
 simp_all
end
end
end Eng
