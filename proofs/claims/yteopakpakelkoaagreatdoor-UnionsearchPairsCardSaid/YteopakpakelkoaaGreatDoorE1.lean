/- The engine, text 1: an abstract evaluator of Go code over pure data, proved sound. -/
import Derived.Orders
import Derived.Laws.Sem
import Derived.Laws.World
import Derived.Laws.Cells
import Derived.Laws.IdiomCopy
import Derived.Laws.Entries
import Derived.Laws.Slices
import Derived.Laws.StructEq
import Derived.Lib.Strings
import Derived.Laws.MakeOwn
import Derived.Laws.IdiomStrings
import Derived.Laws.BytesArg
set_option linter.all false
open Array renaming getElem?_eq_getElem->Znp, getElem?_eq_some_iff->Znq, getElem?_extract->Znr, mem_iff_getElem->Zns, mem_toList_iff->Znt, getElem?_append->ZnQ
open Bool renaming and_eq_true->Znu, false_eq_true->Znv, not_eq_true'->ZnU, or_eq_false_iff->Zom
open Int renaming eq_ofNat_of_zero_le->Znw, toNat_natCast->Znx
open List renaming getElem?_cons_zero->Zny, getElem?_drop->Znz, getElem?_eq_some_iff->ZnA, getElem?_map->ZnB, getElem?_take->ZnC, map_cons->Zn6, mem_append->Zn7, mem_cons->ZnD, mem_cons_self->ZnE, mem_flatMap->Zob, mem_singleton->ZnF, replicate->ZnG, contains_iff_mem->ZnY, eq_nil_of_length_eq_zero->ZnZ, mem_of_getElem?->Zoe, map_nil->Zot, mem_of_find?_eq_some->ZoC
open Nat renaming add_assoc->ZnH, add_mul->ZnI, le_refl->ZnJ, mul_le_mul_right->ZnK, one_mul->Zoj, zero_add->Zok
open Option renaming getD_some->ZnL, map_eq_some_iff->ZnM, some.inj->ZnN, some.injEq->ZnO, map_some->Zow
open Prod renaming mk.injEq->ZnP
namespace Eng
open Go
inductive TD where
 |bool |int (k:IntKind) |str
 |sl (e:Nat) |arr (n e:Nat) |ptr (e:Nat) |map (k e:Nat)
 |struct (fs:List (Nat×Nat))
 |func |tup |other
 deriving Inhabited
inductive P where
 |bool (b:Bool)
 |int (k:IntKind) (n:Int)
 |str (s:List UInt8)
 |agg (cs:List P)
 |sl (sz:Nat) (es:List P)
 |nilp
 |ptr (cs:List P)
 |map (td:TD) (kv:List (P×P))
 |fn (f:Nat) (first caps:List P)
 |nilfn
 deriving Inhabited
def P.cells:P->List P
 | .agg cs=>cs
 |x=>[x]
abbrev Id:=Nat×Nat×Nat
inductive D where
 |p (x:P)
 |dead
 |undef
 |anyb
 |nils (sz:Nat)
 |clip (sz:Nat) (es:List P)
 |agg (cs:List D)
 |tup (vs:List D)
 |sl (id:Id) (off len:Nat)
 |ptr (id:Id) (i j:Nat)
 |map (id:Id)
 |it (id:Id)
 |fn (f:Nat) (first caps:List D)
 |rp (x:Option P) (id:Id)
 |val (v:Value)
 deriving Inhabited
def D.cells:D->List D
 | .agg cs=>cs
 | .p (.agg cs)=>cs.map .p
 |d=>[d]
def D.okv:D->Bool
 | .dead | .undef | .tup _ | .val _=>false
 |_=>true
inductive Obj where
 |box (cs:List D)
 |arr (sz:Nat) (es:List P) (fix:Bool)
 |map (td:TD) (kv:List (P×P))
 |sit (s:List UInt8) (pos:Nat)
 |gone
 |own (sz c k:Nat) (es:List P) (lo:Nat) (out:Option Nat)
 deriving Inhabited
def Obj.isOwn:Obj->Bool
 | .own .. =>true
 |_=>false
@[simp] theorem isOwn_box (cs:List D):(Obj.box cs).isOwn=false:=rfl
@[simp] theorem isOwn_arr (sz:Nat) (es:List P) (fix:Bool):(Obj.arr sz es fix).isOwn=false:=rfl
@[simp] theorem isOwn_map (td:TD) (a:List (P×P)):(Obj.map td a).isOwn=false:=rfl
@[simp] theorem isOwn_sit (s:List UInt8) (a:Nat):(Obj.sit s a).isOwn=false:=rfl
@[simp] theorem Zng:Obj.gone.isOwn=false:=rfl
def Obj.soft:Obj->Bool
 | .arr _ _ true=>true
 |_=>false
@[simp] theorem soft_box (cs:List D):(Obj.box cs).soft=false:=rfl
@[simp] theorem soft_arr (sz:Nat) (es:List P) (fix:Bool):(Obj.arr sz es fix).soft=fix:=by cases fix<;>rfl
@[simp] theorem soft_map (td:TD) (a:List (P×P)):(Obj.map td a).soft=false:=rfl
@[simp] theorem soft_sit (s:List UInt8) (a:Nat):(Obj.sit s a).soft=false:=rfl
@[simp] theorem soft_own (sz c k:Nat) (es:List P) (lo:Nat) (a:Option Nat):(Obj.own sz c k es lo a).soft=false:=rfl
@[simp] theorem soft_gone:Obj.gone.soft=false:=rfl
def loUp:Option Nat->Nat->Nat
 |none,lo=>lo+1
 |some _,lo=>lo
structure St where
 slots:Nat->D
 objs:Id->Option Obj
 fz:Id->Bool
 ep:Nat
def upd {c β:Type} [DecidableEq c] (f:c->β) (a:c) (b:β):c->β:=fun x=>if x=a then b else f x
def St.set (a:St) (t:Nat) (d:D):St:={a with slots:=upd a.slots t d}
def St.setO (a:St):Option Nat->D->St
 |some t,d=>a.set t d
 |none,_=>a
def St.obj (a:St) (id:Id) (o:Obj):St:={a with objs:=upd a.objs id (some o)}
def St.freeze (a:St) (id:Id):St:={a with fz:=upd a.fz id true}
def St.objL (a:St):List (Id×Obj)->St
 | []=>a
 |(id,o)::r=>(a.obj id o).objL r
def St.freezeL (a:St):List Id->St
 | []=>a
 |id::r=>(a.freeze id).freezeL r
def St.next (a:St):St:={a with ep:=a.ep+1}
inductive Z where
 |p (x:P)
 |nils (sz:Nat)
 deriving Inhabited
def Z.toD:Z->D
 | .p x=> .p x
 | .nils sz=> .nils sz
def Z.toP:Z->P
 | .p x=>x
 | .nils sz=> .sl sz []
structure TI where
 d:TD
 size:Nat
 bytes:Nat
 zero:List Z
 deriving Inhabited
def TI.isAgg (i:TI):Bool:=match i.d with | .struct _ | .arr _ _=>true |_=>false
structure Env where
 prog:Program
 tys:List (Option TI)
 globs:List (Nat×List P)
 nt:Nat
 owns:List (Nat×Nat×Nat):=[]
def Env.ty (E:Env) (t:Nat):Option TI:=match E.tys[t]? with |some (some i)=>some i |_=>none
def Env.td (E:Env) (t:Nat):Option TD:=match E.ty t with |some i=>some i.d |none=>none
def Env.elem (E:Env) (t:Nat):Option TI:=
 match E.ty t with
 |some {d:= .sl e, .. }=>E.ty e
 |_=>none
def Env.elemSize (E:Env) (t:Nat):Nat:=match E.elem t with |some te=>te.size |none=>0
def Env.keyTD (E:Env) (t:Nat):TD:=
 match E.ty t with
 |some {d:= .map k _, .. }=>(match E.td k with
  |some (.arr n e)=>(match E.td e with |some (.int .i64)=> .arr n 0 |_=> .other)
  |some d=>d
  |none=> .other)
 |_=> .other
def D.ofV (sz:Nat) (td:TD):Value->D
 | .bool b=> .p (.bool b)
 | .int k n=> .p (.int k n)
 | .string s=> .p (.str s.data.toList)
 | .slice none 0 0=> .nils sz
 | .pointer none=> .p .nilp
 | .map none=> .p (.map td [])
 | .nilFunc=> .p .nilfn
 |_=> .dead
def Env.glob (E:Env) (g:Nat):D:=match E.globs.find? (·.1 == g)with |some x=> .p (.ptr x.2) |none=> .dead
def ev (E:Env) (sl:Nat->D) (t:Nat):Operand->D
 | .tmp s=>sl s
 | .const v=> .ofV (E.elemSize t) (E.keyTD t) v
 | .global g=>E.glob g
 | .func f=> .p (.fn f [] [])
def Zj {a β:Type} (f:a->Option β):List a->Option (List β)
 | []=>some []
 |x::xs=>match f x,Zj f xs with
  |some y,some ys=>some (y::ys)
  |_,_=>none
def D.pure?:D->Option P
 | .p x=>some x
 |_=>none
def D.mkAgg (cs:List D):D:=match Zj D.pure? cs with |some a=> .p (.agg a) |none=> .agg cs
def D.toP (lk:Id->Option Obj):Nat->D->Option P
 |_,.p x=>some x
 |_,.nils sz=>some (.sl sz [])
 |_,.clip sz es=>some (.sl sz es)
 |_,.sl id off len=>match lk id with
  |some (.arr sz es _)=>some (.sl sz ((es.drop off).take len))
  |_=>none
 |_,.map id=>match lk id with
  |some (.map td kv)=>some (.map td kv)
  |_=>none
 |n+1,.agg cs=>(Zj (D.toP lk n) cs).map .agg
 |n+1,.ptr id i j=>match lk id with
  |some (.box cs)=>if i=0 then (Zj (D.toP lk n) (cs.drop j)).map .ptr else none
  |some (.arr _ es _)=>some (.ptr ((es.getD i default).cells.drop j))
  |_=>none
 |n+1,.fn f first caps=>match Zj (D.toP lk n) first,Zj (D.toP lk n) caps with
  |some a,some b=>some (.fn f a b)
  |_,_=>none
 |_,_=>none
def D.ids (lk:Id->Option Obj):Nat->D->List Id
 |_,.sl id _ _=>[id]
 |_,.map id=>[id]
 |_,.it id=>[id]
 |_,.rp _ id=>[id]
 |n+1,.agg cs=>cs.flatMap (D.ids lk n)
 |n+1,.tup vs=>vs.flatMap (D.ids lk n)
 |n+1,.ptr id _ j=>id::(match lk id with
  |some (.box cs)=>(cs.drop j).flatMap (D.ids lk n)
  |_=>[])
 |n+1,.fn _ first caps=>first.flatMap (D.ids lk n)++caps.flatMap (D.ids lk n)
 |0,.ptr id _ _=>[id]
 |_,_=>[]
def depth:Nat:=8
def ZfZ (c:BinOp) (k:IntKind) (x y:Int):Option Int:=
 let a:=BitVec.ofInt k.bits x
 let b:=BitVec.ofInt k.bits y
 match c with
 | .and=>some (k.wrap (a&&& b).toNat)
 | .or=>some (k.wrap (a|||b).toNat)
 | .xor=>some (k.wrap (a ^^^ b).toNat)
 | .andNot=>some (k.wrap (a&&& ~~~b).toNat)
 |_=>none
def Zls:Int->Bool
 | .ofNat m=>Nat.ble m 9223372036854775807
 | .negSucc m=>Nat.ble m 9223372036854775807
theorem Zkn {n:Int}:Zls n=true<->IntKind.i64.min<=n/\n<=IntKind.i64.max:=by
 have b:IntKind.i64.min= -9223372036854775808:=by decide
 have a:IntKind.i64.max=9223372036854775807:=by decide
 rw[b,a];cases n with
 |ofNat m=>
  show Nat.ble m 9223372036854775807=true<->_;grind[Nat.ble_eq]
 |negSucc m=>
  show Nat.ble m 9223372036854775807=true<->_;grind[Nat.ble_eq]
def ZaJ (k:IntKind) (n:Int):P×List Bool:=
 match k with
 | .i64=>(.int .i64 n,[Zls n])
 |k=>(.int k (k.wrap n),[])
def ZmN (op:BinOp) (k:IntKind) (x y:Int):Option (P×List Bool):=
 match op with
 | .add=>some (ZaJ k (x+y))
 | .sub=>some (ZaJ k (x - y))
 | .mul=>some (ZaJ k (x*y))
 | .quo=>some ((ZaJ k (x.tdiv y)).1,decide (y≠0)::(ZaJ k (x.tdiv y)).2)
 | .rem=>some (.int k (x.tmod y),[decide (y≠0)])
 | .eql=>some (.bool (x == y),[])
 | .neq=>some (.bool (x != y),[])
 | .lss=>some (.bool (x < y),[])
 | .leq=>some (.bool (x<=y),[])
 | .gtr=>some (.bool (x > y),[])
 | .geq=>some (.bool (x>=y),[])
 |op=>match ZfZ op k x y with
  |some n=>some (.int k n,[])
  |none=>none
def Zhg (a:BinOp) (k:IntKind) (x y:Int):Option (P×List Bool):=
 match a with
 | .shl=>some (.int k (k.wrap (x*2 ^ (min y.toNat k.bits))),[decide (0<=y)])
 | .shr=>some (.int k (x.fdiv (2 ^ (min y.toNat k.bits))),[decide (0<=y)])
 |_=>none
def Zr:Nat:=9223372036854775807
def Zmm (a:BinOp) (x y:List UInt8):Option (P×List Bool):=
 match a with
 | .add=>some (.str (x++y),[decide (x.length+y.length<=Zr)])
 | .eql=>some (.bool (x == y),[])
 | .neq=>some (.bool !(x == y),[])
 | .lss=>some (.bool (Op.bytesLess x y),[])
 | .leq=>some (.bool (Op.bytesLess x y||x == y),[])
 | .gtr=>some (.bool !(Op.bytesLess x y||x == y),[])
 | .geq=>some (.bool !(Op.bytesLess x y),[])
 |_=>none
def P.eqc:P->P->Option Bool
 | .bool a,.bool b=>some (a == b)
 | .int k a,.int k' b=>if k=k' then some (a == b)else none
 | .str a,.str b=>some (a == b)
 |_,_=>none
def P.eqcs:List P->List P->Option Bool
 | [],[]=>some true
 |x::xs,y::ys=>match P.eqc x y,P.eqcs xs ys with
  |some a,some b=>some (a&&b)
  |_,_=>none
 |_,_=>none
def P.eqv:P->P->Option Bool
 | .agg as,.agg bs=>P.eqcs as bs
 |x,y=>P.eqc x y
def Zm0 (op:BinOp):P->P->Option (P×List Bool)
 | .int k a,.int k' b=>
  match op with
  | .shl | .shr=>Zhg op k a b
  |op=>if k=k' then ZmN op k a b else none
 | .str a,.str b=>Zmm op a b
 |_,_=>none
def Zdi:TD->Operand->D->Option D
 | .ptr _,.const (.pointer none),d=>match d with
  | .p .nilp=>some (.p (.bool true))
  | .p (.ptr _) | .ptr _ _ _=>some (.p (.bool false))
  |_=>none
 | .func,.const .nilFunc,d=>match d with
  | .p .nilfn=>some (.p (.bool true))
  | .p (.fn _ _ _) | .fn _ _ _=>some (.p (.bool false))
  |_=>none
 | .sl _,.const (.slice none 0 0),d=>match d with
  | .nils _=>some (.p (.bool true))
  | .p (.sl _ es)=>some (if es.isEmpty then .anyb else .p (.bool false))
  | .sl _ _ len=>some (if len=0 then .anyb else .p (.bool false))
  |_=>none
 |_,_,_=>none
def Operand.isNil:Operand->Bool
 | .const (.pointer none) | .const (.slice none 0 0) | .const .nilFunc=>true
 |_=>false
def D.notb:D->Option D
 | .p (.bool b)=>some (.p (.bool !b))
 | .anyb=>some .anyb
 |_=>none
def ZkJ (c:BinOp) (a b:Bool):Option P:=
 match c with
 | .eql=>some (.bool (a == b))
 | .neq=>some (.bool !(a == b))
 |_=>none
def unop (a:UnOp):P->Option (P×List Bool)
 | .int k n=>match a with
  | .neg=>some (ZaJ k (0 - n))
  | .xor=>match ZfZ .xor k (if k.signed then -1 else k.max) n with
   |some m=>some (.int k m,[])
   |none=>none
  |_=>none
 | .bool b=>match a with
  | .not=>some (.bool !b,[])
  |_=>none
 |_=>none
def P.key (x y:P):Bool:=(P.eqv x y).getD false
def Zbq (a:List (P×P)) (k:P):Option P:=(a.find? fun e=>P.key k e.1).map (·.2)
def ZjD (a:List (P×P)) (k v:P):List (P×P):=
 if a.any (fun e=>P.key k e.1)then a.map fun e=>if P.key k e.1 then (e.1,v)else e else a++[(k,v)]
def ZkY (a:List (P×P)) (k:P):List (P×P):=a.filter fun e=> !P.key k e.1
def ZZ:TD->P->Bool
 | .bool,.bool _=>true
 | .int k,.int k' _=>k == k'
 | .str,.str _=>true
 |_,_=>false
def Zam:TD->P->Bool
 | .arr _ _,.agg [.int .i64 _,.int .i64 _]=>true
 |td,x=>ZZ td x
def TD.same:TD->TD->Bool
 | .bool,.bool=>true
 | .arr n e,.arr m e'=>n == 2&&m == 2&&e == 0&&e' == 0
 | .int k,.int k'=>k == k'
 | .str,.str=>true
 |_,_=>false
end Eng
namespace Eng
open Go
structure Eff where
 val:D
 new:List (Nat×Obj):=[]
 wr:List (Id×Obj):=[]
 frz:List Id:=[]
 cond:List Bool:=[]
def ZT {a:Type} (xs:List a) (j:Nat) (b:List a):List a:=xs.take j++b++xs.drop (j+b.length)
def ZeO (ep i:Nat):Nat->List D->List D
 |_,[]=>[]
 |k,.nils _::r=> .sl (ep,i,k) 0 0::ZeO ep i (k+1) r
 |k,d::r=>d::ZeO ep i (k+1) r
def ZU:Nat->List D->List (Nat×Obj)
 |_,[]=>[]
 |k,.nils sz::r=>(k,.arr sz [] false)::ZU (k+1) r
 |k,_::r=>ZU (k+1) r
@[simp] theorem ZdG (k:Nat) (a:List D):∀m o,(m,o)∈ZU k a->o.isOwn=false:=by
 intro m o
 induction a generalizing k with
 |nil=>simp[ZU]
 |cons d r b=>cases d<;>simp only[ZU,ZnD,ZnP]<;>first |exact b _ |(rintro(⟨_,rfl⟩ |h)<;>first |rfl |grind)
def ZaW (E:Env) (f:Nat->Option (List TD)) (c:Nat):Nat->List (Nat×Nat)->Option (List TD)
 |off,[]=>if off=c then some []else none
 |off,(o,t)::r=>if o=off then match f t,E.ty t with
   |some a,some ti=>if a.length=ti.size then match ZaW E f c (off+ti.size) r with
    |some b=>some (a++b)
    |none=>none
    else none
   |_,_=>none
  else none
def Zbf (E:Env):Nat->Nat->Option (List TD)
 |0,_=>none
 |n+1,t=>match E.ty t with
  |some ti=>match ti.d with
   | .bool=>some [.bool]
   | .int k=>some [.int k]
   | .str=>some [.str]
   | .struct fs=>ZaW E (Zbf E n) ti.size 0 fs
   |_=>none
  |none=>none
def eqt:List TD->List P->List P->Option Bool
 | [],[],[]=>some true
 |td::r,x::xs,y::ys=>if ZZ td x&&ZZ td y then match P.eqc x y,eqt r xs ys with
   |some a,some b=>some (a&&b)
   |_,_=>none
  else none
 |_,_,_=>none
def Zm6 (E:Env) (a:BinOp) (t:Nat) (u v:List P):Option P:=
 match E.td t,Zbf E depth t with
 |some (.struct _),some tds=>match a,eqt tds u v with
  | .eql,some b=>some (.bool b)
  | .neq,some b=>some (.bool !b)
  |_,_=>none
 |_,_=>none
def TI.part (E:Env) (ti:TI) (i:Nat):Option (Nat×Nat):=
 match ti.d with
 | .struct fs=>fs[i]?
 | .arr _ e=>match E.ty e with |some te=>some (i*te.size,e) |none=>none
 |_=>none
def Zb4 (E:Env) (sl:Nat->D) (ti:TI):List (Nat×Operand)->List D->Option (List D)
 | [],cs=>some cs
 |(i,x)::r,cs=>match ti.part E i with
  |some (off,t)=>match E.ty t with
   |some b=>let a:=(ev E sl t x).cells
    if a.length=b.size/\off+a.length<=cs.length/\(ev E sl t x).okv=true then Zb4 E sl ti r (ZT cs off a)else none
   |none=>none
  |none=>none
def ZH (E:Env) (sl:Nat->D) (lk:Id->Option Obj) (t:Nat) (te:TI):List (Nat×Operand)->List P->Option (List P)
 | [],es=>some es
 |(i,x)::r,es=>match (ev E sl t x).toP lk depth with
  |some y=>if y.cells.length=te.size/\i < es.length then ZH E sl lk t te r (es.set i y)else none
  |none=>none
def TI.zeroP (ti:TI):P:=if ti.isAgg then .agg (ti.zero.map Z.toP)else (ti.zero.map Z.toP).headD default
def Zc4 (E:Env) (sl:Nat->D) (lk:Id->Option Obj) (t:Nat) (xs:List (Nat×Operand)):List Id:=xs.flatMap fun x=>(ev E sl t x.2).ids lk depth
def Zdp (ti:TI) (cs:List P):Option P:=
 if ti.isAgg then (if ti.size<=cs.length then some (.agg (cs.take ti.size))else none)
 else cs.head?
def ZfK (ti:TI) (cs:List D):Option D:=
 if ti.isAgg then (if ti.size<=cs.length then some (.mkAgg (cs.take ti.size))else none)
 else cs.head?
def P.put (e:P) (sz j:Nat) (x:P):P:=
 if j=0/\x.cells.length=sz then x
 else match e with
  | .agg cs=> .agg (ZT cs j x.cells)
  |_=>x
def ZaV (lk:Id->Option Obj) (sz:Option Nat) (x:D) (lo hi mx:Option Int):Option Eff:=
 match sz,x with
 |none,.p (.str s)=>match mx with
  |some _=>none
  |none=>some {val:= .p (.str ((s.take (hi.getD s.length).toNat).drop (lo.getD 0).toNat)),cond:=[decide (0<=lo.getD 0/\lo.getD 0<=hi.getD s.length/\hi.getD s.length<=s.length)]}
 |some sz',.p (.sl sz es)=>if sz=sz' then match mx,hi with
  |none,_=>some {val:= .p (.sl sz ((es.take (hi.getD es.length).toNat).drop (lo.getD 0).toNat)),cond:=[decide (0<=lo.getD 0/\lo.getD 0<=hi.getD es.length/\hi.getD es.length<=es.length)]}
  |some m,some h=>some {val:= .clip sz ((es.take h.toNat).drop (lo.getD 0).toNat),cond:=[decide (0<=lo.getD 0/\lo.getD 0<=h/\h<=es.length/\m=h)]}
  |_,_=>none
  else none
 |some sz',.sl id off len=>match lk id with
  |some (.arr sz es _)=>if sz=sz' then match mx,hi with
   |none,_=>some {val:= .sl id (off+(lo.getD 0).toNat) ((hi.getD len).toNat - (lo.getD 0).toNat),cond:=[decide (0<=lo.getD 0/\lo.getD 0<=hi.getD len/\hi.getD len<=len)]}
   |some m,some h=>some {val:= .clip sz ((es.drop (off+(lo.getD 0).toNat)).take (h.toNat - (lo.getD 0).toNat)),frz:=[id],cond:=[decide (0<=lo.getD 0/\lo.getD 0<=h/\h<=len/\m=h)]}
   |_,_=>none
   else none
  |_=>none
 |some _,.nils sz=>match mx with
  |none=>some {val:= .nils sz,cond:=[decide (lo.getD 0=0/\hi.getD 0=0)]}
  |some _=>none
 |_,_=>none
def Zb1 (E:Env) (sl:Nat->D):Option Operand->Option (Option Int)
 |none=>some none
 |some x=>match ev E sl 0 x with
  | .p (.int _ n)=>some (some n)
  |_=>none
def Zf4 (lk:Id->Option Obj):TD->D->Option (Nat×List Bool)
 | .arr n _,_=>some (n,[n<=Zr])
 | .str,.p (.str s)=>some (s.length,[])
 | .sl _,.p (.sl _ es)=>some (es.length,[])
 | .sl _,.clip _ es=>some (es.length,[])
 | .sl _,.nils _=>some (0,[])
 | .sl _,.sl _ _ len=>some (len,[])
 | .map _ _,.p (.map _ a)=>some (a.length,[decide (a.length<=Zr)])
 | .map _ _,.map id=>match lk id with |some (.map _ a)=>some (a.length,[decide (a.length<=Zr)]) |_=>none
 |_,_=>none
def ZfI (lk:Id->Option Obj):D->Option (TD×List (P×P))
 | .p (.map td a)=>some (td,a)
 | .map id=>match lk id with |some (.map td a)=>some (td,a) |_=>none
 |_=>none
def ZD:Nat:=140737488355328
def ZaR (s:List UInt8):List P:=s.map fun b=> .int .u8 b.toNat
def ZcP (lk:Id->Option Obj) (sz:Nat) (x:D):Option (List P):=
 match x with
 | .p (.str s)=>if sz=1 then some (ZaR s)else none
 |x=>match x.toP lk 1 with
  |some (.sl sz' es)=>if sz'=sz then some es else none
  |_=>none
def Zab (lk:Id->Option Obj) (ep i:Nat) (te:TI) (s:D) (xs:List P):Option Eff:=
 match s with
 | .nils _=>some {val:= .sl (ep,i,0) 0 xs.length,new:=[(0,.arr te.size xs false)],cond:=[decide (xs.length*max te.bytes 1<=ZD)]}
 | .clip sz es=>if sz=te.size then
   some {val:= .sl (ep,i,0) 0 (es.length+xs.length),new:=[(0,.arr te.size (es++xs) false)],cond:=[decide (xs.isEmpty=false/\(es.length+xs.length)*max te.bytes 1<=ZD)]}else none
 | .sl id 0 len=>match lk id with
  |some (.arr sz es fix)=>if sz=te.size/\(fix=false\/len=es.length)then
    some {val:= .sl (ep,i,0) 0 (len+xs.length),new:=[(0,.arr te.size (es.take len++xs) fix)],wr:=[(id,.gone)],cond:=[decide ((len+xs.length)*max te.bytes 1<=ZD)]}else none
  |_=>none
 |_=>none
def ZaT (lk:Id->Option Obj) (ep i:Nat) (te:TI) (s x:D):Option Eff:=
 match ZcP lk te.size x with
 |none=>none
 |some xs=>Zab lk ep i te s xs
def ZfW (lk:Id->Option Obj) (te:TI) (d s:D):Option Eff:=
 match d with
 | .sl id a len=>match lk id with
  |some (.arr sz es false)=>match ZcP lk sz s with
   |some xs=>if sz=te.size then
     some {val:= .p (.int .i64 (min xs.length len:Nat)),wr:=[(id,.arr sz (ZT es a (xs.take (min xs.length len))) false)]}else none
   |none=>none
  |_=>none
 |_=>none
def maxP:List D->Option P
 | [.p (.int k a),.p (.int k' b)]=>if k=k' then some (.int k (if b > a then b else a))else none
 | [.p (.int k a),.p (.int k' b),.p (.int k'' c)]=>if k=k'/\k=k'' then some (.int k (if c > (if b > a then b else a)then c else (if b > a then b else a)))else none
 |_=>none
def minP:List D->Option P
 | [.p (.int k a),.p (.int k' b)]=>if k=k' then some (.int k (if b < a then b else a))else none
 | [.p (.int k a),.p (.int k' b),.p (.int k'' c)]=>if k=k'/\k=k'' then some (.int k (if c < (if b < a then b else a)then c else (if b < a then b else a)))else none
 |_=>none
def ZY (E:Env) (sl:Nat->D):List Operand->List Nat->List D
 | [],_=>[]
 |x::xs,[]=>ev E sl 0 x::ZY E sl xs []
 |x::xs,t::ts=>ev E sl t x::ZY E sl xs ts
def Zii (E:Env) (lk:Id->Option Obj):List Nat->List D->Option Eff
 | [t],[d]=>match E.td t with
  |some td=>match Zf4 lk td d with
   |some (n,c)=>some {val:= .p (.int .i64 n),cond:=c}
   |none=>none
  |none=>none
 |_,_=>none
def Zcm (E:Env) (ep i:Nat) (lk:Id->Option Obj):List Nat->List D->Option Eff
 | [t,u],[s,x]=>match E.elem t,E.td u with
  |some te,some (.sl _)=>ZaT lk ep i te s x
  |some te,some .str=>ZaT lk ep i te s x
  |some te,some (.int _)=>match x with
   | .p (.int .i64 a)=>if 0<=a then Zab lk ep i te s (ZnG a.toNat te.zeroP)else none
   |_=>none
  |_,_=>none
 |_,_=>none
def Zjl (E:Env) (lk:Id->Option Obj):List Nat->List D->Option Eff
 |t::_,[d,s]=>match E.elem t with
  |some te=>ZfW lk te d s
  |none=>none
 |_,_=>none
def Zek (E:Env) (lk:Id->Option Obj):List Nat->List D->Option Eff
 |t::_,[.map id,k]=>match E.td t,lk id,k.toP lk 1 with
  |some (.map _ _),some (.map td kv),some kp=>if (E.keyTD t).same td&&Zam td kp then some {val:= .undef,wr:=[(id,.map td (ZkY kv kp))]}else none
  |_,_,_=>none
 |_,_=>none
def ZO (E:Env) (ep i:Nat) (lk:Id->Option Obj) (b:Builtin) (a:List Nat) (c:List D):Option Eff:=
 match b with
 | .len=>Zii E lk a c
 | .append=>Zcm E ep i lk a c
 | .copy=>Zjl E lk a c
 | .max=>match maxP c with
  |some x=>some {val:= .p x}
  |none=>none
 | .min=>match minP c with
  |some x=>some {val:= .p x}
  |none=>none
 | .delete=>Zek E lk a c
 |_=>none
def P.isU8:P->Bool
 | .int .u8 _=>true
 |_=>false
def P.byte:P->UInt8
 | .int _ n=>UInt8.ofNat n.toNat
 |_=>0
def ZaD (E:Env) (ep i:Nat) (lk:Id->Option Obj) (s t:Nat) (x:D):Option Eff:=
 match E.td s,E.td t,x with
 |some (.int _),some (.int k),.p (.int _ n)=>some {val:= .p (.int k (k.wrap n))}
 |some .str,some .str,.p (.str s)=>some {val:= .p (.str s)}
 |some .str,some (.sl e),.p (.str s)=>match E.td e with
  |some (.int .u8)=>some {val:= .sl (ep,i,0) 0 s.length,new:=[(0,.arr 1 (ZaR s) false)],cond:=[decide (s.length<=281474976710656)]}
  |_=>none
 |some (.sl e),some .str,x=>match E.td e,x.toP lk 1 with
  |some (.int .u8),some (.sl _ es)=>some {val:= .p (.str (es.map P.byte)),cond:=[es.all P.isU8]}
  |_,_=>none
 |_,_,_=>none
def Z6 (E:Env) (sl:Nat->D) (lk:Id->Option Obj) (t:Nat) (m k v:Operand):Option Eff:=
 match E.ty t with
 |some {d:= .map kt vt, .. }=>match ev E sl 0 m with
  | .map id=>match lk id,(ev E sl kt k).toP lk 1,(ev E sl vt v).toP lk depth with
   |some (.map td kv),some kp,some vp=>if (E.keyTD t).same td&&Zam td kp then some {val:= .undef,wr:=[(id,.map td (ZjD kv kp vp))],frz:=(ev E sl vt v).ids lk depth}else none
   |_,_,_=>none
  |_=>none
 |_=>none
def Zf (E:Env) (ep i:Nat) (A:Op) (ty:Nat) (sl:Nat->D) (lk:Id->Option Obj):Option Eff:=
 match A with
 | .move x=>some {val:=ev E sl ty x}
 | .assign x=>match ev E sl ty x with
  | .nils sz=>some {val:= .sl (ep,i,0) 0 0,new:=[(0,.arr sz [] false)]}
  |d=>some {val:=d}
 | .pick c a b=>match ev E sl ty c with
  | .p (.bool x)=>some {val:=if x then ev E sl ty a else ev E sl ty b}
  |_=>none
 | .alloc t=>match E.ty t with
  |some ti=>let o:=ti.zero.map Z.toD
   some {val:= .ptr (ep,i,0) 0 0,new:=(0,.box (ZeO ep i 1 o))::ZU 1 o}
  |none=>none
 | .box t x=>match E.ty t with
  |some ti=>let o:=(ev E sl t x).cells
   if o.length=ti.size/\(ev E sl t x).okv=true then some {val:= .ptr (ep,i,0) 0 0,new:=(0,.box (ZeO ep i 1 o))::ZU 1 o}else none
  |none=>none
 | .build t g=>match E.ty t with
  |some ti=>if ti.isAgg then match Zb4 E sl ti g.toList (ti.zero.map Z.toD)with
   |some cs=>some {val:= .mkAgg cs}
   |none=>none
   else none
  |none=>none
 | .buildSlice t n g=>match E.ty t with
  |some {d:= .sl e, .. }=>match E.ty e with
   |some te=>match ZH E sl lk e te g.toList (ZnG n te.zeroP)with
    |some es=>if n*te.size<=16777216/\n<=16777216 then some {val:= .sl (ep,i,0) 0 n,new:=[(0,.arr te.size es false)],frz:=Zc4 E sl lk e g.toList}else none
    |none=>none
   |none=>none
  |_=>none
 | .load t a=>match E.ty t with
  |some ti=>match ev E sl 0 a with
   | .p (.ptr cs)=>match Zdp ti cs with
    |some x=>some {val:= .p x}
    |none=>none
   | .ptr id i' j=>match lk id with
    |some (.box cs)=>if i'=0 then match ZfK ti (cs.drop j)with
     |some d=>some {val:=d}
     |none=>none
     else none
    |some (.arr _ es _)=>match Zdp ti ((es.getD i' default).cells.drop j)with
     |some x=>some {val:= .p x}
     |none=>none
    |some (.own sz c k es lo out)=>match es[i']? with
     |some (.agg cs)=>if lo<=i' then match Zdp ti (cs.drop j)with
       |some x=>some {val:= .p x}
       |none=>none
      else match out,cs[c]? with
      |none,some (.sl k' l)=>if j=c/\k'=k/\ti.size=1/\ti.isAgg=false then some {val:= .sl (ep,i,0) 0 l.length,new:=[(0,.arr k l false)],wr:=[(id,.own sz c k es lo (some i'))]}else none
      |_,_=>none
     |_=>none
    |_=>none
   | .rp none id=>if ti.size=1/\ti.isAgg=false then some {val:= .map id}else none
   |_=>none
  |none=>none
 | .store t a x=>match E.ty t with
  |some ti=>match ev E sl 0 a with
   | .ptr id i' j=>match lk id with
    |some (.box cs)=>let o:=(ev E sl t x).cells
     if i'=0/\o.length=ti.size/\j+o.length<=cs.length/\(ev E sl t x).okv=true then
      some {val:= .undef,new:=ZU 0 o,wr:=[(id,.box (ZT cs j (ZeO ep i 0 o)))]}else none
    |some (.arr sz es false)=>match (ev E sl t x).toP lk depth with
     |some y=>if y.cells.length=ti.size/\j+ti.size<=sz/\0 < ti.size then
       some {val:= .undef,wr:=[(id,.arr sz (es.set i' ((es.getD i' default).put sz j y)) false)],frz:=(ev E sl t x).ids lk depth}else none
     |none=>none
    |some (.own sz c k es lo out)=>match ev E sl t x with
     | .sl p 0 len=>match lk p,es[i']? with
      |some (.arr k' l false),some (.agg cs)=>if (out=some i'/\i' < lo\/out=none/\lo=i')/\j=c/\k'=k/\len=l.length/\ti.size=1/\ti.isAgg=false/\p≠id then
        some {val:= .undef,wr:=[(id,.own sz c k (es.set i' (.agg (cs.set c (.sl k l)))) (loUp out lo) none),(p,.gone)]}else none
      |_,_=>none
     |_=>none
    |_=>none
   |_=>none
  |none=>none
 | .nilCheck x=>match ev E sl 0 x with
  | .p (.ptr cs)=>some {val:= .p (.ptr cs)}
  | .ptr id i' j=>some {val:= .ptr id i' j}
  | .p (.fn f a b)=>some {val:= .p (.fn f a b)}
  | .fn f a b=>some {val:= .fn f a b}
  | .rp x id=>some {val:= .rp x id}
  |_=>none
 | .binOp b t x y _=>
  if Operand.isNil y then
   match E.td t with
   |some td=>match b,Zdi td y (ev E sl 0 x)with
    | .eql,some d=>some {val:=d}
    | .neq,some d=>match d.notb with
     |some d=>some {val:=d}
     |none=>none
    |_,_=>none
   |none=>none
  else match ev E sl 0 x,ev E sl 0 y with
   | .p (.bool u),.p (.bool v)=>match E.td t,ZkJ b u v with
    |some .bool,some z=>some {val:= .p z}
    |_,_=>none
   | .p (.agg u),.p (.agg v)=>match Zm6 E b t u v with
     |some z=>some {val:= .p z}
     |none=>none
   | .p u,.p v=>match Zm0 b u v with
    |some (z,c)=>some {val:= .p z,cond:=c}
    |none=>none
   |_,_=>none
 | .unOp u _ x=>match ev E sl 0 x with
  | .p v=>match unop u v with
   |some (z,c)=>some {val:= .p z,cond:=c}
   |none=>none
  |_=>none
 | .convert s t x=>ZaD E ep i lk s t (ev E sl 0 x)
 | .makeFunc (.func f) first caps=>
  some {val:=match Zj D.pure? (first.toList.map (ev E sl 0)),Zj D.pure? (caps.toList.map (ev E sl 0))with
   |some a,some b=> .p (.fn f a b)
   |_,_=> .fn f (first.toList.map (ev E sl 0)) (caps.toList.map (ev E sl 0))}
 | .makeMap t none=>some {val:= .map (ep,i,0),new:=[(0,.map (E.keyTD t) [])]}
 | .makeSlice t l c=>match E.elem t,ev E sl 0 l,ev E sl 0 c with
  |some te,.p (.int _ a),.p (.int _ b)=>match E.owns.find? (·.1 == t)with
   |some (_,c,k)=>if te.isAgg=true/\c < te.size then match te.zero[c]? with
     |some (.nils k')=>if k'=k then some {val:= .sl (ep,i,0) 0 a.toNat,new:=[(0,.own te.size c k (ZnG a.toNat te.zeroP) a.toNat none)],cond:=[decide (0<=a/\a<=b/\b*te.bytes<=ZD/\b<=ZD)]}else none
     |_=>none
    else none
   |none=>some {val:= .sl (ep,i,0) 0 a.toNat,new:=[(0,.arr te.size (ZnG a.toNat te.zeroP) false)],cond:=[decide (0<=a/\a<=b/\b*te.bytes<=ZD/\b<=ZD)]}
  |_,_,_=>none
 | .slice t x lo hi mx=>
  match (match E.td t with |some .str=>some none |some (.sl e)=>(match E.ty e with |some te=>some (some te.size) |none=>none) |_=>none),
    Zb1 E sl lo,Zb1 E sl hi,Zb1 E sl mx with
  |some sz,some a,some b,some c=>ZaV lk sz (ev E sl 0 x) a b c
  |_,_,_,_=>none
 | .fieldAddr t x f=>match E.ty t with
  |some {d:= .struct fs, .. }=>match fs[f]? with
   |some (h,ft)=>match E.ty ft with
    |some q=>if q.size=0 then none else match ev E sl 0 x with
     | .p (.ptr cs)=>some {val:= .p (.ptr (cs.drop h))}
     | .ptr id i' j=>some {val:= .ptr id i' (j+h)}
     | .rp (some x) id=>match h with
      |0=>some {val:= .p (.ptr [x])}
      |1=>some {val:= .rp none id}
      |_=>none
     |_=>none
    |none=>none
   |none=>none
  |_=>none
 | .field t x f=>match E.ty t with
  |some {d:= .struct fs, .. }=>match fs[f]? with
   |some (h,ft)=>match E.ty ft,ev E sl 0 x with
    |some q,.p (.agg cs)=>if q.size=0 then none else (Zdp q (cs.drop h)).map fun y=>{val:= .p y}
    |some q,.agg cs=>if q.size=0 then none else (ZfK q (cs.drop h)).map fun y=>{val:=y}
    |_,_=>none
   |none=>none
  |_=>none
 | .indexAddr t x r=>match ev E sl 0 r with
  | .p (.int _ n)=>match E.ty t with
   |some {d:= .sl e, .. }=>match E.ty e with
    |some te=>match ev E sl 0 x with
     | .p (.sl sz es)=>if sz=te.size then some {val:= .p (.ptr (es.getD n.toNat default).cells),cond:=[decide (0<=n/\n < es.length)]}else none
     | .sl id h len=>match lk id with
      |some (.arr sz _ _)=>if sz=te.size then some {val:= .ptr id (h+n.toNat) 0,cond:=[decide (0<=n/\n < len)]}else none
      |some (.own sz _ _ _ _ _)=>if sz=te.size then some {val:= .ptr id (h+n.toNat) 0,cond:=[decide (0<=n/\n < len)]}else none
      |_=>none
     |_=>none
    |none=>none
   |some {d:= .arr m e, .. }=>match E.ty e with
    |some te=>match ev E sl 0 x with
     | .p (.ptr cs)=>some {val:= .p (.ptr (cs.drop (n.toNat*te.size))),cond:=[decide (0<=n/\n < m)]}
     | .ptr id i' j=>some {val:= .ptr id i' (j+n.toNat*te.size),cond:=[decide (0<=n/\n < m)]}
     |_=>none
    |none=>none
   |_=>none
  |_=>none
 | .index t x r=>match ev E sl 0 r with
  | .p (.int _ n)=>match ev E sl 0 x with
   | .p (.str s)=>match E.td t with
    |some .str=>some {val:= .p (.int .u8 (s.getD n.toNat 0).toNat),cond:=[decide (0<=n/\n < s.length)]}
    |_=>none
   |_=>none
  |_=>none
 | .lookup t m k w=>match E.ty t with
  |some {d:= .map kt e, .. }=>match E.ty e,ZfI lk (ev E sl 0 m),(ev E sl kt k).toP lk 1 with
   |some te,some (td,kv),some kp=>if (E.keyTD t).same td&&Zam td kp then
     some {val:=match Zbq kv kp with
      |some v=>if w then .tup [.p v,.p (.bool true)]else .p v
      |none=>if w then .tup [.p te.zeroP,.p (.bool false)]else .p te.zeroP}else none
   |_,_,_=>none
  |_=>none
 | .mapUpdate t m k v=>Z6 E sl lk t m k v
 | .insert t m k v=>Z6 E sl lk t m k v
 | .range t x=>match E.td t,ev E sl 0 x with
  |some .str,.p (.str s)=>some {val:= .it (ep,i,0),new:=[(0,.sit s 0)]}
  |_,_=>none
 | .next it true=>match ev E sl 0 it with
  | .it id=>match lk id with
   |some (.sit s pos)=>if pos < s.length then
     some {val:= .tup [.p (.bool true),.p (.int .i64 pos),.p (.int .i32 (Utf8.decode ⟨s.toArray⟩ pos).1)],wr:=[(id,.sit s (pos+(Utf8.decode ⟨s.toArray⟩ pos).2))]}
    else some {val:= .tup [.p (.bool false)]}
   |_=>none
  |_=>none
 | .extract x r=>match ev E sl 0 x with
  | .tup vs=>(vs[r]?).map fun d=>{val:=d}
  |_=>none
 | .call {callee:= .builtin b,args,argTypes}=>ZO E ep i lk b argTypes.toList (ZY E sl args.toList argTypes.toList)
 |_=>none
end Eng
namespace Eng
open Go
def St.app (a:St) (i:Nat) (dst:Option Nat) (e:Eff):St:=
 (((a.objL e.wr).objL (e.new.map fun x=>((a.ep,i,x.1),x.2))).freezeL e.frz).setO dst e.val
def Zdu (a:St) (e:Eff):Bool:=(e.wr.all fun x=> !a.fz x.1)&&e.frz.all fun f=>e.wr.all fun x=>decide (x.1≠f)
inductive Item where
 |c (c:Code)
 |ops (a:Array Oper) (i:Nat)
 |blk (id:Nat)
 |lp (c:Code)
def Zaw (id:Nat):List Item->Option (List Item)
 | .blk j::k=>if j=id then some k else Zaw id k
 |_::k=>Zaw id k
 | []=>none
def ZX (ops:Array Oper) (a:St):Option (Nat×Bool)->Option Bool
 |none=>some true
 |some (g,w)=>match (ops[g]?).bind (·.dst)with
  |some t=>match a.slots t with
   | .p (.bool b)=>some (b == w)
   | .undef=>some false
   |_=>none
  |none=>some false
def ZE:Operand->Bool
 | .const (.int k n)=>decide (k.min<=n/\n<=k.max)
 | .const (.string s)=>decide (s.data.size<=Zr)
 |_=>true
def Zdq (E:Env) (o:Oper):Bool:=match o.dst with |some d=>decide (d < E.nt) |none=>true
def ZfB (E:Env) (o:Oper):Bool:=Zdq E o&&o.op.operands.all ZE
def runOp (E:Env) (i:Nat) (o:Oper) (a:St):Option (St×List Bool):=
 match Zf E a.ep i o.op o.type a.slots a.objs with
 |some e=>if Zdu a e&&ZfB E o then some (a.app i o.dst e,e.cond)else none
 |none=>none
def run (E:Env):Nat->List Item->St->List Bool->Option (List Item×St×List Bool)
 |0,k,st,d=>some (k,st,d)
 |n+1,.c c::k,st,d=>match c with
  | .skip=>run E n k st d
  | .seq a b=>run E n (.c a:: .c b::k) st d
  | .block id b=>run E n (.c b:: .blk id::k) st d
  | .region _ ops false=>run E n (.ops ops 0::k) st d
  | .loop c=>run E n (.c c:: .lp c::k) st d
  | .cond c a b=>if ZE c then match ev E st.slots 0 c with
   | .p (.bool true)=>run E n (.c a::k) st d
   | .p (.bool false)=>run E n (.c b::k) st d
   |_=>none
   else none
  | .exit id=>match Zaw id k with
   |some k=>run E n k st d
   |none=>none
  |_=>none
 |n+1,.blk _::k,st,d=>run E n k st d
 |n+1,.lp c::k,st,d=>run E n (.c c:: .lp c::k) st d
 |n+1,.ops ops i::k,st,d=>match ops[i]? with
  |none=>run E n k st.next d
  |some o=>match ZX ops st o.guard with
   |some true=>match runOp E i o st with
    |some (st',qs)=>run E n (.ops ops (i+1)::k) st' (d++qs)
    |none=>none
   |some false=>if Zdq E o then run E n (.ops ops (i+1)::k) (st.setO o.dst .undef) d else none
   |none=>none
 |_+1,[],_,_=>none
def Zaz {c β:Type} [DecidableEq c] (d:β):List (c×β)->c->β
 | [],_=>d
 |(a,b)::r,x=>if x=a then b else Zaz d r x
def Zg {c β:Type} [DecidableEq c]:List (c×β)->c->Option β
 | [],_=>none
 |(a,b)::r,x=>if x=a then some b else Zg r x
end Eng
namespace Eng
open Go
def Zbp (v:Value):Prop:=v.oneCell'=true
abbrev Fz:=Nat->Nat->Prop
def ZbM (S:Fz) (w w':World):Prop:=∀b,b < w.heap.size->(∀c,S b c->w'.cell? ⟨b,c,none⟩=w.cell? ⟨b,c,none⟩)/\((∀c,S b c)->w'.heap[b]? =w.heap[b]?)
def Z9:Nat:=281474976710656
inductive RelP (w:World) (S:Fz):Value->P->Prop
 |bool (b:Bool):RelP w S (.bool b) (.bool b)
 |int (k:IntKind) (n:Int) (h0:k.min<=n) (h1:n<=k.max):RelP w S (.int k n) (.int k n)
 |str (s:List UInt8) (h:s.length<=Zr):RelP w S (.string ⟨s.toArray⟩) (.str s)
 |agg (vs:Array Value) (cs:List P) (hl:vs.size=cs.length) (h1:∀(i:Nat) v,vs[i]? =some v->Zbp v)
   (h:∀(i:Nat) v c,vs[i]? =some v->cs[i]? =some c->RelP w S v c):RelP w S (.agg vs) (.agg cs)
 |sl (a:Option Addr) (len cap sz:Nat) (es:List P) (evs:Nat->Value) (hl:es.length=len) (hm:len<=Z9) (hc:len<=cap)
   (hsz:∀i,i < len->(evs i).cells.size=sz)
   (hcell:∀i,i < len->∃b o,a=some ⟨b,o,none⟩/\∀j v,(evs i).cells[j]? =some v->S b (o+i*sz+j)/\w.cell? ⟨b,o+i*sz+j,none⟩=some v)
   (h:∀(i:Nat) e,es[i]? =some e->RelP w S (evs i) e):RelP w S (.slice a len cap) (.sl sz es)
 |nilp:RelP w S (.pointer none) .nilp
 |ptr (b o:Nat) (cs:List P) (vs:Nat->Value) (hcell:∀(j:Nat) c,cs[j]? =some c->S b (o+j)/\w.cell? ⟨b,o+j,none⟩=some (vs j))
   (h1:∀(j:Nat) c,cs[j]? =some c->Zbp (vs j)) (h:∀(j:Nat) c,cs[j]? =some c->RelP w S (vs j) c):RelP w S (.pointer (some ⟨b,o,none⟩)) (.ptr cs)
 |nilmap (td:TD):RelP w S (.map none) (.map td [])
 |map (td:TD) (r:Nat) (es:Array MapEntry) (clock:Nat) (kv kv':List (P×P)) (hS:∀c,S r c) (hb:w.heap[r]? =some (.map es clock)) (hp:kv'.Perm kv)
   (hl:es.size=kv'.length) (hk:∀(i:Nat) e q,es[i]? =some e->kv'[i]? =some q->RelP w S e.key q.1)
   (hv:∀(i:Nat) e q,es[i]? =some e->kv'[i]? =some q->RelP w S e.val q.2)
   (hd:kv'.Pairwise fun a b=>P.key a.1 b.1=false) (hkey:∀q∈kv',Zam td q.1=true)
   (hborn:∀(i:Nat) e,es[i]? =some e->e.born < clock) (hbd:∀(i j:Nat) e e',es[i]? =some e->es[j]? =some e'->e.born=e'.born->i=j):
   RelP w S (.map (some r)) (.map td kv)
 |fn (f:Nat) (fs cs:Array Value) (a b:List P) (hf:fs.size=a.length) (hc:cs.size=b.length)
   (h:∀(i:Nat) v x,fs[i]? =some v->a[i]? =some x->RelP w S v x) (h':∀(i:Nat) v x,cs[i]? =some v->b[i]? =some x->RelP w S v x):
   RelP w S (.func (.func f) fs cs) (.fn f a b)
 |nilfn:RelP w S .nilFunc .nilfn
theorem ZS {w w':World} {b o:Nat} (h:w'.heap[b]? =w.heap[b]?):w'.cell? ⟨b,o,none⟩=w.cell? ⟨b,o,none⟩:=by simp[World.cell?,h]
theorem ZhN {w:World} {b o:Nat} {v:Value} (h:w.cell? ⟨b,o,none⟩=some v):b < w.heap.size:=World.block_lt_of_cell? w ⟨b,o,none⟩ h
theorem Zd8 {w:World} {b:Nat} {x:Go.Obj} (h:w.heap[b]? =some x):b < w.heap.size:=(Znq.1 h).1
theorem ZaQ {w w':World} {b o:Nat} (h:w'.heap[b]? =w.heap[b]?):w'.frozen? ⟨b,o,none⟩=w.frozen? ⟨b,o,none⟩:=by simp[World.frozen?,h]
theorem ZbM.refl (S:Fz) (w:World):ZbM S w w:=fun _ _=>⟨fun _ _=>rfl,fun _=>rfl⟩
theorem ZbM.of {S:Fz} {w w':World} (h:∀b c,S b c->b < w.heap.size->w'.heap[b]? =w.heap[b]?):ZbM S w w':=
 fun b d=>⟨fun c a=>ZS (h b c a d),fun a=>h b 0 (a 0) d⟩
theorem RelP.mono {w w':World} {S S':Fz} (G:ZbM S w w') (C:∀b c,S b c->S' b c) {v:Value} {x:P} (h:RelP w S v x):RelP w' S' v x:=by
 induction h with
 |bool b=>exact .bool b
 |int k n Q t=>exact .int k n Q t
 |str s h=>exact .str s h
 |agg vs cs p t _ g=>exact .agg vs cs p t g
 |sl a len cap sz es evs p L E D d _ g=>
  exact .sl a len cap sz es evs p L E D (fun i hi=>by obtain⟨b,o,M,u⟩:=d i hi;exact⟨b,o,M,fun j v e=>⟨C b _ (u j v e).1,by rw[(G b (ZhN (u j v e).2)).1 _ (u j v e).1];simp_all⟩⟩) g
 |nilp=>exact .nilp
 |ptr b o cs vs d t _ g=>exact .ptr b o cs vs (fun j c e=>⟨C b _ (d j c e).1,by rw[(G b (ZhN (d j c e).2)).1 _ (d j c e).1];simp_all⟩) t g
 |nilmap td=>exact .nilmap td
 |map td r es l I y H J O p _ _ N q m B A F=>exact .map td r es l I y (fun c=>C r c (H c)) (by rw[(G r (Zd8 J)).2 H];omega) O p A F N q m B
 |fn f fs cs a b K E _ _ g z=>exact .fn f fs cs a b K E g z
 |nilfn=>exact .nilfn
theorem RelP.size {w:World} {S:Fz} {v:Value} {x:P} (h:RelP w S v x):v.cells.size=x.cells.length:=by cases h<;>simp_all [Value.cells,P.cells]
theorem RelP.cell {w:World} {S:Fz} {v:Value} {x:P} (h:RelP w S v x) {j:Nat} {u:Value} {c:P} (a:v.cells[j]? =some u) (b:x.cells[j]? =some c):
  RelP w S u c/\Zbp u:=by
 cases h with
 |agg vs cs e d h=>exact⟨h j u c a b,d j u a⟩
 |_=>
  simp only[Value.cells,P.cells]at a b;cases j with
  |succ j=>simp at a
  |zero=>
   simp only[Zny,ZnO]at a b;simp only[List.getElem?_toArray,Zny,ZnO]at a;subst a b;refine⟨?_,by simp[Zbp,Value.oneCell']⟩;constructor<;>assumption
structure Lay where
 blk:Option Nat
 base:Nat
 sz:Nat
 len:Nat
 cap:Nat
inductive RelD (w:World) (S:Fz) (ρ:Id->Option Lay):Value->D->Prop
 |p (v:Value) (x:P) (h:RelP w S v x):RelD w S ρ v (.p x)
 |dead (v:Value):RelD w S ρ v .dead
 |undef:RelD w S ρ Go.undef .undef
 |anyb (b:Bool):RelD w S ρ (.bool b) .anyb
 |nils (sz:Nat):RelD w S ρ (.slice none 0 0) (.nils sz)
 |clip (a:Option Addr) (n sz:Nat) (es:List P) (h:RelP w S (.slice a n n) (.sl sz es)):RelD w S ρ (.slice a n n) (.clip sz es)
 |agg (vs:Array Value) (cs:List D) (hl:vs.size=cs.length) (h1:∀(i:Nat) v,vs[i]? =some v->Zbp v)
   (h:∀(i:Nat) v c,vs[i]? =some v->cs[i]? =some c->RelD w S ρ v c):RelD w S ρ (.agg vs) (.agg cs)
 |tup (vs:Array Value) (cs:List D) (hl:vs.size=cs.length)
   (h:∀(i:Nat) v c,vs[i]? =some v->cs[i]? =some c->RelD w S ρ v c):RelD w S ρ (.tuple vs) (.tup cs)
 |sl (id:Id) (off len cap:Nat) (a:Option Addr) (L:Lay) (hL:ρ id=some L) (hl:off+len<=L.len) (hm:len<=Z9/\cap<=Zr) (hc:len<=cap)
   (ha:cap=0\/∃b,L.blk=some b/\a=some ⟨b,L.base+off*L.sz,none⟩/\off+cap<=L.cap):RelD w S ρ (.slice a len cap) (.sl id off len)
 |ptr (id:Id) (i j:Nat) (L:Lay) (b:Nat) (hL:ρ id=some L) (hi:i < L.len) (hb:L.blk=some b):
   RelD w S ρ (.pointer (some ⟨b,L.base+i*L.sz+j,none⟩)) (.ptr id i j)
 |map (id:Id) (L:Lay) (b:Nat) (hL:ρ id=some L) (hb:L.blk=some b):RelD w S ρ (.map (some b)) (.map id)
 |it (id:Id) (L:Lay) (b:Nat) (hL:ρ id=some L) (hb:L.blk=some b):RelD w S ρ (.pointer (some ⟨b,0,none⟩)) (.it id)
 |fn (f:Nat) (fs cs:Array Value) (a b:List D) (hf:fs.size=a.length) (hc:cs.size=b.length)
   (h:∀(i:Nat) v x,fs[i]? =some v->a[i]? =some x->RelD w S ρ v x) (h':∀(i:Nat) v x,cs[i]? =some v->b[i]? =some x->RelD w S ρ v x):
   RelD w S ρ (.func (.func f) fs cs) (.fn f a b)
 |rp (x:Option P) (id:Id) (b o r:Nat) (u:Value) (L:Lay) (hS:∀c,S b c) (hx:∀y,x=some y->w.cell? ⟨b,o,none⟩=some u/\Zbp u/\RelP w S u y) (hm:w.cell? ⟨b,o+x.toList.length,none⟩=some (.map (some r)))
   (hL:ρ id=some L) (hb:L.blk=some r):RelD w S ρ (.pointer (some ⟨b,o,none⟩)) (.rp x id)
 |val (v:Value):RelD w S ρ v (.val v)
theorem RelD.mono {w w':World} {S S':Fz} {ρ ρ':Id->Option Lay} (t:ZbM S w w') (s:∀b c,S b c->S' b c) (g:∀id L,ρ id=some L->ρ' id=some L)
  {v:Value} {d:D} (h:RelD w S ρ v d):RelD w' S' ρ' v d:=by
 induction h with
 |p v x h=>exact .p v x (h.mono t s)
 |dead v=>exact .dead v
 |undef=>exact .undef
 |anyb b=>exact .anyb b
 |nils sz=>exact .nils sz
 |clip a n sz es h=>exact .clip a n sz es (h.mono t s)
 |agg vs cs q J _ m=>exact .agg vs cs q J m
 |tup vs cs q _ m=>exact .tup vs cs q m
 |sl id F len cap a L k q E B H=>exact .sl id F len cap a L (g _ _ k) q E B H
 |ptr id i j L b k hi l=>exact .ptr id i j L b (g _ _ k) hi l
 |map id L b k l=>exact .map id L b (g _ _ k) l
 |it id L b k l=>exact .it id L b (g _ _ k) l
 |fn f fs cs a b I B _ _ m A=>exact .fn f fs cs a b I B m A
 |rp x id b o r u L G C E k l=>
  have e:w'.heap[b]? =w.heap[b]? :=(t b (ZhN E)).2 G;exact .rp x id b o r u L (fun c=>s b c (G c)) (fun y z=>by rw[ZS e];exact⟨(C y z).1,(C y z).2.1,(C y z).2.2.mono t s⟩) (by grind[ZS]) (g _ _ k) l
 |val v=>exact .val v
def inL:Option Obj->Lay->Nat->Prop
 |some (.arr _ _ _),L,c=>L.base<=c/\c < L.base+L.len*L.sz
 |_,_,_=>True
theorem inL_arr (sz:Nat) (es:List P) (fix:Bool) (L:Lay) (c:Nat):inL (some (.arr sz es fix)) L c<->L.base<=c/\c < L.base+L.len*L.sz:= .rfl
def ZiI (w:World) (S:Fz) (r:Nat) (td:TD) (f:List (P×P)):Prop:=
 ∃(es:Array MapEntry) (d:Nat) (c:List (P×P)),w.heap[r]? =some (.map es d)/\c.Perm f/\es.size=c.length/\
  (∀(i:Nat) e q,es[i]? =some e->c[i]? =some q->RelP w S e.key q.1/\RelP w S e.val q.2)/\
  (c.Pairwise fun a b=>P.key a.1 b.1=false)/\(∀q∈c,Zam td q.1=true)/\
  (∀(i:Nat) e,es[i]? =some e->e.born < d)/\(∀(i j:Nat) e e',es[i]? =some e->es[j]? =some e'->e.born=e'.born->i=j)
def Zp (w:World) (S:Fz) (ρ:Id->Option Lay) (L:Lay):Obj->Prop
 | .box cs=>∃b,L.blk=some b/\L.sz=cs.length/\L.len=1/\
   ∀(j:Nat) d,cs[j]? =some d->∃v,w.cell? ⟨b,L.base+j,none⟩=some v/\w.frozen? ⟨b,L.base+j,none⟩=false/\Zbp v/\RelD w S ρ v d
 | .arr sz es _=>L.sz=sz/\es.length=L.len/\L.len<=L.cap/\L.len<=Z9/\(L.blk=none->L.len=0)/\
   (∀b,L.blk=some b->∀j,j < L.cap*sz->(∃v,w.cell? ⟨b,L.base+j,none⟩=some v)/\w.frozen? ⟨b,L.base+j,none⟩=false)/\
   ∃evs:Nat->Value,(∀i,i < L.len->(evs i).cells.size=sz)/\(∀b,L.blk=some b->∀(i j:Nat) v,i < L.len->(evs i).cells[j]? =some v->w.cell? ⟨b,L.base+i*sz+j,none⟩=some v)/\
    ∀(i:Nat) e,es[i]? =some e->RelP w S (evs i) e
 | .map td f=>∃b,L.blk=some b/\ZiI w S b td f
 | .sit s a=>∃b,L.blk=some b/\w.heap[b]? =some (.stringIter ⟨s.toArray⟩ a)/\s.length<=Zr
 | .gone=>True
 | .own sz c k es lo _=>L.sz=sz/\es.length=L.len/\L.len<=L.cap/\L.len<=Z9/\c < sz/\(L.blk=none->L.len=0)/\
   (∀b,L.blk=some b->∀j,j < L.cap*sz->(∃v,w.cell? ⟨b,L.base+j,none⟩=some v)/\w.frozen? ⟨b,L.base+j,none⟩=false)/\
   ∀(i:Nat) e,es[i]? =some e->∃cs l,e= .agg cs/\cs.length=sz/\cs[c]? =some (.sl k l)/\
    ∀b,L.blk=some b->∀(j:Nat) x v,cs[j]? =some x->w.cell? ⟨b,L.base+i*sz+j,none⟩=some v->Zbp v/\(j≠c\/lo<=i->RelP w S v x)
theorem ZiI.mono {w w':World} {S S':Fz} {r:Nat} {td:TD} {j:List (P×P)} (m:ZbM S w w') (g:∀b c,S b c->S' b c) (s:w'.heap[r]? =w.heap[r]?)
  (h:ZiI w S r td j):ZiI w' S' r td j:=by
 obtain⟨es,a,d,t,p,o,f,n⟩:=h;exact⟨es,a,d,by grind,p,o,fun i e q k l=>⟨(f i e q k l).1.mono m g,(f i e q k l).2.mono m g⟩,n⟩
theorem Zp.mono {w w':World} {S S':Fz} {ρ ρ':Id->Option Lay} {L:Lay} {o:Obj} (r:ZbM S w w') (q:∀b c,S b c->S' b c)
  (y:∀id L,ρ id=some L->ρ' id=some L) (C:∀b,L.blk=some b->w'.heap[b]? =w.heap[b]?) (h:Zp w S ρ L o):Zp w' S' ρ' L o:=by
 cases o with
 |box cs=>
  obtain⟨b,a,f,g,p⟩:=h;refine⟨b,a,f,g,fun j d M=> ?_⟩;obtain⟨v,n,Q,O,K⟩:=p j d M;exact⟨v,by grind[ZS],by grind[ZaQ],O,K.mono r q y⟩
 |arr sz es fix=>
  obtain⟨a,f,g,p,u,A,evs,D,B,J⟩:=h;refine⟨a,f,g,p,u,fun b m j t=> ?_,evs,D,fun b m i j v hi n=> ?_,fun i e z=>(J i e z).mono r q⟩
  all_goals grind[ZS,ZaQ]
 |map td P=>obtain⟨b,a,f⟩:=h;exact⟨b,a,f.mono r q (C b a)⟩
 |sit s N=>obtain⟨b,a,f,g⟩:=h;exact⟨b,a,by simp_all,g⟩
 |gone=>trivial
 |own sz c k es lo G=>
  obtain⟨a,f,g,p,u,A,D,B⟩:=h;refine⟨a,f,g,p,u,A,fun b m j t=> ?_,fun i e z=> ?_⟩
  ·grind[ZS,ZaQ]
  ·obtain⟨cs,l,q1,I,H,E⟩:=B i e z;refine⟨cs,l,q1,I,H,fun b m j x v F n=> ?_⟩;rw[ZS (C b m)]at n;exact⟨(E b m j x v F n).1,fun t=>((E b m j x v F n).2 t).mono r q⟩
end Eng
namespace Eng
open Go
theorem Zh {c β:Type} {f:c->Option β}:∀{xs:List c} {a:List β},Zj f xs=some a->
  a.length=xs.length/\∀(i:Nat) x y,xs[i]? =some x->a[i]? =some y->f x=some y
 | [],a,h=>by grind[Zj]
 |x::xs,a,h=>by
  simp only[Zj]at h;split at h;rotate_left;simp at h;rename_i y d e b;obtain⟨g,hi⟩:=Zh b;grind
theorem Zx {cs:List D} {a:List P} (h:Zj D.pure? cs=some a):cs=a.map .p:=by
 obtain⟨c,hi⟩:=Zh h;apply List.ext_getElem?;intro i
 by_cases hlt:i < cs.length
 ·have b:=hi i cs[i] a[i] (by simp) (by simp);cases hc:cs[i]<;>simp[hc,D.pure?]at b;simp_all
 simp_all
@[simp] theorem ZjK (lk:Id->Option Obj) (n:Nat) (x:P):D.toP lk n (.p x)=some x:=by cases n<;>rfl
@[simp] theorem toP_nils (lk:Id->Option Obj) (n sz:Nat):D.toP lk n (.nils sz)=some (.sl sz []):=by cases n<;>rfl
@[simp] theorem toP_clip (lk:Id->Option Obj) (n sz:Nat) (es:List P):D.toP lk n (.clip sz es)=some (.sl sz es):=by cases n<;>rfl
theorem Zbm (lk:Id->Option Obj) (n:Nat) (id:Id) (a len:Nat):D.toP lk n (.sl id a len)=match lk id with
  |some (.arr sz es _)=>some (.sl sz ((es.drop a).take len))
  |_=>none:=by cases n<;>rfl
theorem Zbu (lk:Id->Option Obj) (n:Nat) (id:Id):D.toP lk n (.map id)=match lk id with
  |some (.map td kv)=>some (.map td kv)
  |_=>none:=by cases n<;>rfl
@[simp] theorem ids_sl (lk:Id->Option Obj) (n:Nat) (id:Id) (a len:Nat):D.ids lk n (.sl id a len)=[id]:=by cases n<;>rfl
@[simp] theorem ZmO (lk:Id->Option Obj) (n:Nat) (id:Id):D.ids lk n (.map id)=[id]:=by cases n<;>rfl
def Objs (w:World) (S:Fz) (ρ:Id->Option Lay) (lk:Id->Option Obj):Prop:=
 ∀id o,lk id=some o->o≠ .gone->∃L,ρ id=some L/\Zp w S ρ L o
theorem Zaf {w:World} {S:Fz} {ρ:Id->Option Lay} {lk:Id->Option Obj} (ho:Objs w S ρ lk) {S':Fz} (U:∀b c,S b c->S' b c):
  ∀(n:Nat) (d:D) (v:Value) (x:P),RelD w S ρ v d->d.toP lk n=some x->
   (∀id,id∈d.ids lk n->∀L b,ρ id=some L->L.blk=some b->∀c,inL (lk id) L c->S' b c)->RelP w S' v x:=by
 have V:ZbM S w w:= .refl S w;have base:∀(n:Nat) (d:D) (v:Value) (x:P),(∀cs,d≠ .agg cs)->(∀id i j,d≠ .ptr id i j)->(∀f a b,d≠ .fn f a b)->RelD w S ρ v d->d.toP lk n=some x->
   (∀id,id∈d.ids lk n->∀L b,ρ id=some L->L.blk=some b->∀c,inL (lk id) L c->S' b c)->RelP w S' v x:=by
  intro n d v x T h2 h3 Z g hi;cases Z with
  |p v y h=>simp at g;subst g;exact h.mono V U
  |dead v=>grind[D.toP]
  |val v=>grind[D.toP]
  |undef=>grind[D.toP]
  |anyb b=>grind[D.toP]
  |nils sz=>simp at g;subst g;exact .sl none 0 0 sz [] (fun _=>default) rfl (by simp) (by simp) (by simp) (by simp) (by simp)
  |clip a n sz es h=>simp at g;subst g;exact h.mono V U
  |agg vs cs=>simp_all
  |tup vs cs=>grind[D.toP]
  |sl id O len cap a L E hl ap m ha=>
   rw[Zbm]at g;split at g;rotate_left;simp at g;rename_i sz es fix o;cases g;obtain⟨L',l,G,ah,ag,ac,al,F,evs,K,s,A⟩:=ho id _ o (by simp);rw[E]at l;obtain rfl:=ZnN l;refine .sl a len cap sz _ (fun i=>evs (O+i)) (by grind) (by omega) m (fun i ab=>K _ (by omega)) (fun i ab=> ?_) (fun i e H=> ?_)
   ·rcases ha with h0 |⟨b,C,rfl,ao⟩
    ·omega
    ·refine⟨b,_,rfl,fun j u B=> ?_⟩;have:=s b C (O+i) j u (by omega) B;have hj:j < sz:=by grind
     have hm:(O+i+1)*sz<=L.len*sz:=ZnK _ (by omega);rw[ZnI,ZnI]at hm;refine⟨hi id (by simp) L b E C _ (by grind[inL_arr]), ?_⟩;grind
   ·rw[ZnC]at H;split at H;rotate_left;simp at H;rw[Znz]at H;exact(A _ e H).mono V U
  |ptr id i j=>simp_all
  |map id L b E C=>
   rw[Zbu]at g;split at g;rotate_left;simp at g;rename_i td kv o;cases g;obtain⟨L',l,b',z,es,N,aa,g1,g2,g3,g4,g5,g6,g7,g8⟩:=ho id _ o (by simp);rw[E]at l;obtain rfl:=ZnN l;rw[C]at z;obtain rfl:=ZnN z;exact .map td b es N kv aa (fun c=>hi id (by simp) L b E C c (by rw[o];trivial)) g1 g2 g3 (fun i e q H hq=>(g4 i e q H hq).1.mono V U) (fun i e q H hq=>(g4 i e q H hq).2.mono V U) g5 g6 g7 g8
  |it id=>grind[D.toP]
  |rp=>grind[D.toP]
  |fn f fs cs a b=>simp_all
 intro n
 induction n with
 |zero=>
  intro d v x Z g hi;refine base 0 d v x ?_ ?_ ?_ Z g hi
  all_goals (intros;intro m;simp_all[D.toP])
 |succ n ih=>
  intro d v x Z g hi;cases Z with
  |agg vs cs hl T h=>
   simp only[D.toP,ZnM]at g;obtain⟨ps,M,rfl⟩:=g;obtain⟨an,aj⟩:=Zh M;refine .agg vs ps (by omega) T fun i v c R m=> ?_
   have r:i < cs.length:=by grind
   have t:cs[i]? =some cs[i]:=by grind
   grind[D.ids]
  |ptr id i j L b E W C=>
   simp only[D.toP]at g;split at g
   ·rename_i cs o;split at g;rotate_left;simp at g;rename_i h0;subst h0;simp only[ZnM]at g;obtain⟨ps,M,rfl⟩:=g;obtain⟨an,aj⟩:=Zh M;obtain⟨L',l,b',z,G,aq,au⟩:=ho id _ o (by simp);rw[E]at l;obtain rfl:=ZnN l;rw[C]at z;obtain rfl:=ZnN z;have key:∀(k:Nat) c,ps[k]? =some c->∃u,w.cell? ⟨b,L.base+(j+k),none⟩=some u/\Zbp u/\RelP w S' u c:=by
     intro k c m;have r:k < (cs.drop j).length:=by have:=(ZnA.1 m).1;omega
     have X:j+k < cs.length:=by simp at r;omega
     have hd:(cs.drop j)[k]? =some cs[j+k]:=by simp[Znz,X]
     grind[D.ids]
    refine .ptr b _ ps (fun k=>((w.cell? ⟨b,L.base+(j+k),none⟩).getD default)) (fun k c m=>⟨hi id (by simp[D.ids]) L b E C _ (by rw[o];trivial), ?_⟩) (fun k c m=> ?_) (fun k c m=> ?_)
    all_goals grind
   ·rename_i sz es fix o;cases g;obtain⟨L',l,G,ah,ag,ac,al,F,evs,K,s,A⟩:=ho id _ o (by simp);rw[E]at l;obtain rfl:=ZnN l;have Y:i < es.length:=by omega
    have am:es.getD i default=es[i]:=by simp[Y]
    rw[am];have J:=A i es[i] (by simp[Y]);have key:∀(k:Nat) c,(es[i].cells.drop j)[k]? =some c->∃u,w.cell? ⟨b,L.base+i*L.sz+j+k,none⟩=some u/\Zbp u/\RelP w S' u c:=by
     intro k c m;rw[Znz]at m;have r:=(ZnA.1 m).1;have I:=J.size;have B:(evs i).cells[j+k]? =some (evs i).cells[j+k]:=by simp
     have:=J.cell B m;refine⟨_, ?_,this.2,this.1.mono V U⟩;have:=s b C i (j+k) _ W B;rw[G,<-this];congr 2;omega
    refine .ptr b _ _ (fun k=>((w.cell? ⟨b,L.base+i*L.sz+j+k,none⟩).getD default)) (fun k c m=>⟨hi id (by simp[D.ids]) L b E C _ ?_, ?_⟩) (fun k c m=> ?_) (fun k c m=> ?_)
    ·rw[o,inL_arr,G];rw[Znz]at m;have r:=(ZnA.1 m).1;have I:=J.size;rw[K i W]at I;have hm:(i+1)*sz<=L.len*sz:=ZnK _ (by omega);rw[ZnI]at hm;omega
    ·obtain⟨u,B,_⟩:=key k c m;rw[B];simp
    ·obtain⟨u,B,T,_⟩:=key k c m;simp only[B,ZnL];exact T
    ·obtain⟨u,B,_,T⟩:=key k c m;simp only[B,ZnL];exact T
   simp_all
  |fn f fs cs a b hf m h h'=>
   simp only[D.toP]at g;split at g;rotate_left;simp at g;rename_i pa pb ai ae;cases g;obtain⟨ar,ak⟩:=Zh ai;obtain⟨as,af⟩:=Zh ae;refine .fn f fs cs pa pb (by omega) (by omega) (fun i v x R hx=> ?_) (fun i v x R hx=> ?_)
   ·have r:i < a.length:=by have:=(Znq.1 R).1;omega
    have t:a[i]? =some a[i]:=by simp[r]
    exact ih a[i] v x (h i v _ R t) (ak i _ x t hx) fun id Q L b=>hi id (by
     simp only[D.ids,Zn7,Zob];exact .inl ⟨a[i],List.getElem_mem _,Q⟩) L b
   ·have r:i < b.length:=by have:=(Znq.1 R).1;omega
    have t:b[i]? =some b[i]:=by simp[r]
    exact ih b[i] v x (h' i v _ R t) (af i _ x t hx) fun id Q L b=>hi id (by
     simp only[D.ids,Zn7,Zob];exact .inr ⟨_,List.getElem_mem _,Q⟩) L b
  |_=>exact base (n+1) _ _ _ (by simp) (by simp) (by simp) (by constructor<;>assumption) g hi
def ZQ (w w':World):Prop:=w'.os=w.os/\w'.output=w.output
theorem ZQ.refl (w:World):ZQ w w:=⟨rfl,rfl⟩
theorem ZQ.trans {w w' a:World} (h:ZQ w w') (b:ZQ w' a):ZQ w a:=⟨b.1.trans h.1,b.2.trans h.2⟩
theorem ZQ.setCells (b:Nat) (vs:List Value):∀(o:Nat) (w:World),ZQ w (w.setCells b o vs):=by
 induction vs with
 |nil=>exact fun o w=> .refl w
 |cons v r a=>exact fun o w=>ZQ.trans (w':=w.setCell ⟨b,o,none⟩ v) ⟨rfl,rfl⟩ (a _ _)
def ZeC (w:World) (S:Fz) (g:Nat) (cs:List P):Prop:=
 (∀c,S g c)/\RelP w S (.pointer (some ⟨g,0,none⟩)) (.ptr cs)/\∃a t fr,w.heap[g]? =some (.cells a t fr)/\a.size=cs.length
theorem ZeC.mono {w w':World} {S S':Fz} {g:Nat} {cs:List P} (h:ZeC w S g cs) (f:ZbM S w w') (d:∀b c,S b c->S' b c):ZeC w' S' g cs:=by obtain⟨e,j,a,t,fr,k,i⟩:=h;refine⟨fun c=>d g c (e c),j.mono f d,a,t,fr, ?_,i⟩;rw[(f g (Zd8 k)).2 e];omega
structure Ctx where
 E:Env
 W:World
 Lt:Nat->Prop
 S0:Fz
 lays:Nat->Option Lay:=fun _=>none
abbrev Ctx.H (C:Ctx):Array Go.Obj:=C.W.heap
def Kid (a:Id->Option Obj) (d:Id->Bool) (id:Id) (i sz c k:Nat) (l:List P):Prop:=
 ∃es lo b cs,a id=some (.own sz c k es lo b)/\d id=false/\es[i]? =some (.agg cs)/\cs[c]? =some (.sl k l)/\i < lo/\b≠some i
structure Fam (H:Nat) (Lt:Nat->Prop) (S:Fz) (ρ:Id->Option Lay) (objs:Id->Option Obj) (fz:Id->Bool) (w:World) (κ:Id->Nat->Lay):Prop where
 kid:∀id i sz c k l L,Kid objs fz id i sz c k l->ρ id=some L->∃b v,L.blk=some b/\w.cell? ⟨b,L.base+i*sz+c,none⟩=some v/\
  RelD w S (fun _=>some (κ id i)) v (.sl (0,0,0) 0 l.length)/\Zp w S (fun _=>none) (κ id i) (.arr k l false)
 own:∀id i sz c k l b,Kid objs fz id i sz c k l->(κ id i).blk=some b->b < w.heap.size/\(H<=b\/Lt b)/\(∀c,¬S b c)/\
  ∀id' o L,objs id'=some o->o≠ .gone->ρ id'=some L->L.blk≠some b
 inj:∀id i sz c k l id' i' sz' c' k' l' b,Kid objs fz id i sz c k l->Kid objs fz id' i' sz' c' k' l'->(κ id i).blk=some b->(κ id' i').blk=some b->id=id'/\i=i'
theorem Fam.none {H:Nat} {Lt:Nat->Prop} {S:Fz} {ρ:Id->Option Lay} {a:Id->Option Obj} {e:Id->Bool} {w:World} (h:∀id o,a id=some o->o.isOwn=false):
  ∃g,Fam H Lt S ρ a e w g:=by
 have d:∀{id i sz c k l},¬Kid a e id i sz c k l:=by rintro id i sz c k l ⟨es,lo,f,cs,j,_⟩;grind[Obj.isOwn]
 exact⟨fun _ _=>⟨.none,0,0,0,0⟩,fun _ _ _ _ _ _ _ b=>(d b).elim,fun _ _ _ _ _ _ _ b=>(d b).elim,fun _ _ _ _ _ _ _ _ _ _ _ _ _ b=>(d b).elim⟩
structure Rep (C:Ctx) (X:Nat->Prop) (ρ:Id->Option Lay) (S:Fz) (st:St) (tm:Array Value) (w:World):Prop where
 nt:tm.size=C.E.nt
 grow:C.H.size<=w.heap.size
 frame:∀b,b < C.H.size->¬C.Lt b->w.heap[b]? =C.H[b]?
 s0:∀b c,C.S0 b c->S b c
 sIn:∀b c,S b c->b < w.heap.size
 slots:∀k,RelD w S ρ (tm.getD k undef) (st.slots k)
 objs:Objs w S ρ st.objs
 own:∀id o L b,st.objs id=some o->o≠ .gone->ρ id=some L->L.blk=some b->
  b < w.heap.size/\(C.H.size<=b\/C.Lt b)/\(st.fz id=true->∀c,inL (some o) L c->S b c)/\(∀c,S b c->inL (some o) L c/\(st.fz id=true\/o.soft=true))
 inj:∀id o L id' o' L' b,st.objs id=some o->o≠ .gone->ρ id=some L->L.blk=some b->
  st.objs id'=some o'->o'≠ .gone->ρ id'=some L'->L'.blk=some b->id=id'
 known:∀id,st.objs id≠none->ρ id≠none
 young:∀id,ρ id≠none->id.1 < st.ep\/(id.1=st.ep/\X id.2.1)
 fzk:∀id,st.fz id=true->ρ id≠none
 glob:∀g cs,(g,cs)∈C.E.globs->ZeC w S g cs
 sOut:∀b c,S b c->C.S0 b c\/C.H.size<=b\/C.Lt b
 ep1:1<=st.ep
 quiet:ZQ C.W w
 lay:∀k L,C.lays k=some L->ρ (0,k,0)≠none->ρ (0,k,0)=some L
 fam:∃κ,Fam C.H.size C.Lt S ρ st.objs st.fz w κ
theorem Zgu (l:List (Id×Obj)):∀(a:St) (id:Id) (o:Obj),(a.objL l).objs id=some o->(id,o)∈l\/((∀o',(id,o')∉l)/\a.objs id=some o):=by
 induction l with
 |nil=>intro a id o h;exact .inr ⟨by simp,h⟩
 |cons x r b=>
  obtain⟨i,u⟩:=x;intro a id o h;rcases b (a.obj i u) id o h with h |⟨h,c⟩
  ·simp_all
  ·simp only[St.obj,upd]at c;grind
@[simp] theorem ZiW (l:List (Id×Obj)):∀a:St,(a.objL l).slots=a.slots:=by
 induction l with
 |nil=>intro a;rfl
 |cons x r b=>obtain⟨i,u⟩:=x;intro a;exact b _
@[simp] theorem objL_fz (l:List (Id×Obj)):∀a:St,(a.objL l).fz=a.fz:=by
 induction l with
 |nil=>intro a;rfl
 |cons x r b=>obtain⟨i,u⟩:=x;intro a;exact b _
@[simp] theorem ZmC (l:List (Id×Obj)):∀a:St,(a.objL l).ep=a.ep:=by
 induction l with
 |nil=>intro a;rfl
 |cons x r b=>obtain⟨i,u⟩:=x;intro a;exact b _
@[simp] theorem Zcx (l:List Id):∀a:St,(a.freezeL l).slots=a.slots:=by
 induction l with
 |nil=>intro a;rfl
 |cons x r b=>intro a;exact b _
@[simp] theorem Zu (l:List Id):∀a:St,(a.freezeL l).objs=a.objs:=by
 induction l with
 |nil=>intro a;rfl
 |cons x r b=>intro a;exact b _
@[simp] theorem Ze7 (l:List Id):∀a:St,(a.freezeL l).ep=a.ep:=by
 induction l with
 |nil=>intro a;rfl
 |cons x r b=>intro a;exact b _
theorem freezeL_fz (l:List Id):∀(a:St) (id:Id),(a.freezeL l).fz id=(l.contains id||a.fz id):=by
 induction l with
 |nil=>grind[St.freezeL]
 |cons x r b=>
  intro a id;simp only[St.freezeL,b,St.freeze,upd,List.contains_cons]
  grind
@[simp] theorem Zgi (a:St) (t:Option Nat) (d:D):(a.setO t d).objs=a.objs:=by cases t<;>rfl
@[simp] theorem setO_fz (a:St) (t:Option Nat) (d:D):(a.setO t d).fz=a.fz:=by cases t<;>rfl
@[simp] theorem setO_ep (a:St) (t:Option Nat) (d:D):(a.setO t d).ep=a.ep:=by cases t<;>rfl
@[simp] theorem ZcK (a:St) (i:Nat) (t:Option Nat) (e:Eff):(a.app i t e).ep=a.ep:=by simp[St.app]
@[simp] theorem ZbK (a:St) (i:Nat) (t:Option Nat) (e:Eff) (id:Id):(a.app i t e).fz id=(e.frz.contains id||a.fz id):=by simp[St.app,freezeL_fz]
theorem ZaU (a:St) (i:Nat) (t:Option Nat) (e:Eff) (k:Nat):(a.app i t e).slots k=if t=some k then e.val else a.slots k:=by
 cases t with
 |none=>simp[St.app,St.setO]
 |some t=>
  simp only[St.app,St.setO,St.set,upd,Zcx,ZiW,ZnO]
  grind
theorem ZK (a:St) (i:Nat) (t:Option Nat) (e:Eff) (id:Id) (o:Obj) (h:(a.app i t e).objs id=some o):
  (∃k,id=(a.ep,i,k)/\(k,o)∈e.new)\/((id,o)∈e.wr)\/((∀o',(id,o')∉e.wr)/\a.objs id=some o):=by
 simp only[St.app,Zgi,Zu]at h;rcases Zgu _ _ _ _ h with h |⟨_,h⟩
 ·grind
 grind[Zgu]
theorem Zip (a:Act) (t:Option Nat) (v:Value) (k:Nat) (h:∀d,t=some d->d < a.tmps.size):
  (a.put t v).tmps.getD k undef=if t=some k then v else a.tmps.getD k undef:=by
 cases t with
 |none=>simp[Act.put]
 |some d=>
  have b:=h d rfl
  by_cases hk:d=k
  all_goals simp_all[Act.put]
def Zmf (e:Eff) (m j sz c k:Nat) (l:List P):Prop:=
 ∃es lo a cs,(m,Obj.own sz c k es lo a)∈e.new/\es[j]? =some (.agg cs)/\cs[c]? =some (.sl k l)/\j < lo/\a≠some j
structure Zfp (st:St) (i:Nat) (e:Eff) (ρ ρ':Id->Option Lay) (w w':World) (S':Fz) (κ:Nat->Nat->Lay):Prop where
 kid:∀m j sz c k l L,Zmf e m j sz c k l->ρ' (st.ep,i,m)=some L->∃b v,L.blk=some b/\w'.cell? ⟨b,L.base+j*sz+c,none⟩=some v/\
  RelD w' S' (fun _=>some (κ m j)) v (.sl (0,0,0) 0 l.length)/\Zp w' S' (fun _=>none) (κ m j) (.arr k l false)
 own:∀m j sz c k l b,Zmf e m j sz c k l->(κ m j).blk=some b->b < w'.heap.size/\(∀c,¬S' b c)/\
  (w.heap.size<=b\/∃id o' L',(id,Obj.gone)∈e.wr/\st.objs id=some o'/\o'≠ .gone/\ρ id=some L'/\L'.blk=some b/\(∀o'',(id,o'')∈e.wr->o''= .gone))/\
  ∀m' o' L',(m',o')∈e.new->o'≠ .gone->ρ' (st.ep,i,m')=some L'->L'.blk≠some b
 inj:∀m j sz c k l m' j' sz' c' k' l' b,Zmf e m j sz c k l->Zmf e m' j' sz' c' k' l'->(κ m j).blk=some b->(κ m' j').blk=some b->m=m'/\j=j'
theorem Zfp.none {d:St} {i:Nat} {e:Eff} {ρ ρ':Id->Option Lay} {w w':World} {S':Fz} (h:∀k o,(k,o)∈e.new->o.isOwn=false):∃g,Zfp d i e ρ ρ' w w' S' g:=by
 have b:∀{m j sz c k l},¬Zmf e m j sz c k l:=by rintro m j sz c k l ⟨es,lo,f,cs,n,_⟩;grind[Obj.isOwn]
 exact⟨fun _ _=>⟨.none,0,0,0,0⟩,fun _ _ _ _ _ _ _ a=>(b a).elim,fun _ _ _ _ _ _ _ a=>(b a).elim,fun _ _ _ _ _ _ _ _ _ _ _ _ _ a=>(b a).elim⟩
theorem Rep.famStep {C:Ctx} {X:Nat->Prop} {ρ:Id->Option Lay} {S S':Fz} {g:St} {tm:Array Value} {w:World} (h:Rep C X ρ S g tm w)
  {i:Nat} {t:Option Nat} {e:Eff} {w':World} (ρ':Id->Option Lay)
  (ap:w.heap.size<=w'.heap.size)
  (W:∀b,b < w.heap.size->(∀id o L,(id,o)∈e.wr->ρ id=some L->L.blk≠some b)->w'.heap[b]? =w.heap[b]?)
  (wr:∀id o,(id,o)∈e.wr->g.fz id=false/\∃o',g.objs id=some o'/\o'≠ .gone)
  (aq:∀id L,ρ id=some L->ρ' id=some L) (kp:ZbM S w w') (ai:∀b c,S b c->S' b c)
  (am:∀b c,S' b c->S b c\/w.heap.size<=b\/∃id o L,g.objs id=some o/\o≠ .gone/\ρ id=some L/\L.blk=some b)
  (ah:∀k o L b,(k,o)∈e.new->ρ' (g.ep,i,k)=some L->L.blk=some b->w.heap.size<=b\/∃id o L,g.objs id=some o/\o≠ .gone/\ρ id=some L/\L.blk=some b)
  (nfam:∃V,Zfp g i e ρ ρ' w w' S' V) (an:∀k,ρ (g.ep,i,k)=none) (wown:∀id o,(id,o)∈e.wr->o.isOwn=false):
  ∃V,Fam C.H.size C.Lt S' ρ' (g.app i t e).objs (g.app i t e).fz w' V:=by
 obtain⟨V,F⟩:=h.fam;obtain⟨κn,N⟩:=nfam;have A:∀id L,ρ id≠none->ρ' id=some L->ρ id=some L:=fun id L Y T=>by
  cases hc:ρ id with
  |none=>grind
  |some L0=>grind
 have ao:∀m o,g.objs (g.ep,i,m)≠some o:=fun m o x=>h.known _ (by grind) (an m)
 have ko:∀{id j sz c k l},Kid (g.app i t e).objs (g.app i t e).fz id j sz c k l->(id.1=g.ep/\id.2.1=i/\Zmf e id.2.2 j sz c k l)\/
   (¬(id.1=g.ep/\id.2.1=i)/\Kid g.objs g.fz id j sz c k l/\∀o',(id,o')∉e.wr):=by
  rintro id j sz c k l ⟨es,lo,aa,cs,x,hf,r1,r2,r3,r4⟩;rw[ZbK]at hf;simp only[Zom]at hf;rcases ZK g i t e id _ x with ⟨k',rfl,E⟩ |E |⟨I,x⟩
  ·exact .inl ⟨rfl,rfl,es,lo,aa,cs,E,r1,r2,r3,r4⟩
  ·grind[Obj.isOwn]
  ·refine .inr ⟨fun hc=> ?_,⟨es,lo,aa,cs,x,hf.2,r1,r2,r3,r4⟩,I⟩;grind
 have ac:∀{id i' sz c k l},Kid g.objs g.fz id i' sz c k l->∀b,(V id i').blk=some b->w'.heap[b]? =w.heap[b]? :=fun r b q=>
  W b (F.own _ _ _ _ _ _ b r q).1 fun d o' L' E af=>by obtain⟨_,y,f,n⟩:=wr d o' E;exact(F.own _ _ _ _ _ _ b r q).2.2.2 d y L' f n af
 let ab:Id->Nat->Lay:=fun id=>if id.1=g.ep/\id.2.1=i then κn id.2.2 else V id
 have B:∀{id:Id},id.1=g.ep->id.2.1=i->ab id=κn id.2.2:=fun h1 h2=>by grind
 have D:∀{id:Id},¬(id.1=g.ep/\id.2.1=i)->ab id=V id:=fun h1=>by grind
 have H:∀{m j sz c k l d j' aj c' k' l' b},Zmf e m j sz c k l->(κn m j).blk=some b->Kid g.objs g.fz d j' aj c' k' l'->(V d j').blk=some b->False:=fun r q s p=>by
  obtain⟨s1,_,_,s4⟩:=F.own _ _ _ _ _ _ _ s p;rcases(N.own _ _ _ _ _ _ _ r q).2.2.1 with h1 |⟨id,o,L,_,q1,G,P,R,_⟩
  all_goals grind
 refine⟨ab,fun id j sz c k l L r T=> ?_,fun id j sz c k l b r q=> ?_,fun id j sz c k l d j' aj c' k' l' b r s q p=> ?_⟩
 ·rcases ko r with ⟨Q,U,Y⟩ |⟨J,r,I⟩
  ·rw[B Q U];obtain⟨a,b,m⟩:=id;dsimp only at Q U Y|-
   subst Q U;exact N.kid m j sz c k l L Y T
  rw[D J];have al:=r;obtain⟨es,lo,aa,cs,x,s⟩:=al;have u:=A id L (h.known id (by grind)) T;obtain⟨b,v,q,hv,hr,ak⟩:=F.kid _ _ _ _ _ _ L r u;have Q:w'.heap[b]? =w.heap[b]? :=W b (h.own id _ L b x (by simp) u q).1 fun d o' L' E af p=>by obtain⟨_,y,f,n⟩:=wr d o' E;have:=h.inj id _ L d y L' b x (by simp) u q f n af p;grind
  exact⟨b,v,q,by grind[ZS],hr.mono kp ai (fun _ _ h=>h),ak.mono kp ai (fun _ _ h=>h) (ac r)⟩
 ·rcases ko r with ⟨Q,U,Y⟩ |⟨J,r,I⟩
  ·rw[B Q U]at q;obtain⟨n1,n2,Z,n4⟩:=N.own _ _ _ _ _ _ _ Y q;refine⟨n1, ?_,n2,fun d o L x hg T z=> ?_⟩
   ·rcases Z with Z |⟨d,o,L,_,q1,G,P,R,_⟩
    ·exact .inl (Nat.le_trans h.grow Z)
    ·exact(h.own d o L b q1 G P R).2.1
   ·rcases ZK g i t e d o x with ⟨k',rfl,E⟩ |E |⟨I,x⟩
    ·grind
    ·obtain⟨_,y,f,n⟩:=wr d o E;have u:=A d L (h.known d (by grind)) T;rcases Z with Z |⟨ae,o2,L2,q0,q1,G,P,R,q5⟩
     ·have:=(h.own d y L b f n u z).1;omega
     ·have:=h.inj d y L ae o2 L2 b f n u z q1 G P R;grind
    ·have u:=A d L (h.known d (by simp[x])) T;rcases Z with Z |⟨ae,o2,L2,q0,q1,G,P,R,q5⟩
     ·have:=(h.own d o L b x hg u z).1;omega
     ·have:=h.inj d o L ae o2 L2 b x hg u z q1 G P R;subst this;exact I _ q0
  rw[D J]at q;obtain⟨h1,h2,h3,h4⟩:=F.own _ _ _ _ _ _ b r q;refine⟨by omega,h2,fun c' hs=> ?_,fun d o L x hg T z=> ?_⟩
  ·rcases am b c' hs with hs |hs |⟨d,o',L',q1,G,P,R⟩
   ·exact h3 c' hs
   ·omega
   ·exact h4 d o' L' q1 G P R
  ·rcases ZK g i t e d o x with ⟨k',rfl,E⟩ |E |⟨_,x⟩
   ·rcases ah k' o L b E T z with hs |⟨d,o',L',q1,G,P,R⟩
    ·omega
    ·exact h4 d o' L' q1 G P R
   ·obtain⟨_,y,f,n⟩:=wr d o E;exact h4 d y L f n (A d L (h.known d (by simp[f])) T) z
   ·exact h4 d o L x hg (A d L (h.known d (by simp[x])) T) z
 ·rcases ko r with ⟨Q,U,Y⟩ |⟨J,r,_⟩
  ·rw[B Q U]at q;rcases ko s with ⟨M,K,ag⟩ |⟨O,s,_⟩
   ·rw[B M K]at p;obtain⟨q1,G⟩:=N.inj _ _ _ _ _ _ _ _ _ _ _ _ b Y ag q p;refine⟨?_,G⟩;obtain⟨a,b',m⟩:=id;obtain⟨a',ar,m'⟩:=d;dsimp only at Q U M K q1;subst Q U q1 M K;rfl
   ·rw[D O]at p;exact(H Y q s p).elim
  ·rw[D J]at q;rcases ko s with ⟨M,K,ag⟩ |⟨O,s,_⟩
   ·rw[B M K]at p;exact(H ag p r q).elim
   ·rw[D O]at p;exact F.inj _ _ _ _ _ _ _ _ _ _ _ _ b r s q p
theorem Rep.stepG {C:Ctx} {X:Nat->Prop} {ρ:Id->Option Lay} {S:Fz} {m:St} {a:Act} {w:World} (h:Rep C X ρ S m a.tmps w)
  {i:Nat} {t:Option Nat} {e:Eff} {v:Value} {w':World} (ρ':Id->Option Lay)
  (hi:¬X i) (ht:∀d,t=some d->d < C.E.nt)
  (a3:w.heap.size<=w'.heap.size) (hq:ZQ w w')
  (af:∀b,b < w.heap.size->(∀id o L,(id,o)∈e.wr->ρ id=some L->L.blk≠some b)->w'.heap[b]? =w.heap[b]?)
  (wr:∀id o,(id,o)∈e.wr->m.fz id=false/\∃o',m.objs id=some o'/\o'≠ .gone)
  (J:∀id L,ρ id=some L->ρ' id=some L)
  (ag:∀id,ρ' id≠none->ρ id≠none\/(id.1=m.ep/\id.2.1=i))
  (frz:∀id,id∈e.frz->ρ id≠none/\∀o',(id,o')∉e.wr)
  (Q:∀k o,(k,o)∈e.new->∃L,ρ' (m.ep,i,k)=some L/\(∀b,L.blk=some b->
   (w.heap.size<=b\/(∃id o' L',(id,Obj.gone)∈e.wr/\m.objs id=some o'/\o'≠ .gone/\ρ id=some L'/\L'.blk=some b/\(∀I,(id,I)∈e.wr->I= .gone)/\∀c,S b c->inL (some o) L c/\o.soft=true)\/(b < w.heap.size/\(C.H.size<=b\/C.Lt b)/\(∀c,¬S b c)/\∀id o L,m.objs id=some o->o≠ .gone->ρ id=some L->L.blk≠some b))/\b < w'.heap.size)/\
   ∀S',(∀b c,S b c->S' b c)->(∀id,id∈e.frz->∀o L b,m.objs id=some o->o≠ .gone->ρ id=some L->L.blk=some b->∀c,inL (some o) L c->S' b c)->o≠ .gone->Zp w' S' ρ' L o)
  (am:∀k o L k' o' L' b,(k,o)∈e.new->o≠ .gone->ρ' (m.ep,i,k)=some L->L.blk=some b->(k',o')∈e.new->o'≠ .gone->ρ' (m.ep,i,k')=some L'->L'.blk=some b->k=k')
  (W:∀id o L,(id,o)∈e.wr->o≠ .gone->ρ id=some L->∀S',(∀b c,S b c->S' b c)->(∀id,id∈e.frz->∀o L b,m.objs id=some o->o≠ .gone->ρ id=some L->L.blk=some b->∀c,inL (some o) L c->S' b c)->Zp w' S' ρ' L o)
  (a5:∀S',(∀b c,S b c->S' b c)->(∀id,id∈e.frz->∀o L b,m.objs id=some o->o≠ .gone->ρ id=some L->L.blk=some b->∀c,inL (some o) L c->S' b c)->(∀d,t=some d->RelD w' S' ρ' v e.val))
  (kp:ZbM S w w') (ao:∀id o o',(id,o)∈e.wr->o≠ .gone->m.objs id=some o'->o'.soft=false)
  (ax:∀S',(∀b c,S b c->S' b c)->(∀b c,S' b c->S b c\/∃id o L,id∈e.frz/\m.objs id=some o/\o≠ .gone/\ρ id=some L/\L.blk=some b)->∃κ,Fam C.H.size C.Lt S' ρ' (m.app i t e).objs (m.app i t e).fz w' κ):
  ∃S',Rep C (fun j=>X j\/j=i) ρ' S' (m.app i t e) (a.put t v).tmps w':=by
 let S':Fz:=fun b c=>S b c\/∃id o L,id∈e.frz/\m.objs id=some o/\o≠ .gone/\ρ id=some L/\L.blk=some b/\inL (some o) L c
 have T:∀b c,S b c->S' b c:=fun b c G=> .inl G
 have a2:∀k,m.objs (m.ep,i,k)=none:=fun k=>by
  cases n:m.objs (m.ep,i,k)with
  |none=>rfl
  |some o=>
   have:=h.young _ (h.known (m.ep,i,k) (by grind));grind
 have ay:∀id o L,m.objs id=some o->o≠ .gone->(∀o',(id,o')∉e.wr)->ρ id=some L->∀b,L.blk=some b->w'.heap[b]? =w.heap[b]? :=by
  intro id o L y z an s b G;refine af b (h.own id o L b y z s G).1 fun f o' L' x u R=> ?_
  obtain⟨_,I,au,ap⟩:=wr f o' x;have:=h.inj id o L f I L' b y z s G au ap u R;grind
 have K:∀id L,ρ id≠none->ρ' id=some L->ρ id=some L:=fun id L hn s=>by
  cases n:ρ id with
  |none=>grind
  |some L0=>grind
 have Y:∀k,ρ (m.ep,i,k)=none:=fun k=>by
  cases n:ρ (m.ep,i,k)with
  |none=>rfl
  |some L=>have:=h.young (m.ep,i,k) (by grind);grind
 have U:∀id o L f o' L' b,m.objs id=some o->o≠ .gone->ρ id=some L->L.blk=some b->m.objs f=some o'->o'≠ .gone->ρ f=some L'->L'.blk=some b->id=f:=h.inj;refine⟨S',⟨?_,by have:=h.grow;omega, ?_,fun b c G=> .inl (h.s0 b c G), ?_, ?_, ?_, ?_, ?_, ?_, ?_, ?_,fun g cs x=>(h.glob g cs x).mono kp T, ?_,by rw[ZcK];exact h.ep1,h.quiet.trans hq, ?_,ax S' T (fun _ _ h=>h.imp id fun⟨a,o,L,q1,q2,q3,q4,q5,_⟩=>⟨a,o,L,q1,q2,q3,q4,q5⟩)⟩⟩
 ·rw[<-h.nt];cases t<;>simp[Act.put]
 ·intro b G hl;rw[<-h.frame b G hl];refine af b (by have:=h.grow;omega) fun id o L x s l=> ?_
  obtain⟨_,o',p,z⟩:=wr id o x;rcases(h.own id o' L b p z s l).2.1 with Z |Z
  ·omega
  grind
 ·intro b c G;rcases G with G |⟨id,o,L,x,y,z,s,l,_⟩
  ·have:=h.sIn b c G;omega
  ·have:=(h.own id o L b y z s l).1;omega
 ·intro k;rw[ZaU,Zip a t v k (fun d hd=>by rw[h.nt];grind)]
  by_cases hk:t=some k
  ·grind
  ·simp only[hk,if_false];exact(h.slots k).mono kp T J
 ·intro id o y z;rcases ZK m i t e id o y with ⟨k,rfl,x⟩ |x |⟨an,y⟩
  ·obtain⟨L,s,_,hr⟩:=Q k o x;exact⟨L,s,hr S' T (fun id x o L b y z s l c n=> .inr ⟨id,o,L,x,y,z,s,l,n⟩) z⟩
  ·obtain⟨_,o',p,q⟩:=wr id o x;obtain⟨L,s,_⟩:=h.objs id o' p q;exact⟨L,J _ _ s,W id o L x z s S' T (fun id x o L b y z s l c n=> .inr ⟨id,o,L,x,y,z,s,l,n⟩)⟩
  ·obtain⟨L,s,hr⟩:=h.objs id o y z;exact⟨L,J _ _ s,hr.mono kp T J (ay id o L y z an s)⟩
 ·intro id o L b y z s l;rw[ZbK];rcases ZK m i t e id o y with ⟨k,rfl,x⟩ |x |⟨an,y⟩
  ·obtain⟨L',u,G,_⟩:=Q k o x;rw[s]at u;obtain rfl:=ZnN u;obtain⟨M,as⟩:=G b l;have az:m.fz (m.ep,i,k)=false:=by
    cases n:m.fz (m.ep,i,k)with
    |false=>rfl
    |true=>exact absurd (Y k) (h.fzk _ n)
   have ab:(m.ep,i,k)∉e.frz:=fun E=>(frz _ E).1 (Y k)
   have ai:∀c,S' b c->inL (some o) L c/\o.soft=true:=by
    rintro c (hS |⟨ac,P,L1,ae,r,A,B,N,_⟩)
    ·rcases M with M |⟨f,o',L',E,p,q,u,R,_,hs⟩ |⟨_,_,hs,_⟩
     ·have:=h.sIn b c hS;omega
     ·exact hs c hS
     grind
    ·rcases M with M |⟨f,o',L',E,p,q,u,R,_⟩ |⟨_,_,_,hs⟩
     ·have:=(h.own ac P L1 b r A B N).1;omega
     ·have:=U _ _ _ _ _ _ _ r A B N p q u R;subst this;grind
     ·exact absurd N (hs ac P L1 r A B)
   refine⟨as, ?_,fun H=> ?_,fun c n=>⟨(ai c n).1,.inr (ai c n).2⟩⟩
   ·rcases M with M |⟨f,o',L',E,p,q,u,R,_⟩ |⟨_,hs,_⟩
    ·have:=h.grow;exact .inl (by omega)
    ·exact(h.own f o' L' b p q u R).2.1
    ·exact hs
   ·simp[az,ab]at H
  ·obtain⟨ar,o',p,q⟩:=wr id o x;have F:=K id L (h.known id (by simp[p])) s;obtain⟨Z,h2,h3,h4⟩:=h.own id o' L b p q F l;have ab:id∉e.frz:=fun E=>(frz _ E).2 _ x
   refine⟨by omega,h2,fun H=>by simp[ar,ab]at H,fun c=> ?_⟩;rintro(hS |⟨ac,P,L1,ae,r,A,B,N,_⟩)
   ·have:=(h4 c hS).2;simp[ar,ao id o o' x z p]at this
   ·have:=U _ _ _ _ _ _ _ r A B N p q F l;subst this;exact absurd ae ab
  ·have F:=K id L (h.known id (by simp[y])) s;obtain⟨Z,h2,h3,h4⟩:=h.own id o L b y z F l;refine⟨by omega,h2,fun H c n=> ?_,fun c=> ?_⟩
   ·simp only[Bool.or_eq_true,ZnY]at H;rcases H with H |H
    ·exact .inr ⟨id,o,L,H,y,z,F,l,n⟩
    ·exact .inl (h3 H c n)
   ·rintro(hS |⟨ac,P,L1,ae,r,A,B,N,n⟩)
    ·exact⟨(h4 c hS).1,(h4 c hS).2.imp (fun h=>by simp[h]) fun h=>h⟩
    ·have:=U _ _ _ _ _ _ _ r A B N y z F l;subst this;rw[y]at r;obtain rfl:=ZnN r;rw[F]at B;obtain rfl:=ZnN B;exact⟨n,.inl (by simp[ae])⟩
 ·
  have O:∀k o L f o' L' b,(k,o)∈e.new->o≠ .gone->ρ' (m.ep,i,k)=some L->L.blk=some b->(m.app i t e).objs f=some o'->o'≠ .gone->
    ((f,o')∈e.wr\/((∀I,(f,I)∉e.wr)/\m.objs f=some o'))->ρ' f=some L'->L'.blk=some b->False:=by
   intro k o L f o' L' b x z s l _ q V u D;obtain⟨L0,F,G,_⟩:=Q k o x;rw[s]at F;obtain rfl:=ZnN F;have al:∃P,m.objs f=some P/\P≠ .gone:=by
    rcases V with n |n
    ·exact(wr _ _ n).2
    ·exact⟨o',n.2,q⟩
   obtain⟨P,r,A⟩:=al;have B:=K f L' (h.known f (by simp[r])) u;rcases(G b l).1 with M |⟨a4,o2,L2,a1,aa,aj,aw,av,aq,_⟩ |⟨_,_,_,hs⟩
   rotate_right
   ·exact hs f P L' r A B D
   ·have:=(h.own f P L' b r A B D).1;omega
   ·have:=U _ _ _ _ _ _ _ r A B D aa aj aw av;subst this;rcases V with n |n
    ·exact q (aq _ n)
    ·exact n.1 _ a1
  intro id o L f o' L' b y z s l p q u D;rcases ZK m i t e id o y with ⟨k,rfl,x⟩ |n
  ·rcases ZK m i t e f o' p with ⟨k',rfl,E⟩ |ak
   ·rw[am k o L k' o' L' b x z s l E q u D]
   ·exact(O k o L f o' L' b x z s l p q ak u D).elim
  ·rcases ZK m i t e f o' p with ⟨k',rfl,E⟩ |ak
   ·exact(O k' o' L' id o L b E q u D y z n s l).elim
   ·have ah:∀id o,o≠ .gone->((id,o)∈e.wr\/((∀I,(id,I)∉e.wr)/\m.objs id=some o))->∃P,m.objs id=some P/\P≠ .gone:=by
     intro id o z n;rcases n with n |n
     ·exact(wr _ _ n).2
     ·exact⟨o,n.2,z⟩
    obtain⟨P,r,A⟩:=ah id o z n;obtain⟨o2,aa,aj⟩:=ah f o' q ak;exact U _ _ _ _ _ _ _ r A (K id L (h.known id (by simp[r])) s) l aa aj (K f L' (h.known f (by simp[aa])) u) D
 ·intro id hn;cases y:(m.app i t e).objs id with
  |none=>exact absurd y hn
  |some o=>
   rcases ZK m i t e id o y with ⟨k,rfl,x⟩ |x |⟨_,y⟩
   ·obtain⟨L,s,_⟩:=Q k o x;simp[s]
   ·obtain⟨_,o',p,_⟩:=wr id o x;have:=h.known id (by simp[p]);cases n:ρ id with
    |none=>exact absurd n this
    |some L=>simp[J _ _ n]
   ·have:=h.known id (by simp[y]);cases n:ρ id with
    |none=>exact absurd n this
    |some L=>simp[J _ _ n]
 ·intro id hn;rw[ZcK];rcases ag id hn with Z |⟨Z,h2⟩
  ·rcases h.young id Z with h2 |⟨h2,h3⟩
   ·exact .inl h2
   ·exact .inr ⟨h2,.inl h3⟩
  ·exact .inr ⟨Z,.inr h2⟩
 ·intro id H;rw[ZbK]at H;simp only[Bool.or_eq_true,ZnY]at H;have:ρ id≠none:=by
   rcases H with H |H
   ·exact(frz id H).1
   ·exact h.fzk id H
  cases n:ρ id with
  |none=>exact absurd n this
  |some L=>simp[J _ _ n]
 ·intro b c G;rcases G with G |⟨id,o,L,x,y,z,s,l,_⟩
  ·exact h.sOut b c G
  ·exact .inr (h.own id o L b y z s l).2.1
 ·intro k L hk hn;rcases ag _ hn with Z |⟨Z,_⟩
  ·exact J _ _ (h.lay k L hk Z)
  ·have:=h.ep1;simp only at Z;omega
theorem Rep.stepS {C:Ctx} {X:Nat->Prop} {ρ:Id->Option Lay} {S:Fz} {f:St} {a:Act} {w:World} (h:Rep C X ρ S f a.tmps w)
  {i:Nat} {t:Option Nat} {e:Eff} {v:Value} {w':World} (ρ':Id->Option Lay)
  (hi:¬X i) (H:∀d,t=some d->d < C.E.nt)
  (l:w.heap.size<=w'.heap.size) (I:ZQ w w')
  (m:∀b,b < w.heap.size->(∀id o L,(id,o)∈e.wr->ρ id=some L->L.blk≠some b)->w'.heap[b]? =w.heap[b]?)
  (wr:∀id o,(id,o)∈e.wr->f.fz id=false/\∃o',f.objs id=some o'/\o'≠ .gone)
  (u:∀id L,ρ id=some L->ρ' id=some L)
  (s:∀id,ρ' id≠none->ρ id≠none\/(id.1=f.ep/\id.2.1=i))
  (frz:∀id,id∈e.frz->ρ id≠none/\∀o',(id,o')∉e.wr)
  (D:∀k o,(k,o)∈e.new->∃L,ρ' (f.ep,i,k)=some L/\(∀b,L.blk=some b->
   (w.heap.size<=b\/∃id o' L',(id,Obj.gone)∈e.wr/\f.objs id=some o'/\o'≠ .gone/\ρ id=some L'/\L'.blk=some b/\(∀q,(id,q)∈e.wr->q= .gone)/\∀c,S b c->inL (some o) L c/\o.soft=true)/\b < w'.heap.size)/\
   ∀S',(∀b c,S b c->S' b c)->(∀id,id∈e.frz->∀o L b,f.objs id=some o->o≠ .gone->ρ id=some L->L.blk=some b->∀c,inL (some o) L c->S' b c)->o≠ .gone->Zp w' S' ρ' L o)
  (p:∀k o L B o' L' b,(k,o)∈e.new->o≠ .gone->ρ' (f.ep,i,k)=some L->L.blk=some b->(B,o')∈e.new->o'≠ .gone->ρ' (f.ep,i,B)=some L'->L'.blk=some b->k=B)
  (g:∀id o L,(id,o)∈e.wr->o≠ .gone->ρ id=some L->∀S',(∀b c,S b c->S' b c)->(∀id,id∈e.frz->∀o L b,f.objs id=some o->o≠ .gone->ρ id=some L->L.blk=some b->∀c,inL (some o) L c->S' b c)->Zp w' S' ρ' L o)
  (z:∀S',(∀b c,S b c->S' b c)->(∀id,id∈e.frz->∀o L b,f.objs id=some o->o≠ .gone->ρ id=some L->L.blk=some b->∀c,inL (some o) L c->S' b c)->(∀d,t=some d->RelD w' S' ρ' v e.val))
  (F:ZbM S w w') (n:∀id o o',(id,o)∈e.wr->o≠ .gone->f.objs id=some o'->o'.soft=false)
  (x:∀k o,(k,o)∈e.new->o.isOwn=false:=by simp) (wown:∀id o,(id,o)∈e.wr->o.isOwn=false:=by simp):
  ∃S',Rep C (fun j=>X j\/j=i) ρ' S' (f.app i t e) (a.put t v).tmps w':=by
 refine h.stepG ρ' hi H l I m wr u s frz (fun k o G=> ?_) p g z F n (fun S' A y=> ?_)
 ·grind
 ·refine h.famStep ρ' l m wr u F A (fun b c E=>(y b c E).imp id fun⟨id,o,L,_,r⟩=> .inr ⟨id,o,L,r⟩) (fun k o L b G J E=> ?_) (Zfp.none x) (fun k=> ?_) wown
  rotate_right
  ·cases hc:ρ (f.ep,i,k)with
   |none=>rfl
   |some L=>have:=h.young (f.ep,i,k) (by grind);grind
  grind
theorem Rep.step {C:Ctx} {X:Nat->Prop} {ρ:Id->Option Lay} {S:Fz} {f:St} {a:Act} {w:World} (h:Rep C X ρ S f a.tmps w)
  {i:Nat} {t:Option Nat} {e:Eff} {v:Value} {w':World} (ρ':Id->Option Lay)
  (hi:¬X i) (F:∀d,t=some d->d < C.E.nt)
  (q:w.heap.size<=w'.heap.size) (I:ZQ w w')
  (l:∀b,b < w.heap.size->(∀id o L,(id,o)∈e.wr->ρ id=some L->L.blk≠some b)->w'.heap[b]? =w.heap[b]?)
  (wr:∀id o,(id,o)∈e.wr->f.fz id=false/\∃o',f.objs id=some o'/\o'≠ .gone)
  (B:∀id L,ρ id=some L->ρ' id=some L)
  (r:∀id,ρ' id≠none->ρ id≠none\/(id.1=f.ep/\id.2.1=i))
  (frz:∀id,id∈e.frz->ρ id≠none/\∀o',(id,o')∉e.wr)
  (E:∀k o,(k,o)∈e.new->∃L,ρ' (f.ep,i,k)=some L/\(∀b,L.blk=some b->
   (w.heap.size<=b\/∃id o' L',(id,Obj.gone)∈e.wr/\f.objs id=some o'/\o'≠ .gone/\ρ id=some L'/\L'.blk=some b/\(∀p,(id,p)∈e.wr->p= .gone))/\b < w'.heap.size)/\
   ∀S',(∀b c,S b c->S' b c)->(∀id,id∈e.frz->∀o L b,f.objs id=some o->o≠ .gone->ρ id=some L->L.blk=some b->∀c,inL (some o) L c->S' b c)->o≠ .gone->Zp w' S' ρ' L o)
  (n:∀k o L D o' L' b,(k,o)∈e.new->o≠ .gone->ρ' (f.ep,i,k)=some L->L.blk=some b->(D,o')∈e.new->o'≠ .gone->ρ' (f.ep,i,D)=some L'->L'.blk=some b->k=D)
  (g:∀id o L,(id,o)∈e.wr->o≠ .gone->ρ id=some L->∀S',(∀b c,S b c->S' b c)->(∀id,id∈e.frz->∀o L b,f.objs id=some o->o≠ .gone->ρ id=some L->L.blk=some b->∀c,inL (some o) L c->S' b c)->Zp w' S' ρ' L o)
  (z:∀S',(∀b c,S b c->S' b c)->(∀id,id∈e.frz->∀o L b,f.objs id=some o->o≠ .gone->ρ id=some L->L.blk=some b->∀c,inL (some o) L c->S' b c)->(∀d,t=some d->RelD w' S' ρ' v e.val))
  (u:∀k o,(k,o)∈e.new->o.isOwn=false:=by simp) (wown:∀id o,(id,o)∈e.wr->o.isOwn=false:=by simp)
  (ns:∀id o o',(id,o)∈e.wr->f.objs id=some o'->o'.soft=false:=by simp):
  ∃S',Rep C (fun j=>X j\/j=i) ρ' S' (f.app i t e) (a.put t v).tmps w':=by
 have s:∀b c,S b c->∀id o L,(id,o)∈e.wr->ρ id=some L->L.blk≠some b:=fun b c x id o L y G A=>by obtain⟨J,o',m,H⟩:=wr id o y;have:=((h.own id o' L b m H G A).2.2.2 c x).2;grind
 refine h.stepS ρ' hi F q I l wr B r frz (fun k o y=> ?_) n g z (.of fun b c x _=>l b (h.sIn b c x) (s b c x)) (fun id o o' y _ m=>ns id o o' y m) u wown;grind
theorem ns_one {b:St} {id:Id} {x c:Obj} (h:b.objs id=some c) (d:c.soft=false) (a:Id) (o o':Obj) (e:(a,o)∈[(id,x)]) (f:b.objs a=some o'):o'.soft=false:=by simp_all
theorem Rep.notS {C:Ctx} {X:Nat->Prop} {ρ:Id->Option Lay} {S:Fz} {a:St} {tm:Array Value} {w:World} (h:Rep C X ρ S a tm w) {id:Id} {o:Obj} {L:Lay} {b:Nat}
  (i:a.objs id=some o) (e:o≠ .gone) (d:ρ id=some L) (g:L.blk=some b) (k:a.fz id=false) (j:o.soft=false) (c:Nat):¬S b c:=fun f=>by
 have:=((h.own id o L b i e d g).2.2.2 c f).2;simp_all
end Eng
namespace Eng
open Go
def Zat:TypeDesc->TD->Bool
 | .bool,.bool=>true
 | .int k,.int k'=>k == k'
 | .string,.str=>true
 | .slice e,.sl e'=>e == e'
 | .array n e,.arr n' e'=>n == n'&&e == e'
 | .pointer e,.ptr e'=>e == e'
 | .map k e,.map k' e'=>k == k'&&e == e'
 | .struct fs,.struct gs=>fs.toList.map (fun f=>(f.offset,f.type)) == gs&&fs.all (fun f=>f.name != "_")
 | .func _ _ _,.func=>true
 | .tuple _,.tup=>true
 |_,_=>false
def zOk:Value->Z->Bool
 | .bool false,.p (.bool false)=>true
 | .int k n,.p (.int k' m)=>k == k'&&n == 0&&m == 0
 | .string s,.p (.str [])=>s.data.size == 0
 | .slice none 0 0,.nils _=>true
 | .pointer none,.p .nilp=>true
 | .map none,.p (.map _ [])=>true
 | .nilFunc,.p .nilfn=>true
 |_,_=>false
def Zmg:List Value->List Z->Bool
 | [],[]=>true
 |v::vs,z::zs=>zOk v z&&Zmg vs zs
 |_,_=>false
def tiOk (p:Program) (t:Nat) (ti:TI):Bool:=
 match p.info? t,p.underlying t with
 |some i,some d=>i.size == ti.size&&i.bytes == ti.bytes&&Zat d ti.d&&(match ti.d with | .struct fs=> !p.stoodInHeld t&& !p.eqGuardType p.depth t&&fs.all (fun f=>(p.info? f.2).isSome) | .arr _ a=>(p.info? a).isSome |_=>true)&&
  (match i.zero with
   |some z=>Zmg z.cells.toList ti.zero&&(if ti.isAgg then (match z with | .agg _=>true |_=>false)else (match z with | .agg _=>false |_=>ti.zero.length == 1))&&ti.zero.length == ti.size
   |none=>false)
 |_,_=>false
def ZjH (p:Program):Nat->List (Option TI)->Bool
 |_,[]=>true
 |t,none::r=>ZjH p (t+1) r
 |t,some ti::r=>tiOk p t ti&&ZjH p (t+1) r
structure Zl (E:Env):Prop where
 tys:ZjH E.prog 0 E.tys=true
theorem ZdH {p:Program}:∀{l:List (Option TI)} {n t:Nat} {ti:TI},ZjH p n l=true->l[t]? =some (some ti)->tiOk p (n+t) ti=true
 | [],n,t,ti,_,h=>by grind
 |none::r,n,t,ti,h,hg=>by
  cases t with
  |zero=>simp_all
  |succ t=>simp only[List.getElem?_cons_succ]at hg;have:=ZdH (n:=n+1) h hg;grind
 |some x::r,n,t,ti,h,hg=>by
  simp only[ZjH,Znu]at h;cases t with
  |zero=>simp_all
  |succ t=>simp only[List.getElem?_cons_succ]at hg;have:=ZdH (n:=n+1) h.2 hg;grind
theorem Zl.ti {E:Env} (h:Zl E) {t:Nat} {ti:TI} (a:E.ty t=some ti):tiOk E.prog t ti=true:=by
 unfold Env.ty at a;split at a;rotate_left;simp at a;rename_i i hi;cases a;have:=ZdH h.tys hi
 simp_all
structure TIs (p:Program) (t:Nat) (ti:TI) (i:TypeInfo) (d:TypeDesc) (z:Value):Prop where
 info:p.info? t=some i
 und:p.underlying t=some d
 size:i.size=ti.size
 bytes:i.bytes=ti.bytes
 td:Zat d ti.d=true
 eq:(match ti.d with | .struct fs=> !p.stoodInHeld t&& !p.eqGuardType p.depth t&&fs.all (fun f=>(p.info? f.2).isSome) | .arr _ el=>(p.info? el).isSome |_=>true)=true
 zero:i.zero=some z
 zs:Zmg z.cells.toList ti.zero=true
 zl:ti.zero.length=ti.size
 agg:ti.isAgg=true->∃cs,z= .agg cs
 flat:ti.isAgg=false->z.cells= #[z]/\ti.zero.length=1
theorem Zl.is {E:Env} (h:Zl E) {t:Nat} {ti:TI} (p:E.ty t=some ti):∃i d z,TIs E.prog t ti i d z:=by
 have a:=h.ti p;unfold tiOk at a;split at a;rotate_left;simp at a;rename_i i d hi k;simp only[Znu,beq_iff_eq]at a;obtain⟨⟨⟨⟨o,g⟩,n⟩,c⟩,b⟩:=a;split at b;rotate_left;simp at b;rename_i z l;simp only[Znu,beq_iff_eq]at b;obtain⟨⟨j,e⟩,m⟩:=b;refine⟨i,d,z,⟨hi,k,o,g,n,c,l,j,m,fun f=> ?_,fun f=> ?_⟩⟩
 ·grind
 ·rw[f]at e;cases z<;>simp at e<;>exact⟨rfl,e⟩
theorem Za {P:Program} {t:TypeId} {d:TypeDesc} (h:P.underlying t=some d) (w:World):(underlying t).run P w= .ok d w:=run_underlying h w
theorem ZC {P:Program} {t:TypeId} {i:TypeInfo} (h:P.info? t=some i) (w:World):(typeInfo t).run P w= .ok i w:=by simp[typeInfo,h]
theorem Zao {P:Program} {t:TypeId} {i:TypeInfo} (h:P.info? t=some i) (w:World):(Go.sizeOf t).run P w= .ok i.size w:=by simp[Go.sizeOf,ZC h]
theorem Z0 {P:Program} {t:TypeId} {i:TypeInfo} {z:Value} (h:P.info? t=some i) (a:i.zero=some z) (w:World):(zeroValue t).run P w= .ok z w:=by simp[zeroValue,ZC h,a]
theorem TIs.isAgg {p:Program} {t:Nat} {ti:TI} {i:TypeInfo} {d:TypeDesc} {z:Value} (h:TIs p t ti i d z) (w:World):(Go.isAgg t).run p w= .ok ti.isAgg w:=by have:=h.td;unfold Go.isAgg;rw[Sem.run_bind,Za h.und w];cases d<;>cases hd:ti.d<;>simp[hd,Zat]at this<;>simp[TI.isAgg,hd]
theorem Zmh {w:World} {S:Fz} {ρ:Id->Option Lay} {v:Value} {z:Z} (h:zOk v z=true):RelD w S ρ v z.toD/\Zbp v:=by
 unfold zOk at h;split at h
 ·exact⟨.p _ _ (.bool false),rfl⟩
 ·rename_i k n a m;simp only[Znu,beq_iff_eq]at h;obtain⟨⟨rfl,rfl⟩,rfl⟩:=h;refine⟨.p _ _ (.int _ _ ?_ ?_),rfl⟩<;>cases k<;>decide
 ·rename_i s;obtain⟨⟨l⟩⟩:=s;simp at h;subst h;exact⟨.p _ _ (.str [] (by simp)),rfl⟩
 ·exact⟨.nils _,rfl⟩
 ·exact⟨.p _ _ .nilp,rfl⟩
 ·exact⟨.p _ _ (.nilmap _),rfl⟩
 ·exact⟨.p _ _ .nilfn,rfl⟩
 simp_all
theorem Zco:∀{vs:List Value} {a:List Z},Zmg vs a=true->vs.length=a.length/\∀(i:Nat) v z,vs[i]? =some v->a[i]? =some z->zOk v z=true
 | [],[],_=>⟨rfl,by simp⟩
 | [],_::_,h=>by grind[Zmg]
 |_::_,[],h=>by grind[Zmg]
 |v::vs,z::a,h=>by
  simp only[Zmg,Znu]at h;obtain⟨b,hi⟩:=Zco h.2;grind
theorem ZmA {w:World} {S:Fz} {ρ:Id->Option Lay} (sz:Nat) (td:TD) {v:Value} (h:ZE (.const v)=true):RelD w S ρ v (D.ofV sz td v):=by
 unfold D.ofV;split
 ·exact .p _ _ (.bool _)
 ·simp[ZE]at h;exact .p _ _ (.int _ _ h.1 h.2)
 ·rename_i s;obtain⟨⟨l⟩⟩:=s;simp[ZE]at h;exact .p _ _ (.str l h)
 ·exact .nils sz
 ·exact .p _ _ .nilp
 ·exact .p _ _ (.nilmap _)
 ·exact .p _ _ .nilfn
 ·exact .dead v
theorem Zm {C:Ctx} {X:Nat->Prop} {ρ:Id->Option Lay} {S:Fz} {c:St} {a:Act} {w:World} (h:Rep C X ρ S c a.tmps w) (t:Nat) {x:Operand} (e:ZE x=true):
  RelD w S ρ (a.eval x) (ev C.E c.slots t x):=by
 cases x with
 |tmp k=>exact h.slots k
 |const v=>exact ZmA _ _ e
 |global g=>
  simp only[Act.eval,ev,Env.glob];split
  ·rename_i x b;have d:=List.find?_some b;have i:=ZoC b;simp only[beq_iff_eq]at d;subst d;exact .p _ _ (h.glob _ _ i).2.1
  ·exact .dead _
 |func f=>exact .p _ _ (.fn f #[] #[] [] [] rfl rfl (by simp) (by simp))
end Eng
namespace Eng
open Go
section
variable {C:Ctx} {X:Nat->Prop} {ρ:Id->Option Lay} {S:Fz} {st:St} {a:Act} {w:World} {i:Nat} {o:Oper} {e:Eff}
def Zv (C:Ctx) (X:Nat->Prop) (b:St) (a:Act) (w:World) (i:Nat) (o:Oper) (e:Eff):Prop:=
 ∃n v w',(execOp a.eval o).run C.E.prog w= .ok n w'/\(n= .value v\/(n= .skip/\v=undef))/\
  ∃ρ' S',Rep C (fun j=>X j\/j=i) ρ' S' (b.app i o.dst e) (a.put o.dst v).tmps w'
theorem Zv.frz (h:Rep C X ρ S st a.tmps w) (hi:¬X i) (l:∀d,o.dst=some d->d < C.E.nt) {v:Value} (f:(execOp a.eval o).run C.E.prog w= .ok (.value v) w)
  (p:e.new=[]) (hw:e.wr=[]) (k:∀id,id∈e.frz->ρ id≠none)
  (j:∀S',(∀b c,S b c->S' b c)->(∀id,id∈e.frz->∀o L b,st.objs id=some o->o≠ .gone->ρ id=some L->L.blk=some b->∀c,inL (some o) L c->S' b c)->RelD w S' ρ v e.val):Zv C X st a w i o e:=
 ⟨_,v,w,f,.inl rfl,ρ,h.step ρ hi l (ZnJ _) (ZQ.refl _) (fun _ _ _=>rfl) (by grind) (fun _ _ h=>h) (fun id h=> .inl h) (fun id g=>⟨k id g,by grind⟩)
  (by grind) (by grind) (by grind) (fun S' m n _ _=>j S' m n) (by grind) (by grind) (by grind)⟩
theorem Zv.quiet (h:Rep C X ρ S st a.tmps w) (hi:¬X i) (g:∀d,o.dst=some d->d < C.E.nt) {v:Value} (b:(execOp a.eval o).run C.E.prog w= .ok (.value v) w)
  (c:e.new=[]) (hw:e.wr=[]) (k:e.frz=[]) (f:RelD w S ρ v e.val):Zv C X st a w i o e:=
 Zv.frz h hi g b c hw (by grind) fun _ j _=>f.mono (.refl _ _) j fun _ _ h=>h
theorem RelD.of_p {v:Value} {x:P} (h:RelD w S ρ v (.p x)):RelP w S v x:=by cases h;omega
theorem RelP.bool_inv {v:Value} {b:Bool} (h:RelP w S v (.bool b)):v= .bool b:=by cases h;rfl
theorem RelP.int_inv {v:Value} {k:IntKind} {n:Int} (h:RelP w S v (.int k n)):v= .int k n/\k.min<=n/\n<=k.max:=by cases h;simp_all
theorem RelP.str_inv {v:Value} {s:List UInt8} (h:RelP w S v (.str s)):v= .string ⟨s.toArray⟩/\s.length<=Zr:=by cases h;simp_all
theorem Za9 (k:IntKind) (n:Int):k.min<=k.wrap n/\k.wrap n<=k.max:=by
 unfold IntKind.wrap;cases k<;>simp only[IntKind.min,IntKind.max,IntKind.bits,IntKind.signed,Bool.true_and,Bool.false_and,Znv,if_true,if_false]<;>
  first
   |omega
   |grind
theorem Zmi (k:IntKind) (n:Int) (b:k.min<=n) (a:n<=k.max):k.wrap n=n:=by
 unfold IntKind.wrap;cases k<;>simp only[IntKind.min,IntKind.max,IntKind.bits,IntKind.signed,Bool.true_and,Bool.false_and,Znv,if_true,if_false]at* <;>
  first
   |omega
   |grind
variable (h:Rep C X ρ S st a.tmps w) (hi:¬X i) (ht:∀d,o.dst=some d->d < C.E.nt) (hlit:o.op.operands.all ZE=true) (hE:Zl C.E)
include h hi ht hlit
theorem ZkA {x:Operand} (c:o.op= .move x) (b:Zf C.E st.ep i o.op o.type st.slots st.objs=some e):Zv C X st a w i o e:=by rw[c]at b hlit;simp only[Zf,ZnO]at b;subst b;exact Zv.quiet h hi ht (by simp[execOp,c]) rfl rfl rfl (Zm h _ (by grind[Op.operands]))
theorem Zky {c x y:Operand} (g:o.op= .pick c x y) (d:Zf C.E st.ep i o.op o.type st.slots st.objs=some e):Zv C X st a w i o e:=by rw[g]at d hlit;simp[Op.operands]at hlit;have f:=Zm h o.type hlit.1;have m:=Zm h o.type hlit.2.1;have l:=Zm h o.type hlit.2.2;simp only[Zf]at d;split at d;rotate_left;simp at d;rename_i b j;cases d;rw[j]at f;have k:=f.of_p.bool_inv;refine Zv.quiet h hi ht (v:=if b then a.eval x else a.eval y) (by simp_all[execOp,asBool]) rfl rfl rfl ?_;grind
theorem ZfU {x:Operand} (f:o.op= .nilCheck x) (c:Zf C.E st.ep i o.op o.type st.slots st.objs=some e):Zv C X st a w i o e:=by
 rw[f]at c hlit;simp[Op.operands]at hlit;have b:=Zm h 0 hlit;simp only[Zf]at c;split at c<;>simp only[ZnO,reduceCtorEq]at c
 all_goals
  subst c;rename_i d;rw[d]at b;refine Zv.quiet h hi ht (v:=a.eval x) ?_ rfl rfl rfl b;generalize hv:a.eval x=v at b
 ·cases b with |p _ _ b=>cases b;simp_all[execOp]
 ·cases b;simp_all[execOp]
 ·cases b with |p _ _ b=>cases b;simp_all[execOp]
 ·cases b;simp_all[execOp]
 ·cases b;simp_all[execOp]
theorem ZgS {x:Operand} {n:Nat} (j:o.op= .extract x n) (b:Zf C.E st.ep i o.op o.type st.slots st.objs=some e):Zv C X st a w i o e:=by
 rw[j]at b hlit;simp[Op.operands]at hlit;have g:=Zm h 0 hlit;simp only[Zf]at b;split at b;rotate_left;simp at b;rename_i vs c;rw[c]at g;simp only[ZnM]at b;obtain⟨d,k,rfl⟩:=b;cases hv:a.eval x<;>rw[hv]at g<;>cases g;rename_i us m l;have f:n < us.size:=by grind
 refine Zv.quiet h hi ht (v:=us[n]) (by simp[execOp,j,hv,Instr.extract,f]) rfl rfl rfl (l n _ d (by grind) k)
theorem ZfV {f:Fn} {fs cs:Array Operand} (p:o.op= .makeFunc f fs cs) (m:Zf C.E st.ep i o.op o.type st.slots st.objs=some e):Zv C X st a w i o e:=by
 rw[p]at m hlit;cases f<;>simp only[Zf,ZnO,reduceCtorEq]at m;rename_i f;subst m;simp[Op.operands]at hlit;have key:∀(xs:Array Operand),(∀x∈xs,ZE x=true)->∀(k:Nat) v d,(xs.map a.eval)[k]? =some v->(xs.toList.map (ev C.E st.slots 0))[k]? =some d->RelD w S ρ v d:=by
  grind[Zm]
 refine Zv.quiet h hi ht (v:= .func (.func f) (fs.map a.eval) (cs.map a.eval)) (by simp[execOp,p,Instr.makeFunc]) rfl rfl rfl ?_;have k1:=key fs (fun x g=>by grind[Zns]);have l:=key cs (fun x g=>by grind[Zns]);dsimp only;split
 ·rename_i pa q b c;rw[Zx b]at k1;rw[Zx c]at l;have n:=congrArg List.length (Zx b);have lb:=congrArg List.length (Zx c);simp at n lb;exact .p _ _ (.fn f _ _ pa q (by simpa using n) (by simpa using lb) (fun k v x j g=>(k1 k v _ j (by simp[g])).of_p) (fun k v x j g=>(l k v _ j (by simp[g])).of_p))
 ·exact .fn f _ _ _ _ (by simp) (by simp) k1 l
omit h hi ht hlit in
theorem ZdB {op:BinOp} {k:IntKind} {x y n:Int} (hb:ZfZ op k x y=some n):k.min<=n/\n<=k.max:=by
 unfold ZfZ at hb
 cases op<;>simp at hb<;>subst hb<;>exact Za9 k _
omit h hi ht hlit in
theorem kind0 (k:IntKind):k.min<=0/\0<=k.max:=by cases k<;>decide
omit h hi ht hlit in
theorem Zl2 (n:Nat) (y:Int):0<=((n:Int)).tmod y/\((n:Int)).tmod y<=n:=by
 obtain⟨m,rfl |rfl⟩:∃m:Nat,y=m\/y= -(m:Int):=⟨y.natAbs,by omega⟩
 ·have:=Nat.mod_le n m
  have e:((n:Int)).tmod (m:Int)=((n % m:Nat):Int):=rfl
  omega
 ·have:=Nat.mod_le n m
  have e:((n:Int)).tmod (-(m:Int))=((n % m:Nat):Int):=by rw[Int.tmod_neg];rfl
  omega
omit h hi ht hlit in
theorem ZeP (k:IntKind) (x y:Int) (h0:k.min<=x) (h1:x<=k.max):k.min<=x.tmod y/\x.tmod y<=k.max:=by
 have hm:=kind0 k
 by_cases hx:0<=x
 ·obtain⟨n,rfl⟩:=Int.eq_ofNat_of_zero_le hx
  have:=Zl2 n y
  omega
 ·obtain⟨n,rfl⟩:∃n:Nat,x= -(n:Int):=⟨x.natAbs,by omega⟩
  rw[Int.neg_tmod]
  have:=Zl2 n y
  omega
omit h hi ht hlit in
theorem Ze9 (k:IntKind) (x:Int) (m:Nat) (h0:k.min<=x) (h1:x<=k.max):k.min<=x.fdiv (2 ^ m)/\x.fdiv (2 ^ m)<=k.max:=by
 have hm:=kind0 k
 have hp:(0:Int) < 2 ^ m:=Int.pow_pos (by decide)
 rw[Int.fdiv_eq_ediv_of_nonneg _ (by omega)]
 by_cases hx:0<=x
 ·have:=Int.ediv_nonneg hx (by omega:(0:Int)<=2 ^ m)
  have:=Int.ediv_le_self (2 ^ m) hx
  omega
 ·have h2:x / 2 ^ m < 0:=Int.ediv_neg_of_neg_of_pos (by omega) hp
  have h3:x<=x / 2 ^ m:=by
   refine Int.le_ediv_of_mul_le hp ?_
   obtain⟨d,hd⟩:=Int.eq_ofNat_of_zero_le (by omega:0<=(2:Int) ^ m - 1)
   have e:(2:Int) ^ m=1+d:=by omega
   rw[e,Int.mul_add,Int.mul_one]
   have:=Int.mul_nonpos_of_nonpos_of_nonneg (by omega:x<=0) (by omega:(0:Int)<=d)
   omega
  omega
omit h hi ht hlit in
theorem ZaI (k:IntKind) (n:Int) (hc:∀q∈(ZaJ k n).2,q=true):RelP w S (.int k (k.wrap n)) (ZaJ k n).1:=by
 have gen:RelP w S (.int k (k.wrap n)) (.int k (k.wrap n)):= .int k _ (Za9 k n).1 (Za9 k n).2
 cases k<;>first
  |exact gen
  |(have hc:=Zkn.1 (hc (Zls n) (by simp[ZaJ]));rw[Zmi _ n hc.1 hc.2];exact .int _ n hc.1 hc.2)
omit h hi ht hlit in
theorem Zkm {op:BinOp} {k:IntKind} {x y:Int} {z:P} {c:List Bool} (hx:k.min<=x/\x<=k.max) (hz:ZmN op k x y=some (z,c))
  (hc:∀q∈c,q=true) (P:Program) (t:TypeId) (w:World):
  ∃v,(Go.binOp op t (.int k x) (.int k y)).run P w= .ok v w/\RelP w S v z:=by
 have rb:∀b:Bool,RelP w S (.bool b) (.bool b):=fun b=> .bool b
 have bits:∀n,ZfZ op k x y=some n->z= .int k n->(op= .and\/op= .or\/op= .xor\/op= .andNot)->∃v,(Go.binOp op t (.int k x) (.int k y)).run P w= .ok v w/\RelP w S v z:=by
  intro n hn hz hop
  subst hz
  refine⟨.int k n, ?_,.int k n (ZdB hn).1 (ZdB hn).2⟩
  rcases hop with rfl |rfl |rfl |rfl<;>simp[ZfZ]at hn<;>subst hn<;>simp[Go.binOp,Op.intBits]
 cases op<;>simp only[ZmN,Option.some.injEq,Prod.mk.injEq]at hz
 case add=>obtain⟨rfl,rfl⟩:=Prod.mk.injEq .. ▸hz;exact⟨_,by simp[Go.binOp,Op.intArith],ZaI k _ hc⟩
 case sub=>obtain⟨rfl,rfl⟩:=Prod.mk.injEq .. ▸hz;exact⟨_,by simp[Go.binOp,Op.intArith],ZaI k _ hc⟩
 case mul=>obtain⟨rfl,rfl⟩:=Prod.mk.injEq .. ▸hz;exact⟨_,by simp[Go.binOp,Op.intArith],ZaI k _ hc⟩
 case quo=>
  obtain⟨rfl,rfl⟩:=hz
  have h0:¬y=0:=of_decide_eq_true (hc (decide (y≠0)) (by simp))
  exact⟨_,by simp[Go.binOp,Op.intDiv,h0],ZaI k _ fun q hq=>hc q (by simp[hq])⟩
 case rem=>
  obtain⟨rfl,rfl⟩:=hz
  have h0:¬y=0:=of_decide_eq_true (hc (decide (y≠0)) (by simp))
  exact⟨_,by simp[Go.binOp,Op.intDiv,h0],.int _ _ (ZeP _ _ _ hx.1 hx.2).1 (ZeP _ _ _ hx.1 hx.2).2⟩
 case shl=>simp[ZfZ]at hz
 case shr=>simp[ZfZ]at hz
 case eql=>obtain⟨rfl,rfl⟩:=hz;exact⟨_,by simp[Go.binOp,Op.intCmp],rb _⟩
 case neq=>obtain⟨rfl,rfl⟩:=hz;exact⟨_,by simp[Go.binOp,Op.intCmp],rb _⟩
 case lss=>obtain⟨rfl,rfl⟩:=hz;exact⟨_,by simp[Go.binOp,Op.intCmp],rb _⟩
 case leq=>obtain⟨rfl,rfl⟩:=hz;exact⟨_,by simp[Go.binOp,Op.intCmp],rb _⟩
 case gtr=>obtain⟨rfl,rfl⟩:=hz;exact⟨_,by simp[Go.binOp,Op.intCmp],rb _⟩
 case geq=>obtain⟨rfl,rfl⟩:=hz;exact⟨_,by simp[Go.binOp,Op.intCmp],rb _⟩
 all_goals
  split at hz
  rotate_left
  simp at hz
  rename_i n hn
  simp only[Option.some.injEq,Prod.mk.injEq]at hz
  exact bits n hn hz.1.symm (by simp)
omit h hi ht hlit in
theorem ZdL {op:BinOp} {k k':IntKind} {x y:Int} {z:P} {c:List Bool} (hx:k.min<=x/\x<=k.max) (hz:Zhg op k x y=some (z,c)) (hop:op= .shl\/op= .shr)
  (hc:∀q∈c,q=true) (P:Program) (t:TypeId) (w:World):
  ∃v,(Go.binOp op t (.int k x) (.int k' y)).run P w= .ok v w/\RelP w S v z:=by
 rcases hop with rfl |rfl<;>simp only[Zhg,Option.some.injEq,Prod.mk.injEq]at hz<;>obtain⟨rfl,rfl⟩:=hz
 ·have h0:¬y < 0:=by have:=of_decide_eq_true (hc (decide (0<=y)) (by simp));omega
  exact⟨_,by simp[Go.binOp,Op.shift,h0],.int k _ (Za9 k _).1 (Za9 k _).2⟩
 ·have h0:¬y < 0:=by have:=of_decide_eq_true (hc (decide (0<=y)) (by simp));omega
  exact⟨_,by simp[Go.binOp,Op.shift,h0],.int k _ (Ze9 k x _ hx.1 hx.2).1 (Ze9 k x _ hx.1 hx.2).2⟩
omit h hi ht hlit in
theorem ZjM {op:BinOp} {x y:List UInt8} {z:P} {c:List Bool} (hz:Zmm op x y=some (z,c)) (hc:∀q∈c,q=true) (P:Program) (t:TypeId) (w:World):
  ∃v,(Go.binOp op t (.string ⟨x.toArray⟩) (.string ⟨y.toArray⟩)).run P w= .ok v w/\RelP w S v z:=by
 have rb:∀b:Bool,RelP w S (.bool b) (.bool b):=fun b=> .bool b
 cases op<;>simp only[Zmm,Option.some.injEq,Prod.mk.injEq,reduceCtorEq]at hz<;>obtain⟨rfl,rfl⟩:=hz
 case add=>
  have h0:=of_decide_eq_true (hc _ (by simp;rfl))
  refine⟨.string ⟨(x++y).toArray⟩, ?_,.str _ (by simpa using h0)⟩
  have e:(ByteArray.mk x.toArray++ByteArray.mk y.toArray)=ByteArray.mk (x++y).toArray:=by
   apply ByteArray.ext;simp
  have hs:¬(((ByteArray.mk x.toArray).size+(ByteArray.mk y.toArray).size:Nat):Int) > IntKind.i64.max:=by
   have:(ByteArray.mk x.toArray).size=x.length:=by simp[ByteArray.size]
   have:(ByteArray.mk y.toArray).size=y.length:=by simp[ByteArray.size]
   have:IntKind.i64.max=9223372036854775807:=by decide
   unfold Zr at h0
   omega
  simp only[Go.binOp,Op.stringOp,hs,if_false,e]
  rfl
 all_goals exact⟨_,by simp[Go.binOp,Op.stringOp],rb _⟩
omit h hi ht hlit in
theorem Zc5 {op:BinOp} {t:TypeId} {x y:Operand} {u v:Value} (P:Program) (w:World) (hu:(∀cs,u≠ .agg cs)/\u≠ .nilIface):(eqGuard op t x y u v).run P w= .ok () w:=by
 unfold eqGuard
 cases op<;>(try rfl)<;>cases u<;>first |rfl |(simp at hu;done)
theorem Zbo {b:BinOp} {t m:TypeId} {x y:Operand} (l:o.op= .binOp b t x y m) {u v:P} (n:ev C.E st.slots 0 x= .p u) (k:ev C.E st.slots 0 y= .p v)
  (c:e.new=[]/\e.wr=[]/\e.frz=[]) {z:P} (s:e.val= .p z)
  (f:∀p q,RelP w S p u->RelP w S q v->∃r,(Go.binOp b t p q).run C.E.prog w= .ok r w/\RelP w S r z/\((∀cs,p≠ .agg cs)/\p≠ .nilIface)):Zv C X st a w i o e:=by
 rw[l]at hlit;simp[Op.operands]at hlit;have g:=Zm h 0 hlit.1;have j:=Zm h 0 hlit.2;rw[n]at g;rw[k]at j;obtain⟨r,B,d,A⟩:=f _ _ g.of_p j.of_p;refine Zv.quiet h hi ht (v:=r) ?_ c.1 c.2.1 c.2.2 (s▸ .p _ _ d);grind[execOp,Sem.run_bind,Result.andThen_ok,Sem.run_pure,Zc5]
omit h hi ht hlit in
theorem Zl.und {E:Env} (hE:Zl E) {t:Nat} {td:TD} (h:E.td t=some td):∃d,E.prog.underlying t=some d/\Zat d td=true:=by
 unfold Env.td at h
 split at h
 rotate_left
 simp at h
 rename_i ti hti
 simp only[Option.some.injEq]at h
 obtain⟨i,d,z,hi⟩:=hE.is hti
 exact⟨d,hi.und,h▸hi.td⟩
omit h hi ht hlit in
theorem ZfR {P:Program} (w:World) (t e:TypeId) (p:Option Addr) (hu:P.underlying t=some (.pointer e)):(Op.equal t (.pointer p) (.pointer none)).run P w= .ok p.isNone w:=by
 have key:∀d,(Op.equalIn (d+1) t (.pointer p) (.pointer none)).run P w= .ok p.isNone w:=by intro d;cases p<;>simp[Op.equalIn,Za hu]
 exact key 9999
omit h hi ht hlit in
theorem Zeh {P:Program} (w:World) (t e:TypeId) (p:Option Addr) (n c:Nat) (hu:P.underlying t=some (.slice e)):(Op.equal t (.slice p n c) (.slice none 0 0)).run P w= .ok p.isNone w:=by
 have key:∀d,(Op.equalIn (d+1) t (.slice p n c) (.slice none 0 0)).run P w= .ok p.isNone w:=by intro d;cases p<;>simp[Op.equalIn,Za hu]
 exact key 9999
omit h hi ht hlit in
theorem ZeG {P:Program} (w:World) (t:TypeId) (ps rs:Array TypeId) (vr:Bool) (f:Fn) (g k:Array Value) (hu:P.underlying t=some (.func ps rs vr)):(Op.equal t (.func f g k) .nilFunc).run P w= .ok false w:=by
 have key:∀d,(Op.equalIn (d+1) t (.func f g k) .nilFunc).run P w= .ok false w:=by intro d;simp[Op.equalIn,Za hu]
 exact key 9999
omit h hi ht hlit in
theorem ZeF {P:Program} (w:World) (t:TypeId) (ps rs:Array TypeId) (vr:Bool) (hu:P.underlying t=some (.func ps rs vr)):(Op.equal t .nilFunc .nilFunc).run P w= .ok true w:=by
 have key:∀d,(Op.equalIn (d+1) t .nilFunc .nilFunc).run P w= .ok true w:=by intro d;simp[Op.equalIn,Za hu]
 exact key 9999
omit h hi ht hlit in
theorem ZeY {E:Env} (hE:Zl E) {t:TypeId} {td:TD} (htd:E.td t=some td) {y:Operand} {dx d:D} {v:Value} (hv:RelD w S ρ v dx) (hd:Zdi td y dx=some d) (w:World):
  ∃r:Bool,(Go.binOp .eql t v (a.eval y)).run E.prog w= .ok (.bool r) w/\(Go.binOp .neq t v (a.eval y)).run E.prog w= .ok (.bool !r) w/\
   (d= .p (.bool r)\/d= .anyb)/\((∀cs,v≠ .agg cs)/\v≠ .nilIface):=by
 obtain⟨ds,hu,hk⟩:=hE.und htd
 have eqp:∀e p,E.prog.underlying t=some (.pointer e)->(Op.equal t (.pointer p) (.pointer none)).run E.prog w= .ok p.isNone w:=fun e p hu=>ZfR w t e p hu
 have eqs:∀e p n c,E.prog.underlying t=some (.slice e)->(Op.equal t (.slice p n c) (.slice none 0 0)).run E.prog w= .ok p.isNone w:=fun e p n c hu=>Zeh w t e p n c hu
 have eqf:∀f g h ps rs vr,E.prog.underlying t=some (.func ps rs vr)->(Op.equal t (.func f g h) .nilFunc).run E.prog w= .ok false w:=fun f g h ps rs vr hu=>ZeG w t ps rs vr f g h hu
 have eqn:∀ps rs vr,E.prog.underlying t=some (.func ps rs vr)->(Op.equal t .nilFunc .nilFunc).run E.prog w= .ok true w:=fun ps rs vr hu=>ZeF w t ps rs vr hu
 unfold Zdi at hd
 split at hd
 ·
  have hy:a.eval (.const (.pointer none))= .pointer none:=rfl
  cases ds<;>simp[Zat]at hk
  rename_i e
  split at hd<;>simp only[Option.some.injEq,reduceCtorEq]at hd<;>subst hd
  ·cases hv with |p _ _ hv=>cases hv;exact⟨true,by simp[Go.binOp,hy,eqp e none hu],by simp[Go.binOp,hy,eqp e none hu],.inl rfl,by simp,by simp⟩
  ·cases hv with |p _ _ hv=>cases hv;exact⟨false,by simp[Go.binOp,hy,eqp e (some _) hu],by simp[Go.binOp,hy,eqp e (some _) hu],.inl rfl,by simp,by simp⟩
  ·cases hv;exact⟨false,by simp[Go.binOp,hy,eqp e (some _) hu],by simp[Go.binOp,hy,eqp e (some _) hu],.inl rfl,by simp,by simp⟩
 ·
  have hy:a.eval (.const .nilFunc)= .nilFunc:=rfl
  cases ds<;>simp[Zat]at hk
  rename_i ps rs vr
  split at hd<;>simp only[Option.some.injEq,reduceCtorEq]at hd<;>subst hd
  ·cases hv with |p _ _ hv=>cases hv;exact⟨true,by simp[Go.binOp,hy,eqn ps rs vr hu],by simp[Go.binOp,hy,eqn ps rs vr hu],.inl rfl,by simp,by simp⟩
  ·cases hv with |p _ _ hv=>cases hv;exact⟨false,by simp[Go.binOp,hy,eqf _ _ _ ps rs vr hu],by simp[Go.binOp,hy,eqf _ _ _ ps rs vr hu],.inl rfl,by simp,by simp⟩
  ·cases hv;exact⟨false,by simp[Go.binOp,hy,eqf _ _ _ ps rs vr hu],by simp[Go.binOp,hy,eqf _ _ _ ps rs vr hu],.inl rfl,by simp,by simp⟩
 ·
  have hy:a.eval (.const (.slice none 0 0))= .slice none 0 0:=rfl
  cases ds<;>simp[Zat]at hk
  rename_i e
  split at hd<;>simp only[Option.some.injEq,reduceCtorEq]at hd<;>subst hd
  ·cases hv;exact⟨true,by simp[Go.binOp,hy,eqs e none 0 0 hu],by simp[Go.binOp,hy,eqs e none 0 0 hu],.inl rfl,by simp,by simp⟩
  ·rename_i sz es
   cases hv with
   |p _ _ hv=>
    cases hv with
    |sl p len cap _ _ evs hl hm hcc hsz hcell hrel=>
     refine⟨p.isNone,by simp[Go.binOp,hy,eqs e p len cap hu],by simp[Go.binOp,hy,eqs e p len cap hu], ?_,by simp,by simp⟩
     cases es with
     |nil=>exact .inr rfl
     |cons x xs=>
      obtain⟨b,o,hp,_⟩:=hcell 0 (by simp at hl;omega)
      subst hp;exact .inl rfl
  ·rename_i id off len
   cases hv with
   |sl _ _ _ cap p L hL hl hm' hcc ha=>
    refine⟨p.isNone,by simp[Go.binOp,hy,eqs e p len cap hu],by simp[Go.binOp,hy,eqs e p len cap hu], ?_,by simp,by simp⟩
    by_cases h0:len=0
    ·simp[h0]
    ·rcases ha with ha |⟨b,_,hp,_⟩
     ·omega
     ·subst hp;simp[h0]
 ·simp at hd
include hE in
theorem ZhF {b:BinOp} {t t':TypeId} {x y:Operand} (ho:o.op= .binOp b t x y t') (hn:Operand.isNil y=true) (hc:Zf C.E st.ep i o.op o.type st.slots st.objs=some e):Zv C X st a w i o e:=by
 rw[ho]at hc hlit
 simp[Op.operands]at hlit
 have h1:=Zm h 0 hlit.1
 simp only[Zf,hn,if_true]at hc
 split at hc
 rotate_left
 simp at hc
 rename_i td htd
 split at hc
 ·rename_i d hd
  cases hc
  obtain⟨r,hr,_,hrel,hg⟩:=ZeY (a:=a) hE htd h1 hd w
  refine Zv.quiet h hi ht (v:= .bool r) (by simp only[execOp,ho,Sem.run_bind,Zc5 C.E.prog w hg,Result.andThen_ok,hr,Sem.run_pure]) rfl rfl rfl ?_
  rcases hrel with rfl |rfl
  ·exact .p _ _ (.bool _)
  ·exact .anyb _
 ·rename_i d hd
  split at hc
  rotate_left
  simp at hc
  rename_i d' hd'
  cases hc
  obtain⟨r,_,hr,hrel,hg⟩:=ZeY (a:=a) hE htd h1 hd w
  refine Zv.quiet h hi ht (v:= .bool !r) (by simp only[execOp,ho,Sem.run_bind,Zc5 C.E.prog w hg,Result.andThen_ok,hr,Sem.run_pure]) rfl rfl rfl ?_
  rcases hrel with rfl |rfl
  ·simp only[D.notb,Option.some.injEq]at hd';subst hd';exact .p _ _ (.bool _)
  ·simp only[D.notb,Option.some.injEq]at hd';subst hd';exact .anyb _
 ·simp at hc
end
end Eng
namespace Eng
open Go
section
variable {C:Ctx} {X:Nat->Prop} {ρ:Id->Option Lay} {S:Fz} {st:St} {a:Act} {w:World} {i:Nat} {o:Oper} {e:Eff}
theorem Zbv {P:Program} (w:World) (t:TypeId) (a b:Bool) (h:P.underlying t=some .bool):(Op.equal t (.bool a) (.bool b)).run P w= .ok (a == b) w:=by
 have key:∀d,(Op.equalIn (d+1) t (.bool a) (.bool b)).run P w= .ok (a == b) w:=by intro d;simp[Op.equalIn,Za h]
 exact key 9999
def Zg5 (w:World) (S:Fz) (us:Array Value) (a:List P):Prop:=us.size=a.length/\∀(i:Nat) u x,us[i]? =some u->a[i]? =some x->RelP w S u x
def Zan (ti:TI) (us:Array Value):Value:=if ti.isAgg then .agg us else us.getD 0 undef
theorem Zbd {E:Env} (b:Zl E) {t:Nat} {ti:TI} (c:E.ty t=some ti) (us:Array Value) (a:Nat) (d:a+ti.size<=us.size) (w:World):
  (part t us a).run E.prog w= .ok (Zan ti (us.extract a (a+ti.size))) w:=by
 obtain⟨g,h,z,hi⟩:=b.is c;unfold part Zan;rw[Sem.run_bind,hi.isAgg w];cases hg:ti.isAgg with
 |true=>simp[Zao hi.info,hi.size]
 |false=>
  have e:=(hi.flat hg).2;have f:=hi.zl;have:a < us.size:=by omega
  simp_all
theorem Zkt {xs us:List P} {d:List TD}:∀{e:List TD} {f vs:List P} {c:Bool},xs.length=d.length->us.length=d.length->
  eqt (d++e) (xs++f) (us++vs)=some c->∃a b,eqt d xs us=some a/\eqt e f vs=some b/\c=(a&&b):=by
 induction d generalizing xs us with
 |nil=>
  intro e f vs c g i h;cases xs<;>simp at g;cases us<;>simp at i;exact⟨true,c,rfl,by simp_all,by simp⟩
 |cons td d k=>
  intro e f vs c g i h;cases xs with
  |nil=>simp_all
  |cons x xs=>
   cases us with
   |nil=>simp_all
   |cons u us=>
    simp only[List.cons_append,eqt]at h;split at h;rotate_left;simp at h;rename_i j;grind[eqt]
theorem ZfS:∀{a:List TD} {xs b:List P} {c:Bool},eqt a xs b=some c->xs.length=a.length/\b.length=a.length
 | [],[],[],_,_=>⟨rfl,rfl⟩
 |td::r,x::xs,y::b,c,h=>by simp only[eqt]at h;split at h;rotate_left;simp at h;split at h;rotate_left;simp at h;rename_i d;have:=ZfS d;simp_all
 | [],[],_::_,_,h=>by grind[eqt]
 | [],_::_,_,_,h=>by grind[eqt]
 |_::_,[],_,_,h=>by grind[eqt]
 |_::_,_::_,[],_,h=>by grind[eqt]
theorem ZbA {E:Env} {f:Nat->Option (List TD)} {e:Nat}:∀{fs:List (Nat×Nat)} {c:Nat} {d:List TD},ZaW E f e c fs=some d->c+d.length=e
 | [],c,d,h=>by grind[ZaW]
 |(o,t)::r,c,d,h=>by simp only[ZaW]at h;split at h;rotate_left;simp at h;split at h;rotate_left;simp at h;rename_i a ti j g;split at h;rotate_left;simp at h;rename_i k;split at h;rotate_left;simp at h;rename_i b i;cases h;have:=ZbA i;grind
theorem Zcs {us:Array Value} {a:List P} (h:Zg5 w S us a) (o n:Nat):Zg5 w S (us.extract o (o+n)) ((a.drop o).take n):=by obtain⟨c,d⟩:=h;refine⟨by grind,fun i u x b e=> ?_⟩;grind
theorem Zdk {E:Env} (hE:Zl E) (w:World) (S:Fz) {n size d:Nat}
  (ih:∀(t:Nat) (ti:TI) tds,Zbf E n t=some tds->E.ty t=some ti->∀(us vs:Array Value) (as bs:List P) (c:Bool),Zg5 w S us as->Zg5 w S vs bs->eqt tds as bs=some c->
   (Op.equalIn d t (Zan ti us) (Zan ti vs)).run E.prog w= .ok c w):
  ∀(fs:List Field) (off:Nat) (tds:List TD),(∀f∈fs,f.name≠ "_")->ZaW E (Zbf E n) size off (fs.map fun f=>(f.offset,f.type))=some tds->
   ∀(us vs:Array Value) (as bs:List P) (c:Bool),us.size=size->vs.size=size->Zg5 w S us as->Zg5 w S vs bs->eqt tds (as.drop off) (bs.drop off)=some c->
   (Op.eqFields d us vs fs).run E.prog w= .ok c w
 | [],off,tds,_,hl,us,vs,as,bs,c,hu,hv,ha,hb,hc=>by simp only[Zot,ZaW]at hl;split at hl<;>simp at hl;subst hl;have:=ZfS hc;cases hd:as.drop off<;>rw[hd]at hc this<;>cases hd':bs.drop off<;>rw[hd']at hc this<;>simp[eqt]at hc this;subst hc;rfl
 |f::fs,off,tds,hn,hl,us,vs,as,bs,c,hu,hv,ha,hb,hc=>by
  simp only[Zn6,ZaW]at hl;split at hl;rotate_left;simp at hl;rename_i ho;split at hl;rotate_left;simp at hl;rename_i l ti hle hti;split at hl;rotate_left;simp at hl;rename_i hlen;split at hl;rotate_left;simp at hl;rename_i r hr;cases hl;have hlr:=ZbA hr;have ea:as.drop off=(as.drop off).take ti.size++as.drop (off+ti.size):=by rw[<-List.drop_drop,List.take_append_drop]
  have eb:bs.drop off=(bs.drop off).take ti.size++bs.drop (off+ti.size):=by rw[<-List.drop_drop,List.take_append_drop]
  rw[ea,eb]at hc;obtain⟨p,q,h1,h2,rfl⟩:=Zkt (by simp[hlen];have:=ha.1;omega) (by simp[hlen];have:=hb.1;omega) hc;have hname:=hn f (by simp);have r1:=Zbd hE hti us f.offset (by omega) w;have r2:=Zbd hE hti vs f.offset (by omega) w;have r3:=ih f.type ti l hle hti _ _ _ _ p (Zcs ha f.offset ti.size) (Zcs hb f.offset ti.size) (by grind);simp only[Op.eqFields,ne_eq,hname,not_false_eq_true,if_true,Sem.run_bind,r1,r2,r3,Result.andThen_ok];cases p with
  |false=>simp
  |true=>
   simp only[Bool.not_true,Znv,if_false,Bool.true_and];exact Zdk hE w S ih fs (off+ti.size) r (fun g hg=>hn g (by grind)) hr us vs as bs q hu hv ha hb h2
theorem ZeH {E:Env} (hE:Zl E) (w:World) (S:Fz):∀(n d:Nat),n<=d->∀(t:Nat) (ti:TI) tds,Zbf E n t=some tds->E.ty t=some ti->
  ∀(us vs:Array Value) (as bs:List P) (c:Bool),Zg5 w S us as->Zg5 w S vs bs->eqt tds as bs=some c->(Op.equalIn d t (Zan ti us) (Zan ti vs)).run E.prog w= .ok c w:=by
 intro n
 induction n with
 |zero=>grind[Zbf]
 |succ n ih=>
  intro d hd t ti tds hf ht us vs as bs c hu hv hc;obtain⟨d,rfl⟩:∃d',d=d'+1:=⟨d - 1,by omega⟩;obtain⟨ii,ds,z,hi⟩:=hE.is ht;simp only[Zbf,ht]at hf;have hund:=hi.und;have htd:=hi.td;have one:∀td,tds=[td]->ti.isAgg=false->∃x y u v,as=[x]/\bs=[y]/\ZZ td x=true/\ZZ td y=true/\P.eqc x y=some c/\RelP w S u x/\RelP w S v y/\Zan ti us=u/\Zan ti vs=v:=by
   rintro td rfl hg;obtain⟨l1,l2⟩:=ZfS hc
   match as,bs,l1,l2 with
   | [x],[y],_,_=>
    simp only[eqt]at hc;split at hc;rotate_left;simp at hc;rename_i hok;simp only[Znu]at hok;split at hc;rotate_left;simp at hc;rename_i p q hp hq;simp only[ZnO]at hq;simp only[ZnO]at hc;subst hq;have s1:us.size=1:=by simpa using hu.1
    have s2:vs.size=1:=by simpa using hv.1
    refine⟨x,y,us[0],vs[0],rfl,rfl,hok.1,hok.2,by simp_all,hu.2 0 _ x (by simp) rfl,hv.2 0 _ y (by simp) rfl, ?_, ?_⟩
    ·simp[Zan,hg,Znp (by omega:0 < us.size)]
    ·simp[Zan,hg,Znp (by omega:0 < vs.size)]
  split at hf
  ·rename_i hb;simp only[ZnO]at hf;rw[hb]at htd;cases ds<;>simp[Zat]at htd;obtain⟨x,y,u,v,rfl,rfl,o1,o2,hec,r1,r2,e1,e2⟩:=one _ hf.symm (by grind[TI.isAgg]);cases x<;>simp[ZZ]at o1;cases y<;>simp[ZZ]at o2;simp[P.eqc]at hec;subst hec;rw[e1,e2,r1.bool_inv,r2.bool_inv];simp[Op.equalIn,Za hund]
  ·rename_i k hb;simp only[ZnO]at hf;rw[hb]at htd;cases ds<;>simp[Zat]at htd;obtain⟨x,y,u,v,rfl,rfl,o1,o2,hec,r1,r2,e1,e2⟩:=one _ hf.symm (by grind[TI.isAgg]);cases x<;>simp[ZZ]at o1;cases y<;>simp[ZZ]at o2;simp[P.eqc,<-o1,<-o2]at hec;subst hec;rw[e1,e2,r1.int_inv.1,r2.int_inv.1];simp[Op.equalIn,Za hund,<-o1,<-o2]
  ·rename_i hb;simp only[ZnO]at hf;rw[hb]at htd;cases ds<;>simp[Zat]at htd;obtain⟨x,y,u,v,rfl,rfl,o1,o2,hec,r1,r2,e1,e2⟩:=one _ hf.symm (by grind[TI.isAgg]);cases x<;>simp[ZZ]at o1;cases y<;>simp[ZZ]at o2;simp[P.eqc]at hec;subst hec;rw[e1,e2,r1.str_inv.1,r2.str_inv.1];simp[Op.equalIn,Za hund,beq_toListBytes]
  ·rename_i fs hb;have heq:=hi.eq;rw[hb]at htd heq;cases ds<;>simp[Zat]at htd;rename_i gs;simp only[Znu,ZnU]at heq;have hag:ti.isAgg=true:=by simp[TI.isAgg,hb]
   have hfo:E.prog.fieldsOf t=gs:=by simp[Program.fieldsOf,hund]
   obtain⟨l1,l2⟩:=ZfS hc;have hlen:=ZbA hf;simp only[Zan,hag,if_true];rw[run_equalIn_struct w d t us vs (by rw[hfo];exact hund) heq.1.1,hfo];refine Zdk hE w S (ih d (by omega)) gs.toList 0 tds ?_ (by rw[htd.1];exact hf) us vs as bs c (by have:=hu.1;omega) (by have:=hv.1;omega) hu hv (by simpa using hc);grind[Zns]
  simp_all
variable (h:Rep C X ρ S st a.tmps w) (hi:¬X i) (ht:∀d,o.dst=some d->d < C.E.nt) (hlit:o.op.operands.all ZE=true) (hE:Zl C.E)
include h hi ht hlit hE
theorem Zjh {b:BinOp} {t T:TypeId} {x y:Operand} (I:o.op= .binOp b t x y T) (g:Zf C.E st.ep i o.op o.type st.slots st.objs=some e) (d:∀q∈e.cond,q=true):Zv C X st a w i o e:=by
 by_cases hn:Operand.isNil y=true
 ·grind[ZhF]
 rw[I]at g;simp only[Zf,hn,Znv,if_false]at g;split at g
 ·
  rename_i u v H F;split at g;rotate_left;simp at g;rename_i z A f;cases g;refine Zbo h hi ht hlit I H F ⟨rfl,rfl,rfl⟩ rfl fun p q s D=> ?_
  rw[s.bool_inv,D.bool_inv];obtain⟨O,N,L⟩:=hE.und A;cases O<;>simp[Zat]at L;cases b<;>simp only[ZkJ,ZnO,reduceCtorEq]at f<;>subst f
  ·exact⟨_,by simp_all[Go.binOp,Zbv],.bool _,by simp,by simp⟩
  ·exact⟨_,by simp_all[Go.binOp,Zbv],.bool _,by simp,by simp⟩
 ·
  rename_i us vs H F;split at g;rotate_left;simp at g;rename_i z f;cases g;rw[I]at hlit;simp[Op.operands]at hlit;have j:=Zm h 0 hlit.1;have l:=Zm h 0 hlit.2;rw[H]at j;rw[F]at l;generalize s:a.eval x=p at j;generalize D:a.eval y=q at l;cases j with |p _ _ j=>cases l with |p _ _ l=>cases j with |agg K _ R o1 Q=>cases l with |agg J _ P Y U=>
  unfold Zm6 at f;split at f;rotate_left;simp at f;rename_i fs E A G;have key:∀c,eqt E us vs=some c->(Op.equal t (.agg K) (.agg J)).run C.E.prog w= .ok c w/\(eqGuard b t x y (.agg K) (.agg J)).run C.E.prog w= .ok () w:=by
   intro c g;cases B:C.E.ty t with
   |none=>grind[Env.td]
   |some ti=>
    simp only[Env.td,B,ZnO]at A;obtain⟨Z,O,z,hi⟩:=hE.is B;have M:ti.isAgg=true:=by grind[TI.isAgg]
    have:=ZeH hE w S depth 10000 (by decide) t ti E G B K J us vs c ⟨R,Q⟩ ⟨P,U⟩ g;simp only[Zan,M,if_true]at this;refine⟨this,run_eqGuard_agg w b t x y K J ?_⟩;have:=hi.eq;simp_all
  split at f
  ·rename_i c g;cases f;obtain⟨k1,V⟩:=key c g;exact Zv.quiet h hi ht (v:= .bool c) (by simp_all[execOp,Go.binOp]) rfl rfl rfl (.p _ _ (.bool _))
  ·rename_i c g;cases f;obtain⟨k1,V⟩:=key c g;exact Zv.quiet h hi ht (v:= .bool !c) (by simp_all[execOp,Go.binOp]) rfl rfl rfl (.p _ _ (.bool _))
  simp_all
 ·
  rename_i u v _ _ H F;split at g;rotate_left;simp at g;rename_i z c f;cases g;refine Zbo h hi ht hlit I H F ⟨rfl,rfl,rfl⟩ rfl fun p q s D=> ?_
  unfold Zm0 at f;split at f
  ·rename_i k m W n;rw[s.int_inv.1,D.int_inv.1];split at f
   ·obtain⟨r,j,l⟩:=ZdL (S:=S) s.int_inv.2 f (.inl rfl) d C.E.prog t w;exact⟨r,j,l,by simp,by simp⟩
   ·obtain⟨r,j,l⟩:=ZdL (S:=S) s.int_inv.2 f (.inr rfl) d C.E.prog t w;exact⟨r,j,l,by simp,by simp⟩
   ·split at f;rotate_left;simp at f;rename_i L;subst L;obtain⟨r,j,l⟩:=Zkm (S:=S) s.int_inv.2 f d C.E.prog t w;exact⟨r,j,l,by simp,by simp⟩
  ·rw[s.str_inv.1,D.str_inv.1];obtain⟨r,j,l⟩:=ZjM (S:=S) f d C.E.prog t w;exact⟨r,j,l,by simp,by simp⟩
  simp_all
 simp_all
end
section
variable {C:Ctx} {X:Nat->Prop} {ρ:Id->Option Lay} {S:Fz} {st:St} {a:Act} {w:World} {i:Nat}
theorem Rep.takeOut (h:Rep C X ρ S st a.tmps w) {t:Option Nat} (hi:¬X i) (ht:∀d,t=some d->d < C.E.nt) {id:Id} {i' sz c k lo:Nat} {es cs l:List P} {L:Lay} {b:Nat} {v:Value}
  (hlk:st.objs id=some (.own sz c k es lo none)) (hilo:i' < lo) (hfz:st.fz id=false) (hes:es[i']? =some (.agg cs)) (hcs:cs[c]? =some (.sl k l)) (hL:ρ id=some L) (hb:L.blk=some b)
  (hv:w.cell? ⟨b,L.base+i'*sz+c,none⟩=some v):
  ∃ρ' S',Rep C (fun j=>X j\/j=i) ρ' S' (st.app i t {val:= .sl (st.ep,i,0) 0 l.length,new:=[(0,.arr k l false)],wr:=[(id,.own sz c k es lo (some i'))]}) (a.put t v).tmps w:=by
 obtain⟨κ,F⟩:=h.fam;have hk:Kid st.objs st.fz id i' sz c k l:=⟨es,lo,none,cs,hlk,hfz,hes,hcs,hilo,by simp⟩;obtain⟨b',v',hb',hv',hr,hro⟩:=F.kid _ _ _ _ _ _ L hk hL;rw[hb]at hb';obtain rfl:=ZnN hb';rw[hv]at hv';obtain rfl:=ZnN hv';let ρ':Id->Option Lay:=upd ρ (st.ep,i,0) (some (κ id i'));have fr:ρ (st.ep,i,0)=none:=by
  cases hc:ρ (st.ep,i,0)with
  |none=>rfl
  |some L=>have:=h.young (st.ep,i,0) (by grind);simp_all
 have hρ:∀id L,ρ id=some L->ρ' id=some L:=by
  grind[upd]
 have hbox:ρ' (st.ep,i,0)=some (κ id i'):=by grind[upd]
 have kw:ZbM S w w:= .refl S w;have ne:id≠(st.ep,i,0):=fun e=>by simp_all
 obtain⟨S',hrep⟩:=h.stepG (i:=i) (t:=t) (e:={val:= .sl (st.ep,i,0) 0 l.length,new:=[(0,.arr k l false)],wr:=[(id,.own sz c k es lo (some i'))]}) (v:=v) (w':=w) ρ' hi ht (ZnJ _) (ZQ.refl _) (fun _ _ _=>rfl)
  (fun id1 o hm=>by simp_all) hρ
  (fun id1 hn=>by
   grind[upd]) (by simp)
  (fun k1 o hm=>by simp only[ZnF,ZnP]at hm;obtain⟨rfl,rfl⟩:=hm;refine⟨κ id i',hbox,fun b1 hb1=> ?_,fun S' hS _ _=>hro.mono kw hS (ρ':=ρ') (fun _ _ h=>by grind) fun _ _=>rfl⟩;have:=F.own _ _ _ _ _ _ b1 hk hb1;grind)
  (fun k1 o1 L1 k2 o2 L2 b1 hm _ _ _ hm2 _ _ _=>by simp_all)
  (fun id1 o L1 hm _ hL1 S' hS _=>by
   simp only[ZnF,ZnP]at hm;obtain⟨rfl,rfl⟩:=hm;obtain⟨L2,hL2,hro2⟩:=h.objs id1 _ hlk (by simp);rw[hL1]at hL2;obtain rfl:=ZnN hL2;have:=hro2.mono kw hS hρ fun _ _=>rfl
   exact this)
  (fun S' hS _ d _=>by
   cases hr with
   |sl _ _ _ cap ad Lk hLk hl hm hc ha=>
    cases hLk;exact .sl _ _ _ cap ad _ hbox hl hm hc ha) kw (fun id1 o o' hm _ ho'=>by
   simp only[ZnF,ZnP]at hm;rw[hm.1,hlk]at ho';obtain rfl:=ZnN ho';rfl)
  (fun S' hS hS'=>by
   have hS0:∀b c,S' b c->S b c:=fun b c hb=>(hS' b c hb).elim (fun h=>h) fun⟨_,_,_,hm,_⟩=>by simp_all
   have rold:∀id L,ρ id≠none->ρ' id=some L->ρ id=some L:=fun id L hn hL=>by
    cases hc:ρ id with
    |none=>simp_all
    |some L0=>simp_all
   generalize he:(st.app i t {val:= .sl (st.ep,i,0) 0 l.length,new:=[(0,.arr k l false)],wr:=[(id,.own sz c k es lo (some i'))]})=st2;have hob:∀id1 o,st2.objs id1=some o->(id1=(st.ep,i,0)/\o= .arr k l false)\/(id1=id/\o= .own sz c k es lo (some i'))\/(id1≠id/\st.objs id1=some o):=by
    intro id1 o ho;rw[<-he]at ho;rcases ZK st i t _ id1 o ho with ⟨k1,rfl,hm⟩ |hm |⟨hn,ho⟩
    all_goals simp_all
   have hf2:∀id1,st2.fz id1=st.fz id1:=fun id1=>by grind[ZbK]
   have ko:∀{id1 i1 sz1 c1 k1 l1},Kid st2.objs st2.fz id1 i1 sz1 c1 k1 l1->Kid st.objs st.fz id1 i1 sz1 c1 k1 l1/\¬(id=id1/\i'=i1):=by
    rintro id1 i1 sz1 c1 k1 l1 ⟨es1,lo1,out1,cs1,ho,hf,q1,q2,q0,q3⟩;rw[hf2]at hf;rcases hob _ _ ho with ⟨_,ho⟩ |⟨rfl,ho⟩ |⟨hne,ho⟩
    ·simp_all
    ·simp only[Obj.own.injEq]at ho;obtain⟨rfl,rfl,rfl,rfl,rfl,rfl⟩:=ho;exact⟨⟨es1,_,none,cs1,hlk,hf,q1,q2,q0,by simp⟩,fun⟨_,e⟩=>q3 (by rw[e])⟩
    ·exact⟨⟨es1,lo1,out1,cs1,ho,hf,q1,q2,q0,q3⟩,fun e=>hne e.1.symm⟩
   refine⟨κ,fun id1 i1 sz1 c1 k1 l1 L1 hk1 hL1=> ?_,fun id1 i1 sz1 c1 k1 l1 b1 hk1 hb1=> ?_,fun id1 i1 sz1 c1 k1 l1 id2 i2 sz2 c2 k2 l2 b1 h1 h2 h3 h4=>F.inj _ _ _ _ _ _ _ _ _ _ _ _ b1 (ko h1).1 (ko h2).1 h3 h4⟩
   ·obtain⟨hk0,_⟩:=ko hk1;have hk2:=hk0;obtain⟨es1,lo1,out1,cs1,ho,_⟩:=hk2;obtain⟨b1,v1,q1,q2,q3,q4⟩:=F.kid _ _ _ _ _ _ L1 hk0 (rold id1 L1 (h.known id1 (by grind)) hL1);exact⟨b1,v1,q1,q2,q3.mono kw hS (fun _ _ h=>h),q4.mono kw hS (fun _ _ h=>h) fun _ _=>rfl⟩
   ·obtain⟨hk0,hne⟩:=ko hk1;obtain⟨q1,q2,q3,q4⟩:=F.own _ _ _ _ _ _ b1 hk0 hb1;refine⟨q1,q2,fun c hs=>q3 c (hS0 _ _ hs),fun id2 o2 L2 ho2 hg2 hL2 hb2=> ?_⟩;rcases hob _ _ ho2 with ⟨rfl,ho⟩ |⟨rfl,ho⟩ |⟨_,ho⟩
    ·rw[hbox]at hL2;obtain rfl:=ZnN hL2;exact hne (F.inj _ _ _ _ _ _ _ _ _ _ _ _ b1 hk hk0 hb2 hb1)
    ·grind
    ·exact q4 id2 o2 L2 ho hg2 (rold id2 L2 (h.known id2 (by grind)) hL2) hb2)
 grind
end
end Eng
namespace Eng
open Go
section
variable {C:Ctx} {X:Nat->Prop} {ρ:Id->Option Lay} {S:Fz} {st:St} {a:Act} {w:World} {i:Nat} {o:Oper} {e:Eff}
theorem Z8 (b o n:Nat):(⟨b,o,none⟩:Addr).add n=⟨b,o+n,none⟩:=by
 grind[Addr.add]
theorem Zl.struct {E:Env} (b:Zl E) {t:Nat} {ti:TI} {fs:List (Nat×Nat)} (d:E.ty t=some ti) (c:ti.d= .struct fs):
  ∃a:Array Field,E.prog.underlying t=some (.struct a)/\a.toList.map (fun f=>(f.offset,f.type))=fs:=by
 obtain⟨g,e,z,hi⟩:=b.is d;have:=hi.td;rw[c]at this;cases hds:e<;>rw[hds]at this<;>simp[Zat]at this;exact⟨_,by rw[<-hds];exact hi.und,this.1⟩
theorem Zl.slice {E:Env} (a:Zl E) {t:Nat} {ti:TI} {e:Nat} (c:E.ty t=some ti) (b:ti.d= .sl e):E.prog.underlying t=some (.slice e):=by obtain⟨f,d,z,hi⟩:=a.is c;have:=hi.td;rw[b]at this;cases hds:d<;>rw[hds]at this<;>simp[Zat]at this;subst this;rw[<-hds];exact hi.und
theorem Zl.array {E:Env} (a:Zl E) {t:Nat} {ti:TI} {m e:Nat} (c:E.ty t=some ti) (b:ti.d= .arr m e):E.prog.underlying t=some (.array m e):=by obtain⟨f,d,z,hi⟩:=a.is c;have:=hi.td;rw[b]at this;cases hds:d<;>rw[hds]at this<;>simp[Zat]at this;obtain⟨rfl,rfl⟩:=this;rw[<-hds];exact hi.und
theorem Zl.map {E:Env} (a:Zl E) {t:Nat} {ti:TI} {k e:Nat} (c:E.ty t=some ti) (b:ti.d= .map k e):E.prog.underlying t=some (.map k e):=by obtain⟨f,d,z,hi⟩:=a.is c;have:=hi.td;rw[b]at this;cases hds:d<;>rw[hds]at this<;>simp[Zat]at this;obtain⟨rfl,rfl⟩:=this;rw[<-hds];exact hi.und
theorem Zl.str {E:Env} (a:Zl E) {t:Nat} (b:E.td t=some .str):E.prog.underlying t=some .string:=by obtain⟨e,c,d⟩:=a.und b;grind[Zat]
theorem Zl.info {E:Env} (b:Zl E) {t:Nat} {ti:TI} (c:E.ty t=some ti):∃a,E.prog.info? t=some a/\a.size=ti.size/\a.bytes=ti.bytes:=by obtain⟨a,d,z,hi⟩:=b.is c;exact⟨a,hi.info,hi.size,hi.bytes⟩
variable (h:Rep C X ρ S st a.tmps w) (hi:¬X i) (ht:∀d,o.dst=some d->d < C.E.nt) (hlit:o.op.operands.all ZE=true) (hE:Zl C.E)
include h hi ht hlit
theorem Zkx {u:UnOp} {t:TypeId} {x:Operand} (ho:o.op= .unOp u t x) (hc:Zf C.E st.ep i o.op o.type st.slots st.objs=some e) (hcond:∀q∈e.cond,q=true):Zv C X st a w i o e:=by
 rw[ho]at hc hlit;simp[Op.operands]at hlit;have h1:=Zm h 0 hlit;simp only[Zf]at hc;split at hc;rotate_left;simp at hc;rename_i v hv;rw[hv]at h1;have h2:=h1.of_p;split at hc;rotate_left;simp at hc;rename_i z c hz;cases hc;unfold unop at hz;split at hz
 ·rename_i k n;obtain⟨e1,e2⟩:=h2.int_inv;split at hz
  ·obtain⟨rfl,rfl⟩:(ZaJ k (0 - n)).1=z/\(ZaJ k (0 - n)).2=c:=by simp_all
   exact Zv.quiet h hi ht (v:= .int k (k.wrap (0 - n))) (by simp_all[execOp,Op.unary,Op.intArith]) rfl rfl rfl (.p _ _ (ZaI k _ hcond))
  ·split at hz;rotate_left;simp at hz;rename_i m hm;simp only[ZnO,ZnP]at hz;obtain⟨rfl,rfl⟩:=hz;refine Zv.quiet h hi ht (v:= .int k m) ?_ rfl rfl rfl (.p _ _ (.int k m (ZdB hm).1 (ZdB hm).2));simp_all[ZfZ,execOp,Op.unary,Op.intBits]
  simp_all
 ·rename_i b;have e1:=h2.bool_inv;split at hz;rotate_left;simp at hz;simp only[ZnO,ZnP]at hz;obtain⟨rfl,rfl⟩:=hz;exact Zv.quiet h hi ht (v:= .bool !b) (by simp_all[execOp,Op.unary]) rfl rfl rfl (.p _ _ (.bool _))
 simp_all
include hE
theorem ZeK {t:TypeId} {x:Operand} {f:Nat} (R:o.op= .fieldAddr t x f) (d:Zf C.E st.ep i o.op o.type st.slots st.objs=some e):Zv C X st a w i o e:=by
 rw[R]at d hlit;simp[Op.operands]at hlit;have k:=Zm h 0 hlit;simp only[Zf]at d;split at d;rotate_left;simp at d;rename_i fs sz J ze B;split at d;rotate_left;simp at d;rename_i D K T;split at d;rotate_left;simp at d;rename_i V s;obtain⟨P,S,N⟩:=hE.struct B rfl;obtain⟨Y,A,O,_⟩:=hE.info s;have G:∃g,P[f]? =some g/\g.offset=D/\g.type=K:=by grind
 obtain⟨g,G,rfl,rfl⟩:=G;split at d
 ·simp_all
 ·rename_i I;have l:∀b o',a.eval x= .pointer (some ⟨b,o',none⟩)->(execOp a.eval o).run C.E.prog w= .ok (.value (.pointer (some ⟨b,o'+g.offset,none⟩))) w:=by simp_all[execOp,Instr.fieldAt,Instr.sureAddr,fieldPlace,Z8,Za,Zao]
  split at d
  ·rename_i cs m;cases d;rw[m]at k;generalize hp:a.eval x=p at k;cases k with |p _ _ k=>cases k with |ptr b o' _ vs v k Z=>
   refine Zv.quiet h hi ht (l b o' hp) rfl rfl rfl (.p _ _ (.ptr b (o'+g.offset) _ (fun j=>vs (g.offset+j)) (fun j c n=> ?_) (fun j c n=> ?_) (fun j c n=> ?_)))
   all_goals grind
  ·rename_i id i' j m;cases d;rw[m]at k;generalize hp:a.eval x=p at k;cases k with |ptr _ _ _ L b E q z=>
   refine Zv.quiet h hi ht (l b _ hp) rfl rfl rfl ?_;rw[ZnH];exact .ptr id i' (j+g.offset) L b E q z
  ·rename_i y id m;rw[m]at k;generalize hp:a.eval x=p at k;cases k with |rp _ _ b o' r u L F Q M E z=>
   obtain⟨q1,W,U⟩:=Q y rfl;split at d
   ·rename_i H;cases d;refine Zv.quiet h hi ht (l b o' hp) rfl rfl rfl (.p _ _ (.ptr b (o'+g.offset) [y] (fun _=>u) (fun j c n=>⟨F _, ?_⟩) (fun j c n=> ?_) (fun j c n=> ?_)))
    all_goals grind
   ·rename_i H;cases d;refine Zv.quiet h hi ht (l b o' hp) rfl rfl rfl ?_;rw[H];exact .rp none id b (o'+1) r u L F (fun _ h=>by simp at h) M E z
   simp_all
  simp_all
omit h hi ht hlit in
theorem Zcg {t:TypeId} {ti:TI} (hty:C.E.ty t=some ti) (b o':Nat) (us:List Value) (hl:us.length=ti.size) (hcell:∀(j:Nat) u,us[j]? =some u->w.cell? ⟨b,o'+j,none⟩=some u):
  (loadVar t ⟨b,o',none⟩).run C.E.prog w= .ok (Zan ti us.toArray) w:=by
 obtain⟨ii,ds,z,hi⟩:=hE.is hty
 unfold loadVar Zan
 rw[Sem.run_bind,hi.isAgg w]
 cases hg:ti.isAgg with
 |true=>
  have hlc:=run_loadCells_list (P:=C.E.prog) w ⟨b,o',none⟩ us (fun j v hj=>by rw[Z8];exact hcell j v hj)
  simp[Zao hi.info,hi.size,<-hl,hlc]
 |false=>
  have h1:=(hi.flat hg).2
  have h2:=hi.zl
  match us,hl with
  | [u],_=>
   have:=hcell 0 u rfl
   simp at this
   simp[this]
  | [],hl=>simp at hl;omega
  |_::_::_,hl=>simp at hl;omega
omit h hi ht hlit hE in
theorem Zbz {ti:TI} {cs:List P} {x:P} (hx:Zdp ti cs=some x) (hg:ti.isAgg=false->ti.size=1):
  ti.size<=cs.length/\∀us:List Value,us.length=ti.size->(∀(j:Nat) u c,us[j]? =some u->cs[j]? =some c->RelP w S u c/\Zbp u)->RelP w S (Zan ti us.toArray) x:=by
 unfold Zdp at hx
 cases hag:ti.isAgg with
 |true=>
  simp only[hag,if_true]at hx
  split at hx
  rotate_left
  simp at hx
  rename_i hle
  cases hx
  refine⟨hle,fun us hl hr=> ?_⟩
  simp only[Zan,hag,if_true]
  refine .agg _ _ (by simp;omega) (fun j u hu=> ?_) (fun j u c hu hc=> ?_)
  ·have hlt:j < ti.size:=by have:=(Array.getElem?_eq_some_iff.1 hu).1;simpa[hl]using this
   have hu':us[j]? =some u:=by simpa using hu
   exact(hr j u cs[j] hu' (by simp)).2
  ·rw[List.getElem?_take]at hc
   split at hc
   rotate_left
   simp at hc
   exact(hr j u c (by simpa using hu) hc).1
 |false=>
  simp only[hag,Bool.false_eq_true,if_false]at hx
  have h1:=hg hag
  cases cs with
  |nil=>simp at hx
  |cons c cs=>
   simp only[List.head?_cons,Option.some.injEq]at hx;subst hx
   refine⟨by simp;omega,fun us hl hr=> ?_⟩
   match us,hl with
   | [u],_=>simp only[Zan,hag];simpa using (hr 0 u c rfl rfl).1
   | [],hl=>simp at hl;omega
   |_::_::_,hl=>simp at hl;omega
omit h hi ht hlit hE in
theorem TIs.one {p:Program} {t:Nat} {ti:TI} {i:TypeInfo} {d:TypeDesc} {z:Value} (h:TIs p t ti i d z) (hg:ti.isAgg=false):ti.size=1:=by
 have:=(h.flat hg).2;have:=h.zl;omega
omit h hi ht hlit hE in
theorem Zd1 {ti:TI} {cs:List D} {x:D} (hx:ZfK ti cs=some x) (hg:ti.isAgg=false->ti.size=1):
  ti.size<=cs.length/\∀us:List Value,us.length=ti.size->(∀(j:Nat) u c,us[j]? =some u->cs[j]? =some c->RelD w S ρ u c/\Zbp u)->RelD w S ρ (Zan ti us.toArray) x:=by
 unfold ZfK at hx
 cases hag:ti.isAgg with
 |true=>
  simp only[hag,if_true]at hx
  split at hx
  rotate_left
  simp at hx
  rename_i hle
  cases hx
  refine⟨hle,fun us hl hr=> ?_⟩
  simp only[Zan,hag,if_true]
  have ho:∀(j:Nat) u,us.toArray[j]? =some u->Zbp u:=fun j u hu=>by
   have hlt:j < ti.size:=by have:=(Array.getElem?_eq_some_iff.1 hu).1;simpa[hl]using this
   have hu':us[j]? =some u:=by simpa using hu
   exact(hr j u cs[j] hu' (by simp)).2
  have hh:∀(j:Nat) u c,us.toArray[j]? =some u->(cs.take ti.size)[j]? =some c->RelD w S ρ u c:=fun j u c hu hc=>by
   rw[List.getElem?_take]at hc
   split at hc
   rotate_left
   simp at hc
   exact(hr j u c (by simpa using hu) hc).1
  unfold D.mkAgg
  split
  ·rename_i ps hps
   have he:=Zx hps
   have hl':=congrArg List.length he
   simp at hl'
   refine .p _ _ (.agg _ _ (by simp;omega) ho fun j u c hu hc=>(hh j u (.p c) hu (by rw[he];simp[hc])).of_p)
  ·exact .agg _ _ (by simp;omega) ho hh
 |false=>
  simp only[hag,Bool.false_eq_true,if_false]at hx
  have h1:=hg hag
  cases cs with
  |nil=>simp at hx
  |cons c cs=>
   simp only[List.head?_cons,Option.some.injEq]at hx;subst hx
   refine⟨by simp;omega,fun us hl hr=> ?_⟩
   match us,hl with
   | [u],_=>simp only[Zan,hag];simpa using (hr 0 u c rfl rfl).1
   | [],hl=>simp at hl;omega
   |_::_::_,hl=>simp at hl;omega
theorem ZkB {t:TypeId} {x:Operand} (ho:o.op= .load t x) (hc:Zf C.E st.ep i o.op o.type st.slots st.objs=some e) (hw:Zdu st e=true):Zv C X st a w i o e:=by
 rw[ho]at hc hlit;simp[Op.operands]at hlit;have h1:=Zm h 0 hlit;simp only[Zf]at hc;split at hc;rotate_left;simp at hc;rename_i ti hty;obtain⟨ii,ds,z,hti⟩:=hE.is hty;have run:∀b o' (us:List Value),a.eval x= .pointer (some ⟨b,o',none⟩)->us.length=ti.size->(∀(j:Nat) u,us[j]? =some u->w.cell? ⟨b,o'+j,none⟩=some u)->
   (execOp a.eval o).run C.E.prog w= .ok (.value (Zan ti us.toArray)) w:=by
  intro b o' us hv hl hcell;simp[execOp,ho,hv,Instr.loadAt,Instr.sureAddr,Zcg hE hty b o' us hl hcell]
 split at hc
 ·rename_i cs hv;split at hc;rotate_left;simp at hc;rename_i y hy;cases hc;rw[hv]at h1;generalize hp:a.eval x=p at h1;cases h1 with |p _ _ h1=>cases h1 with |ptr b o' _ vs hcell h1 hr=>
  obtain⟨hle,hrel⟩:=Zbz (w:=w) (S:=S) hy hti.one;have get:∀(j:Nat) u,((List.range ti.size).map vs)[j]? =some u->j < ti.size/\u=vs j:=by
   grind
  refine Zv.quiet h hi ht (run b o' ((List.range ti.size).map vs) hp (by simp) fun j u hu=> ?_) rfl rfl rfl (.p _ _ (hrel _ (by simp) fun j u c hu hc=> ?_))
  all_goals grind
 ·rename_i id i' j hv;rw[hv]at h1;generalize hp:a.eval x=p at h1;cases h1 with |ptr _ _ _ L b hL hil hb=>
  split at hc
  ·
   rename_i cs hlk;split at hc;rotate_left;simp at hc;rename_i hi0;subst hi0;split at hc;rotate_left;simp at hc;rename_i d hd;cases hc;obtain⟨hle,hrel⟩:=Zd1 (w:=w) (S:=S) (ρ:=ρ) hd hti.one;obtain⟨L',hL',b',hb',hsz,hln,hcs⟩:=h.objs id _ hlk (by simp);rw[hL]at hL';obtain rfl:=ZnN hL';rw[hb]at hb';obtain rfl:=ZnN hb';have get:∀k,k < ti.size->∃u,w.cell? ⟨b,L.base+0*L.sz+j+k,none⟩=some u/\Zbp u/\∀c,(cs.drop j)[k]? =some c->RelD w S ρ u c:=by intro k hk;simp at hle;obtain⟨u,hu,_,h1,hr⟩:=hcs (j+k) cs[j+k] (by simp);grind
   have gets:∀(k:Nat) u,((List.range ti.size).map fun k=>(w.cell? ⟨b,L.base+0*L.sz+j+k,none⟩).getD default)[k]? =some u->
     w.cell? ⟨b,L.base+0*L.sz+j+k,none⟩=some u/\Zbp u/\∀c,(cs.drop j)[k]? =some c->RelD w S ρ u c:=by
    intro k u hu;have hlt:k < ti.size:=by grind
    grind[List.getElem?_range]
   exact Zv.quiet h hi ht (run b _ _ hp (by simp) fun k u hu=>(gets k u hu).1) rfl rfl rfl (hrel _ (by simp) fun k u c hu hc=>⟨(gets k u hu).2.2 c hc,(gets k u hu).2.1⟩)
  ·
   rename_i sz es fix hlk;split at hc;rotate_left;simp at hc;rename_i y hy;cases hc;obtain⟨L',hL',hsz,hel,hlc,hlm,hbn,hcells,evs,hev,hcell,hrel⟩:=h.objs id _ hlk (by simp);rw[hL]at hL';obtain rfl:=ZnN hL';obtain⟨hle,hre⟩:=Zbz (w:=w) (S:=S) hy hti.one;have hie:i' < es.length:=by omega
   have hge:es.getD i' default=es[i']:=by grind
   rw[hge]at hle hre;have hri:=hrel i' es[i'] (by grind);have get:∀(k:Nat) u,(((evs i').cells.toList.drop j).take ti.size)[k]? =some u->k < ti.size/\(evs i').cells[j+k]? =some u:=by grind
   have hcl:=hri.size;refine Zv.quiet h hi ht (run b _ (((evs i').cells.toList.drop j).take ti.size) hp (by simp_all) fun k u hu=> ?_) rfl rfl rfl (.p _ _ (hre _ (by simp_all) fun k u c hu hc=> ?_))
   ·grind
   ·rw[Znz]at hc;exact hri.cell (get k u hu).2 hc
  ·
   rename_i sz c k es lo out hlk;split at hc;rotate_left;simp at hc;rename_i cs hes;split at hc
   ·
    rename_i hlo;split at hc;rotate_left;simp at hc;rename_i y hy;cases hc;obtain⟨L',hL',hsz,hel,hlc,hlm,hcz,hbn,hcells,hrel⟩:=h.objs id _ hlk (by simp);rw[hL]at hL';obtain rfl:=ZnN hL';subst hsz;obtain⟨hle,hre⟩:=Zbz (w:=w) (S:=S) hy hti.one;obtain⟨cs0,l0,q1,q2,q3,q4⟩:=hrel i' _ hes;simp only[P.agg.injEq]at q1;subst q1;simp at hle;have hmul:(i'+1)*L.sz<=L.cap*L.sz:=ZnK _ (by omega);rw[ZnI,Zoj]at hmul;have get:∀m,m < ti.size->∃u,w.cell? ⟨b,L.base+i'*L.sz+j+m,none⟩=some u/\Zbp u/\∀x,(cs.drop j)[m]? =some x->RelP w S u x:=by
     intro m hm;obtain⟨⟨u,hu⟩,_⟩:=hcells b hb (i'*L.sz+(j+m)) (by omega);rw[<-ZnH]at hu;have hx:cs[j+m]? =some (cs[j+m]'(by omega)):=by simp
     have r:=q4 b hb (j+m) _ u hx hu;refine⟨u,by rw[<-hu];congr 2;omega,r.1,fun x hx'=> ?_⟩;rw[Znz,hx]at hx';obtain rfl:=ZnN hx';exact r.2 (.inr hlo)
    have gets:∀(m:Nat) u,((List.range ti.size).map fun m=>(w.cell? ⟨b,L.base+i'*L.sz+j+m,none⟩).getD default)[m]? =some u->
      w.cell? ⟨b,L.base+i'*L.sz+j+m,none⟩=some u/\Zbp u/\∀x,(cs.drop j)[m]? =some x->RelP w S u x:=by
     intro m u hu;have hlt:m < ti.size:=by have:=(ZnA.1 hu).1;simpa using this
     obtain⟨u',hu',h1,h2⟩:=get m hlt;simp only[ZnB,List.getElem?_range hlt,Zow,hu',ZnL,ZnO]at hu;subst hu;exact⟨hu',h1,h2⟩
    exact Zv.quiet h hi ht (run b _ _ hp (by simp) fun m u hu=>(gets m u hu).1) rfl rfl rfl (.p _ _ (hre _ (by simp) fun m u x hu hx=>⟨(gets m u hu).2.2 x hx,(gets m u hu).2.1⟩))
   rename_i hlo;split at hc;rotate_left;simp at hc;rename_i k' l hcs;split at hc;rotate_left;simp at hc;rename_i hcnd;obtain⟨rfl,rfl,hs1,hag⟩:=hcnd;cases hc;have hfz:st.fz id=false:=by simpa[Zdu]using hw
   obtain⟨L',hL',hsz,hel,hlc,hlm,hcz,hbn,hcells,hrel⟩:=h.objs id _ hlk (by simp);rw[hL]at hL';obtain rfl:=ZnN hL';subst hsz;have hmul:(i'+1)*L.sz<=L.cap*L.sz:=ZnK _ (by omega);rw[ZnI,Zoj]at hmul;obtain⟨⟨v,hv'⟩,_⟩:=hcells b hb (i'*L.sz+j) (by omega);rw[<-ZnH]at hv';obtain⟨ρ',S',hrep⟩:=h.takeOut (t:=o.dst) hi ht hlk (by omega) hfz hes hcs hL hb hv';refine⟨_,v,w, ?_,.inl rfl,ρ',S',hrep⟩;have:=run b _ [v] hp (by simp[hs1]) fun m u hu=>by
    cases m with
    |zero=>simp only[Zny,ZnO]at hu;subst hu;exact hv'
    |succ m=>simp at hu
   simp_all[Zan]
  simp_all
 ·rename_i id hv;split at hc;rotate_left;simp at hc;rename_i hs;cases hc;rw[hv]at h1;generalize hp:a.eval x=p at h1;cases h1 with |rp _ _ b o' r u L hS hx hm hL hb=>
  have hr:=run b o' [.map (some r)] hp (by simp[hs.1]) fun m v hv=>by
   cases m with
   |zero=>simp only[Zny,ZnO]at hv;subst hv;exact hm
   |succ m=>simp at hv
  refine Zv.quiet h hi ht hr rfl rfl rfl ?_;simp only[Zan,hs.2];exact .map id L r hL hb
 simp_all
end
end Eng
namespace Eng
open Go
section
variable {C:Ctx} {X:Nat->Prop} {ρ:Id->Option Lay} {S:Fz} {st:St} {a:Act} {w:World} {i:Nat} {o:Oper} {e:Eff}
theorem Zba (l:List UInt8):(ByteArray.mk l.toArray).size=l.length:=by simp[ByteArray.size]
theorem ZN {E:Env} (b:Zl E) {t:Nat} {ti:TI} (d:E.ty t=some ti) (w:World):(Go.sizeOf t).run E.prog w= .ok ti.size w:=by obtain⟨e,a,c,_⟩:=b.info d;grind[Zao]
theorem ZbX {v:Value} {k:IntKind} {n:Int} (h:RelD w S ρ v (.p (.int k n))):v= .int k n/\k.min<=n/\n<=k.max:=h.of_p.int_inv
variable (h:Rep C X ρ S st a.tmps w) (hi:¬X i) (ht:∀d,o.dst=some d->d < C.E.nt) (hlit:o.op.operands.all ZE=true) (hE:Zl C.E)
include h hi ht hlit hE
theorem Zje {t:TypeId} {x:Operand} {f:Nat} (K:o.op= .field t x f) (b:Zf C.E st.ep i o.op o.type st.slots st.objs=some e):Zv C X st a w i o e:=by
 rw[K]at b hlit;simp[Op.operands]at hlit;have m:=Zm h 0 hlit;simp only[Zf]at b;split at b;rotate_left;simp at b;rename_i fs sz O R F;split at b;rotate_left;simp at b;rename_i G P T;obtain⟨L,n,M⟩:=hE.struct F rfl;have H:∃g,L[f]? =some g/\g.offset=G/\g.type=P:=by grind
 obtain⟨g,H,rfl,rfl⟩:=H;have s:∀(us:Array Value) d,C.E.ty g.type=some d->a.eval x= .agg us->g.offset+d.size<=us.size->
   (execOp a.eval o).run C.E.prog w= .ok (.value (Zan d (us.extract g.offset (g.offset+d.size)))) w:=by
  simp_all[execOp,Instr.field,asAgg,Za,Zbd]
 generalize hp:a.eval x=p at m;split at b
 ·rename_i d cs l B;split at b
  ·simp_all
  rename_i E;simp only[ZnM]at b;obtain⟨y,D,rfl⟩:=b;rw[B]at m;cases m with |p _ _ m=>cases m with |agg us _ J v I=>
  obtain⟨N,Q,z,q⟩:=hE.is l;obtain⟨r,k⟩:=Zbz (w:=w) (S:=S) D q.one;simp at r;have A:g.offset+d.size<=us.size:=by omega
  refine Zv.quiet h hi ht (s us d l hp A) rfl rfl rfl (.p _ _ ?_);have:=k (us.extract g.offset (g.offset+d.size)).toList (by simp_all) (fun j u c n b=> ?_)
  ·omega
  grind
 ·rename_i d cs l B;split at b
  ·simp at b
  rename_i E;simp only[ZnM]at b;obtain⟨y,D,rfl⟩:=b;rw[B]at m;cases m with |agg us _ J v I=>
  obtain⟨N,Q,z,q⟩:=hE.is l;obtain⟨r,k⟩:=Zd1 (w:=w) (S:=S) (ρ:=ρ) D q.one;simp at r;have A:g.offset+d.size<=us.size:=by omega
  refine Zv.quiet h hi ht (s us d l hp A) rfl rfl rfl ?_;have:=k (us.extract g.offset (g.offset+d.size)).toList (by simp;omega) (fun j u c n b=> ?_)
  ·rwa [Array.toArray_toList]at this
  ·simp only[Array.getElem?_toList,Znr]at n;split at n;rotate_left;simp at n;rw[Znz]at b;exact⟨I _ u c n b,v _ u n⟩
 simp_all
theorem ZeJ {t:TypeId} {x ix:Operand} (S:o.op= .indexAddr t x ix) (d:Zf C.E st.ep i o.op o.type st.slots st.objs=some e) (f:∀q∈e.cond,q=true):Zv C X st a w i o e:=by
 rw[S]at d hlit;simp[Op.operands]at hlit;have g:=Zm h 0 hlit.1;have h2:=Zm h 0 hlit.2;simp only[Zf]at d;split at d;rotate_left;simp at d;rename_i k n hn;rw[hn]at h2;obtain⟨T,_⟩:=ZbX h2;generalize hp:a.eval x=p at g;split at d
 ·rename_i el sz Y ze H;have B:=hE.slice H rfl;split at d;rotate_left;simp at d;rename_i te z;split at d
  ·rename_i P es A;split at d;rotate_left;simp at d;rename_i F;cases d;obtain⟨K,c1⟩:=of_decide_eq_true (f _ ZnE);rw[A]at g;cases g with |p _ _ g=>cases g with |sl p len cap _ _ evs hl hm R ab r I=>
   obtain⟨m,rfl⟩:=Znw K;have u:m < len:=by omega
   have af:m < es.length:=by omega
   obtain⟨b,o',rfl,ac⟩:=r m u;have aa:es.getD m default=es[m]:=by grind
   refine Zv.quiet h hi ht (v:= .pointer (some ⟨b,o'+m*te.size,none⟩)) ?_ rfl rfl rfl ?_
   ·simp[execOp,S,hp,T,Instr.indexAt,asIntOf,Za B,u,ZN hE z,Z8]
   ·simp only[Znx,aa];have E:=I m es[m] (by grind);have ae:=E.size;refine .p _ _ (.ptr b _ _ (fun j=>(evs m).cells.getD j undef) (fun j c s=> ?_) (fun j c s=> ?_) (fun j c s=> ?_))
    all_goals
     have U:j < (evs m).cells.size:=by grind
     have B:(evs m).cells[j]? =some (evs m).cells[j]:=by grind
     have N:(evs m).cells.getD j undef=(evs m).cells[j]:=by simp[Znp U]
    ·simp_all
    ·rw[N];exact(E.cell B s).2
    ·rw[N];exact(E.cell B s).1
  ·rename_i id l len A;split at d
   ·rename_i P es fix G;split at d;rotate_left;simp at d;rename_i F;cases d;obtain⟨K,c1⟩:=of_decide_eq_true (f _ ZnE);rw[A]at g;cases g with |sl _ _ _ cap p L J hl W R Q=>
    obtain⟨m,rfl⟩:=Znw K;have u:m < len:=by omega
    obtain⟨L',y,D,_⟩:=h.objs id _ G (by simp);rw[J]at y;obtain rfl:=ZnN y;rcases Q with Q |⟨b,O,rfl,_⟩
    ·omega
    ·refine Zv.quiet h hi ht (v:= .pointer (some ⟨b,L.base+l*L.sz+m*te.size,none⟩)) ?_ rfl rfl rfl ?_
     ·simp[execOp,S,hp,T,Instr.indexAt,asIntOf,Za B,u,ZN hE z,Z8]
     ·have:L.base+l*L.sz+m*te.size=L.base+(l+m)*L.sz+0:=by grind
      simp only[Znx,this];exact .ptr id (l+m) 0 L b J (by omega) O
   ·rename_i P _ _ _ _ _ G;split at d;rotate_left;simp at d;rename_i F;cases d;obtain⟨K,c1⟩:=of_decide_eq_true (f _ ZnE);rw[A]at g;cases g with |sl _ _ _ cap p L J hl W R Q=>
    obtain⟨m,rfl⟩:=Znw K;have u:m < len:=by omega
    obtain⟨L',y,D,_⟩:=h.objs id _ G (by simp);rw[J]at y;obtain rfl:=ZnN y;rcases Q with Q |⟨b,O,rfl,_⟩
    ·omega
    ·refine Zv.quiet h hi ht (v:= .pointer (some ⟨b,L.base+l*L.sz+m*te.size,none⟩)) ?_ rfl rfl rfl ?_
     ·simp[execOp,S,hp,T,Instr.indexAt,asIntOf,Za B,u,ZN hE z,Z8]
     ·have:L.base+l*L.sz+m*te.size=L.base+(l+m)*L.sz+0:=by rw[ZnI,D,F];omega
      simp only[Znx,this];exact .ptr id (l+m) 0 L b J (by omega) O
   simp_all
  simp_all
 ·rename_i m el sz Y ze H;have B:=hE.array H rfl;split at d;rotate_left;simp at d;rename_i te z;have M:∀b o',p= .pointer (some ⟨b,o',none⟩)->0<=n/\n < m->(execOp a.eval o).run C.E.prog w= .ok (.value (.pointer (some ⟨b,o'+n.toNat*te.size,none⟩))) w:=by intro b o' A I;subst A;simp[execOp,S,hp,T,Instr.indexAt,asIntOf,Za B,Instr.sureAddr,I,ZN hE z,Z8]
  split at d
  ·rename_i cs A;cases d;have I:=of_decide_eq_true (f _ ZnE);rw[A]at g;cases g with |p _ _ g=>cases g with |ptr b o' _ vs r g Z=>
   refine Zv.quiet h hi ht (M b o' rfl I) rfl rfl rfl (.p _ _ (.ptr b _ _ (fun j=>vs (n.toNat*te.size+j)) (fun j c s=> ?_) (fun j c s=> ?_) (fun j c s=> ?_)))
   ·rw[Znz]at s;rw[ZnH];exact r _ c s
   ·rw[Znz]at s;exact g _ c s
   ·rw[Znz]at s;exact Z _ c s
  ·rename_i id i' j A;cases d;have I:=of_decide_eq_true (f _ ZnE);rw[A]at g;cases g with |ptr _ _ _ L b J V O=>
   refine Zv.quiet h hi ht (M b _ rfl I) rfl rfl rfl ?_;rw[ZnH];exact .ptr id i' _ L b J V O
  ·simp at d
 simp_all
theorem Zjd {t:TypeId} {x l:Operand} (B:o.op= .index t x l) (b:Zf C.E st.ep i o.op o.type st.slots st.objs=some e) (c:∀q∈e.cond,q=true):Zv C X st a w i o e:=by
 rw[B]at b hlit;simp[Op.operands]at hlit;have g:=Zm h 0 hlit.1;have j:=Zm h 0 hlit.2;simp only[Zf]at b;split at b;rotate_left;simp at b;rename_i k n A;rw[A]at j;obtain⟨D,_⟩:=ZbX j;generalize hp:a.eval x=p at g;split at b;rotate_left;simp at b;rename_i s r;split at b;rotate_left;simp at b;rename_i f;cases b;obtain⟨y,E⟩:=of_decide_eq_true (c _ ZnE);rw[r]at g;obtain⟨rfl,_⟩:=g.of_p.str_inv;obtain⟨m,rfl⟩:=Znw y;have d:m < s.length:=by omega
 have F:=hE.str f;refine Zv.quiet h hi ht (v:= .int .u8 (s[m]).toNat) ?_ rfl rfl rfl ?_
 ·have:(ByteArray.mk s.toArray)[m]? =some s[m]:=by
   have z:m < (ByteArray.mk s.toArray).size:=by grind[Zba]
   rw[getElem?_pos _ m z];congr 1
  simp_all[execOp,Instr.index,asIntOf,Za]
 ·have u:=(s[m]).toNat_lt;simp only[Znx,List.getD_eq_getElem?_getD,List.getElem?_eq_getElem d,ZnL];exact .p _ _ (.int _ _ (by grind[IntKind.min]) (by grind[IntKind.max,IntKind.signed,IntKind.bits]))
end
end Eng
namespace Eng
open Go
section
variable {C:Ctx} {X:Nat->Prop} {ρ:Id->Option Lay} {S:Fz} {st:St} {a:Act} {w:World} {i:Nat} {o:Oper} {e:Eff}
def Zme:Option Value->Option Int->Prop
 |none,none=>True
 |some v,some n=>∃k,v= .int k n
 |_,_=>False
theorem Zme.cases {v:Option Value} {A:Option Int} (h:Zme v A):(v=none/\A=none)\/∃k n,v=some (.int k n)/\A=some n:=by
 unfold Zme at h;grind
theorem ZkI {P:Program} (k:IntKind) (n:Int) (y:Nat) (a:BoundsCode) (h:0<=n/\n<=y) (w:World):(Instr.sliceBound (.int k n) y a).run P w= .ok n.toNat w:=by simp[Instr.sliceBound,asIntOf,h]
theorem Zff {P:Program} (i:Bool) (len cap:Nat) {d e c:Option Value} {A B M:Option Int} (l:Zme d A) (f:Zme e B) (j:Zme c M)
  (x:M.isSome->B.isSome) (o:0<=A.getD 0) (u:A.getD 0<=B.getD len) (v:B.getD len<=M.getD cap) (h:M.getD cap<=cap) (t:len<=cap) (w:World):
  (Instr.sliceBounds i len cap d e c).run P w= .ok ((A.getD 0).toNat,(B.getD len).toNat,(M.getD cap).toNat) w:=by
 have F:∀(k:IntKind) (n:Int) (y:Nat) (a:BoundsCode),0<=n->n<=y->(Instr.sliceBound (.int k n) y a).run P w= .ok n.toNat w:=fun k n y a q r=>ZkI k n y a ⟨q,r⟩ w
 rcases l.cases with ⟨rfl,rfl⟩ |⟨s,n,rfl,rfl⟩<;>rcases f.cases with ⟨rfl,rfl⟩ |⟨g,b,rfl,rfl⟩<;>rcases j.cases with ⟨rfl,rfl⟩ |⟨p,m,rfl,rfl⟩<;>simp only[Option.getD_none,ZnL]at o u v h
 ·simp[Instr.sliceBounds]
 ·simp_all
 ·simp_all[Instr.sliceBounds]
 ·simp[Instr.sliceBounds,F p m cap _ (by omega) h,F g b m.toNat _ u (by omega)]
 ·simp_all[Instr.sliceBounds]
 ·simp_all
 ·simp[Instr.sliceBounds,F g b cap _ (by omega) v,F s n b.toNat _ o (by omega)]
 ·simp[Instr.sliceBounds,F p m cap _ (by omega) h,F g b m.toNat _ (by omega) (by omega),F s n b.toNat _ o (by omega)]
theorem ZcU (h:Rep C X ρ S st a.tmps w) {lo:Option Operand} {A:Option Int} (d:∀x,lo=some x->ZE x=true) (b:Zb1 C.E st.slots lo=some A):Zme (lo.map a.eval) A:=by
 unfold Zb1 at b;split at b
 ·cases b;trivial
 ·rename_i x;split at b;rotate_left;simp at b;rename_i k n e;cases b;have c:=Zm h 0 (d x rfl);rw[e]at c;exact⟨k,c.of_p.int_inv.1⟩
variable (h:Rep C X ρ S st a.tmps w) (hi:¬X i) (ht:∀d,o.dst=some d->d < C.E.nt) (hlit:o.op.operands.all ZE=true) (hE:Zl C.E)
include h hi ht hlit hE
theorem Zjb {t:TypeId} {x:Operand} {lo aa mx:Option Operand} (ho:o.op= .slice t x lo aa mx) (d:Zf C.E st.ep i o.op o.type st.slots st.objs=some e) (c:∀q∈e.cond,q=true):Zv C X st a w i o e:=by
 rw[ho]at d hlit;have R:ZE x=true/\(∀y,lo=some y->ZE y=true)/\(∀y,aa=some y->ZE y=true)/\(∀y,mx=some y->ZE y=true):=by grind[Op.operands]
 have J:=Zm h 0 R.1;simp only[Zf]at d;split at d;rotate_left;simp at d;rename_i sz A B M av hA hB hM;have oA:=ZcU h R.2.1 hA;have oB:=ZcU h R.2.2.1 hB;have oM:=ZcU h R.2.2.2 hM;generalize hp:a.eval x=p at J;unfold ZaV at d;have H:∀D te (ad:Option Addr) (len cap:Nat),C.E.td t=some (.sl D)->C.E.ty D=some te->p= .slice ad len cap->(M.isSome->B.isSome)->0<=A.getD 0->A.getD 0<=B.getD len->B.getD len<=M.getD cap->M.getD cap<=cap->len<=cap->
   (execOp a.eval o).run C.E.prog w= .ok (.value (.slice (if (M.getD cap).toNat=(A.getD 0).toNat then ad else ad.map (·.add ((A.getD 0).toNat*te.size))) ((B.getD len).toNat - (A.getD 0).toNat) ((M.getD cap).toNat - (A.getD 0).toNat))) w:=by
  intro D te ad len cap g l z hx q0 q1 q2 q3 ae;obtain⟨ds,Q,hk⟩:=hE.und g;cases ds<;>simp[Zat]at hk;subst hk z;simp only[execOp,ho,hp,Instr.sliceAt,Instr.slice,Sem.run_bind,Za Q,Result.andThen_ok,Zff true len cap oA oB oM hx q0 q1 q2 q3 ae,ZN hE l,Sem.run_pure]
 have O:∀n,sz=some n->∃D te,C.E.td t=some (.sl D)/\C.E.ty D=some te/\te.size=n:=by
  grind
 split at d
 ·
  rename_i s z;split at d
  ·simp_all
  ·cases d;obtain⟨F,K,c2⟩:=of_decide_eq_true (c _ ZnE);rw[z]at J;obtain⟨rfl,ax⟩:=J.of_p.str_inv;have an:C.E.td t=some .str:=by
    grind
   have Q:=hE.str an;have am:mx=none:=by
    match mx,oM with
    |none,_=>rfl
   subst am;have Y:=Zff (P:=C.E.prog) false (ByteArray.mk s.toArray).size (ByteArray.mk s.toArray).size oA oB (show Zme none none from trivial) (by simp) F (by grind[Zba]) (by grind[Zba]) (by simp) (ZnJ _) w;refine Zv.quiet h hi ht (v:= .string ⟨((s.take (B.getD s.length).toNat).drop (A.getD 0).toNat).toArray⟩) ?_ rfl rfl rfl (.p _ _ (.str _ (by grind)));simp only[execOp,ho,hp,Instr.sliceAt,Instr.slice,Sem.run_bind,Za Q,Result.andThen_ok,Option.map_none,Option.isSome_none,Znv,if_false,Y,Sem.run_pure];grind[Lib.extract_eq,Zba,List.drop_take]
 ·
  rename_i n E es z;obtain⟨D,te,g,l,hn⟩:=O n rfl;split at d;rotate_left;simp at d;rename_i T;rw[z]at J;cases J with |p _ _ J=>cases J with |sl ad len cap _ _ evs hl hm N ac r hr=>
  have Z:∀(A' H' I:Nat) (W:Option Addr),A'<=H'->H'<=len->H' - A'<=I->(H' - A'=0\/W=ad.map (·.add (A'*te.size)))->RelP w S (.slice W (H' - A') I) (.sl E ((es.take H').drop A')):=by
   intro A' H' I W l1 l2 l3 l4;refine .sl _ _ _ _ _ (fun j=>evs (A'+j)) (by grind) (by omega) l3 (fun j hj=>ac _ (by omega)) (fun j hj=> ?_) (fun j u Q=> ?_)
   ·obtain⟨b,o',rfl,ak⟩:=r (A'+j) (by omega);rcases l4 with l4 |l4
    ·omega
    ·subst l4;refine⟨b,o'+A'*te.size,by simp[Z8],fun k v z=> ?_⟩;have:=ak k v z;rw[ZnI,<-ZnH]at this;grind
   grind
  split at d
  ·
   cases d;obtain⟨F,K,c2⟩:=of_decide_eq_true (c _ ZnE);have al:A.getD 0<=B.getD len:=by rw[<-hl];exact K
   have aq:B.getD len<=len:=by rw[<-hl];exact c2
   have f:=H D te ad len cap g l rfl (by simp) F al (by simp;omega) (by simp) N;refine Zv.quiet h hi ht f rfl rfl rfl (.p _ _ ?_);rw[hl];refine Z _ _ _ _ (by omega) (by omega) (by simp;omega) ?_;simp only[Option.getD_none,Znx];split
   ·exact .inl (by omega)
   ·exact .inr rfl
  ·
   rename_i m hh;cases d;obtain⟨F,K,c2,rfl⟩:=of_decide_eq_true (c _ ZnE);have f:=H D te ad len cap g l rfl (by simp) F K (by simp) (by simp;omega) N;refine Zv.quiet h hi ht f rfl rfl rfl ?_;simp only[ZnL];refine .clip _ _ _ _ (Z _ _ _ _ (by omega) (by omega) (by omega) ?_);split
   ·exact .inl (by omega)
   ·exact .inr rfl
  grind
 ·
  rename_i n id V len z;obtain⟨D,te,g,l,hn⟩:=O n rfl;split at d;rotate_left;simp at d;rename_i E es fix af;split at d;rotate_left;simp at d;rename_i T;rw[z]at J;cases J with |sl _ _ _ cap ad L hL hl ap N ha=>
  have U:=h.objs id _ af (by simp);obtain⟨L',U,G,as,ae,ar,aw,ai,evs,ab,r,ag⟩:=U;rw[hL]at U;obtain rfl:=ZnN U;split at d
  ·cases d;obtain⟨F,K,c2⟩:=of_decide_eq_true (c _ ZnE);have f:=H D te ad len cap g l rfl (by simp) F K (by simp;omega) (by simp) N;refine Zv.quiet h hi ht f rfl rfl rfl ?_;simp only[Option.getD_none,Znx];refine .sl id _ _ _ _ L hL (by omega) (by omega) (by omega) ?_;rcases ha with ha |⟨b,Y,rfl,ah⟩
   ·exact .inl (by omega)
   ·by_cases hq:cap=(A.getD 0).toNat
    ·exact .inl (by omega)
    ·refine .inr ⟨b,Y, ?_,by omega⟩;rw[if_neg hq];simp only[Zow,Z8,G,T,hn,ZnI];congr 2;omega
  ·rename_i m hh;cases d;obtain⟨F,K,c2,rfl⟩:=of_decide_eq_true (c _ ZnE);have f:=H D te ad len cap g l rfl (by simp) F K (by simp) (by simp;omega) N;refine Zv.frz h hi ht f rfl rfl (by simp[hL]) fun S' ao aj=> ?_
   simp only[ZnL];refine .clip _ _ _ _ ?_;refine .sl _ _ _ _ _ (fun j=>evs (V+(A.getD 0).toNat+j)) (by simp;omega) (by omega) (ZnJ _) (fun j hj=>ab _ (by omega)) (fun j hj=> ?_) (fun j u Q=> ?_)
   ·rcases ha with ha |⟨b,Y,rfl,ah⟩
    ·omega
    ·rw[if_neg (by omega)];refine⟨b,L.base+V*L.sz+(A.getD 0).toNat*te.size,by simp[Z8],fun k v z=> ?_⟩;have:=r b Y (V+(A.getD 0).toNat+j) k v (by omega) z;have au:k < E:=by have:=(Znq.1 z).1;rw[ab _ (by omega)]at this;exact this
     have hm:(V+(A.getD 0).toNat+j+1)*E<=L.len*E:=ZnK _ (by omega);refine⟨aj id (by simp) _ L b af (by simp) hL Y _ ?_, ?_⟩
     ·rw[inL_arr,G,hn,<-T];simp only[ZnI]at hm;omega
     rw[<-this,G,T,hn];congr 2;simp only[ZnI];omega
   ·rw[ZnC]at Q;split at Q;rotate_left;simp at Q;rw[Znz]at Q;exact(ag _ u Q).mono (.refl _ _) ao
  ·simp at d
 ·
  rename_i n E z;obtain⟨D,te,g,l,hn⟩:=O n rfl;split at d;rotate_left;simp at d;cases d;obtain⟨F,K⟩:=of_decide_eq_true (c _ ZnE);rw[z]at J;cases J;have cB:B.getD (0:Nat)=0:=K;have f:=H D te none 0 0 g l rfl (by simp) (by omega) (by omega) (by simp;omega) (by simp) (ZnJ _);refine Zv.quiet h hi ht f rfl rfl rfl ?_;simp[F,K];exact .nils _
 simp_all
end
end Eng
namespace Eng
open Go
section
variable {C:Ctx} {X:Nat->Prop} {ρ:Id->Option Lay} {S:Fz} {st:St} {a:Act} {w:World} {i:Nat} {o:Oper} {e:Eff}
theorem ZF {P:Program} {b:Builtin} {args:Array Operand} {c:Array TypeId} (d:o.op= .call {callee:= .builtin b,args,argTypes:=c}):
  ∃cs,(execOp a.eval o).run P w=(builtin b c o.type cs (args.map a.eval)).run P w:=by
 refine⟨args.map fun | .const _=>true |_=>false, ?_⟩;grind[execOp,resolve,invoke]
theorem Zgk {P:Program} {s:Sem Value} {r:Value} {w':World} (h:s.run P w= .ok r w'):(do pure (Next.value (<-s)):Sem Next).run P w= .ok (.value r) w':=by simp[h]
theorem ZdV {n:Nat} (h:n<=Zr):IntKind.i64.min<=(n:Int)/\(n:Int)<=IntKind.i64.max:=by
 have a:IntKind.i64.min= -9223372036854775808:=by decide
 have b:IntKind.i64.max=9223372036854775807:=by decide
 grind[Zr]
theorem Zlp {lk:Id->Option Obj} (F:Objs w S ρ lk) {v:Value} {d:D} {n:Nat} {c:List Bool} {td:TD} (g:RelD w S ρ v d) (f:Zf4 lk td d=some (n,c)) (e:∀q∈c,q=true) {E:Env} (M:Zl E) {t:Nat} (z:E.td t=some td)
  (x:Array TypeId) (h:x[0]? =some t) (ty:TypeId):(Builtin.len_ x ty #[v]).run E.prog w= .ok (.int .i64 n) w/\n<=Zr:=by
 obtain⟨i,m,a⟩:=M.und z;have I:Z9<=Zr:=by decide
 unfold Zf4 at f;split at f<;>(try simp only[ZnO,ZnP,reduceCtorEq]at f)
 ·obtain⟨rfl,rfl⟩:=f;cases i<;>simp[Zat]at a;obtain⟨rfl,rfl⟩:=a;exact⟨by simp_all[Builtin.len_,goInt,Za],of_decide_eq_true (e _ ZnE)⟩
 ·obtain⟨rfl,rfl⟩:=f;obtain⟨rfl,l⟩:=g.of_p.str_inv;cases i<;>simp[Zat]at a;simp_all[Builtin.len_,goInt,Zba,Za]
 ·obtain⟨rfl,rfl⟩:=f;cases i<;>simp[Zat]at a;cases g with |p _ _ g=>cases g with |sl ad len cap _ _ evs l P y u j K=>
  exact⟨by simp_all[Builtin.len_,goInt,Za],by omega⟩
 ·obtain⟨rfl,rfl⟩:=f;cases i<;>simp[Zat]at a;cases g with |clip ad len _ _ g=>cases g with |sl ad len cap _ _ evs l P y u j K=>
  exact⟨by simp[Builtin.len_,h,Za m,goInt,l],by omega⟩
 ·obtain⟨rfl,rfl⟩:=f;cases i<;>simp[Zat]at a;cases g;exact⟨by simp[Builtin.len_,h,Za m,goInt],by simp⟩
 ·obtain⟨rfl,rfl⟩:=f;cases i<;>simp[Zat]at a;cases g with |sl _ _ _ cap p L H l Q y V=>
  exact⟨by simp[Builtin.len_,h,Za m,goInt],by omega⟩
 ·obtain⟨rfl,rfl⟩:=f;cases i<;>simp[Zat]at a;cases g with |p _ _ g=>cases g with
  |nilmap=>exact⟨by simp[Builtin.len_,h,Za m,goInt],by simp⟩
  |map _ r es k _ A U C R l _ _ _ _ G O=>
   exact⟨by simp[Builtin.len_,h,Za m,goInt,getObj,Sem.run,C,l,R.length_eq],of_decide_eq_true (e _ ZnE)⟩
 ·rename_i id;split at f;rotate_left;simp at f;rename_i W B;simp only[ZnO,ZnP]at f;obtain⟨rfl,rfl⟩:=f;cases i<;>simp[Zat]at a;cases g with |map _ L b H C=>
  obtain⟨L',s,b',o,es,k,A,N,J,T,_⟩:=F id _ B (by simp);rw[H]at s;obtain rfl:=ZnN s;rw[C]at o;obtain rfl:=ZnN o;exact⟨by simp[Builtin.len_,h,Za m,goInt,getObj,Sem.run,N,T,J.length_eq],of_decide_eq_true (e _ ZnE)⟩
variable (h:Rep C X ρ S st a.tmps w) (hi:¬X i) (ht:∀d,o.dst=some d->d < C.E.nt) (hlit:o.op.operands.all ZE=true) (hE:Zl C.E)
include h hi ht hlit
theorem ZhI {x:Operand} (l:o.op= .assign x) (c:Zf C.E st.ep i o.op o.type st.slots st.objs=some e):Zv C X st a w i o e:=by
 rw[l]at c hlit;have f:=Zm h o.type (by grind[Op.operands]:ZE x=true);have b:(execOp a.eval o).run C.E.prog w= .ok (.value (a.eval x)) w:=by simp[execOp,l]
 simp only[Zf]at c;split at c
 ·
  rename_i sz m;cases c;rw[m]at f;generalize hp:a.eval x=p at f;cases f;rw[hp]at b;let L:Lay:=⟨none,0,sz,0,0⟩;have g:ρ (st.ep,i,0)=none:=by
   cases c:ρ (st.ep,i,0)with
   |none=>rfl
   |some L=>have:=h.young (st.ep,i,0) (by grind);simp_all
  refine⟨_,_,w,b,.inl rfl,upd ρ (st.ep,i,0) (some L),h.step _ hi ht (ZnJ _) (ZQ.refl _) (fun _ _ _=>rfl) (by simp) ?_ ?_ (by simp) ?_ ?_ (by simp) ?_⟩
  ·grind[upd]
  ·grind[upd]
  ·intro k o' j;simp only[ZnF,ZnP]at j;obtain⟨rfl,rfl⟩:=j;exact⟨L,by simp[upd],by grind,fun S' _ _ _=>⟨rfl,rfl,by grind,by grind,by grind,by grind,fun _=>default,by grind,by grind,by simp⟩⟩
  ·simp_all
  ·intro S' _ _ d _;exact .sl _ 0 0 0 none L (by simp[upd]) (by omega) (by simp) (by simp) (.inl rfl)
 grind[Zv.quiet]
omit hi ht hlit in
theorem Zaj:∀(xs:List Operand) (ts:List Nat),(∀x∈xs,ZE x=true)->(ZY C.E st.slots xs ts).length=xs.length/\
  ∀(j:Nat) v d,(xs.map a.eval)[j]? =some v->(ZY C.E st.slots xs ts)[j]? =some d->RelD w S ρ v d
 | [],_,_=>⟨rfl,by simp⟩
 |x::xs,[],hx=>by
  obtain⟨l,r⟩:=Zaj xs [] (fun y hy=>hx y (by simp[hy]))
  refine⟨by simp[ZY,l],fun j v d hv hd=> ?_⟩
  cases j with
  |zero=>simp[ZY]at hv hd;subst hv hd;exact Zm h _ (hx x (by simp))
  |succ j=>simp[ZY]at hv hd;exact r j v d (by simpa using hv) hd
 |x::xs,t::ts,hx=>by
  obtain⟨l,r⟩:=Zaj xs ts (fun y hy=>hx y (by simp[hy]))
  refine⟨by simp[ZY,l],fun j v d hv hd=> ?_⟩
  cases j with
  |zero=>simp[ZY]at hv hd;subst hv hd;exact Zm h _ (hx x (by simp))
  |succ j=>simp[ZY]at hv hd;exact r j v d (by simpa using hv) hd
omit h hi ht hlit in
theorem Zlm {ds:List D} {z:P} (hz:maxP ds=some z) {vs:List Value} (hl:vs.length=ds.length) (hr:∀(j:Nat) v d,vs[j]? =some v->ds[j]? =some d->RelD w S ρ v d) (P:Program) (ats:Array TypeId) (ty:TypeId):
  ∃r,(Builtin.max_ ats ty vs.toArray).run P w= .ok r w/\RelP w S r z:=by
 unfold maxP at hz
 split at hz
 ·rename_i k x k' y
  by_cases hk:k=k'
  ·rw[if_pos hk]at hz
   subst hk
   cases hz
   match vs,hl with
   | [u,v],_=>
    obtain⟨rfl,r1,r2⟩:=ZbX (hr 0 _ _ rfl rfl)
    obtain⟨rfl,r3,r4⟩:=ZbX (hr 1 _ _ rfl rfl)
    refine⟨_,by simp[Builtin.max_,Builtin.max2],.int _ _ ?_ ?_⟩<;>split<;>assumption
  ·rw[if_neg hk]at hz;simp at hz
 ·rename_i k x k' y k'' z'
  by_cases hk:k=k'/\k=k''
  ·rw[if_pos hk]at hz
   obtain⟨rfl,rfl⟩:=hk
   cases hz
   match vs,hl with
   | [u,v,q],_=>
    obtain⟨rfl,r1,r2⟩:=ZbX (hr 0 _ _ rfl rfl)
    obtain⟨rfl,r3,r4⟩:=ZbX (hr 1 _ _ rfl rfl)
    obtain⟨rfl,r5,r6⟩:=ZbX (hr 2 _ _ rfl rfl)
    have g:∀b:Int,k.min<=b->b<=k.max->RelP w S (.int k b) (.int k b):=fun b p q=> .int k b p q
    refine⟨_,by simp[Builtin.max_,Builtin.max2];rfl, ?_⟩
    refine .int k _ ?_ ?_<;>split<;>(first |assumption |(split<;>first |assumption |(split<;>assumption)))
  ·rw[if_neg hk]at hz;simp at hz
 ·simp at hz
omit h hi ht hlit in
theorem Zll {ds:List D} {z:P} (hz:minP ds=some z) {vs:List Value} (hl:vs.length=ds.length) (hr:∀(j:Nat) v d,vs[j]? =some v->ds[j]? =some d->RelD w S ρ v d) (P:Program) (ats:Array TypeId) (ty:TypeId):
  ∃r,(Builtin.min_ ats ty vs.toArray).run P w= .ok r w/\RelP w S r z:=by
 unfold minP at hz
 split at hz
 ·rename_i k x k' y
  by_cases hk:k=k'
  ·rw[if_pos hk]at hz
   subst hk
   cases hz
   match vs,hl with
   | [u,v],_=>
    obtain⟨rfl,r1,r2⟩:=ZbX (hr 0 _ _ rfl rfl)
    obtain⟨rfl,r3,r4⟩:=ZbX (hr 1 _ _ rfl rfl)
    refine⟨_,by simp[Builtin.min_,Builtin.min2],.int _ _ ?_ ?_⟩<;>split<;>assumption
  ·rw[if_neg hk]at hz;simp at hz
 ·rename_i k x k' y k'' z'
  by_cases hk:k=k'/\k=k''
  ·rw[if_pos hk]at hz
   obtain⟨rfl,rfl⟩:=hk
   cases hz
   match vs,hl with
   | [u,v,q],_=>
    obtain⟨rfl,r1,r2⟩:=ZbX (hr 0 _ _ rfl rfl)
    obtain⟨rfl,r3,r4⟩:=ZbX (hr 1 _ _ rfl rfl)
    obtain⟨rfl,r5,r6⟩:=ZbX (hr 2 _ _ rfl rfl)
    have g:∀b:Int,k.min<=b->b<=k.max->RelP w S (.int k b) (.int k b):=fun b p q=> .int k b p q
    refine⟨_,by simp[Builtin.min_,Builtin.min2];rfl, ?_⟩
    refine .int k _ ?_ ?_<;>split<;>(first |assumption |(split<;>first |assumption |(split<;>assumption)))
  ·rw[if_neg hk]at hz;simp at hz
 ·simp at hz
include hE
theorem Zlz {args:Array Operand} {ats:Array TypeId} (ho:o.op= .call {callee:= .builtin .len,args,argTypes:=ats}) (hc:Zf C.E st.ep i o.op o.type st.slots st.objs=some e) (hcond:∀q∈e.cond,q=true):Zv C X st a w i o e:=by
 rw[ho]at hc hlit;simp only[Zf,ZO]at hc;unfold Zii at hc;split at hc<;>(try simp only[reduceCtorEq]at hc);rename_i t d hds hlen;split at hc;rotate_left;simp at hc;rename_i td htd;split at hc;rotate_left;simp at hc;rename_i n c hn;cases hc;obtain⟨hl,hr⟩:=Zaj h args.toList ats.toList (fun x hx=>by grind[Op.operands,Call.operands,Zns])
 rw[hlen]at hl hr;obtain⟨cs,hrun⟩:=ZF (a:=a) (w:=w) (P:=C.E.prog) ho
 match hx:args.toList,hl with
 | [x],_=>
  rw[hx]at hr;have hrel:=hr 0 (a.eval x) d rfl rfl;have hargs:args.map a.eval= #[a.eval x]:=by grind
  have h0:ats[0]? =some t:=by rw[<-Array.getElem?_toList,hds];rfl
  obtain⟨h1,h2⟩:=Zlp h.objs hrel hn hcond hE htd ats h0 o.type;refine Zv.quiet h hi ht (v:= .int .i64 n) (by simp_all[builtin]) rfl rfl rfl (.p _ _ (.int _ _ (ZdV h2).1 (ZdV h2).2))
omit hE in
theorem Zly {args:Array Operand} {ats:Array TypeId} (ho:o.op= .call {callee:= .builtin .max,args,argTypes:=ats}) (hc:Zf C.E st.ep i o.op o.type st.slots st.objs=some e):Zv C X st a w i o e:=by
 rw[ho]at hc hlit
 simp only[Zf,ZO]at hc
 split at hc<;>simp only[Option.some.injEq,reduceCtorEq]at hc
 rename_i z hz
 subst hc
 obtain⟨hl,hr⟩:=Zaj h args.toList ats.toList (fun x hx=>by
  simp[Op.operands,Call.operands]at hlit
  obtain⟨j,hj,rfl⟩:=Array.mem_iff_getElem.1 (Array.mem_toList_iff.1 hx);exact hlit j hj)
 obtain⟨cs,hrun⟩:=ZF (a:=a) (w:=w) (P:=C.E.prog) ho
 obtain⟨r,h1,h2⟩:=Zlm hz (by simp[hl]) hr C.E.prog ats o.type
 have hargs:args.map a.eval=(args.toList.map a.eval).toArray:=by apply Array.ext';simp
 exact Zv.quiet h hi ht (v:=r) (by rw[hrun,hargs];simp only[builtin,Sem.run_bind,h1,Result.andThen_ok,Sem.run_pure]) rfl rfl rfl (.p _ _ h2)
omit hE in
theorem Zlx {args:Array Operand} {ats:Array TypeId} (ho:o.op= .call {callee:= .builtin .min,args,argTypes:=ats}) (hc:Zf C.E st.ep i o.op o.type st.slots st.objs=some e):Zv C X st a w i o e:=by
 rw[ho]at hc hlit
 simp only[Zf,ZO]at hc
 split at hc<;>simp only[Option.some.injEq,reduceCtorEq]at hc
 rename_i z hz
 subst hc
 obtain⟨hl,hr⟩:=Zaj h args.toList ats.toList (fun x hx=>by
  simp[Op.operands,Call.operands]at hlit
  obtain⟨j,hj,rfl⟩:=Array.mem_iff_getElem.1 (Array.mem_toList_iff.1 hx);exact hlit j hj)
 obtain⟨cs,hrun⟩:=ZF (a:=a) (w:=w) (P:=C.E.prog) ho
 obtain⟨r,h1,h2⟩:=Zll hz (by simp[hl]) hr C.E.prog ats o.type
 have hargs:args.map a.eval=(args.toList.map a.eval).toArray:=by apply Array.ext';simp
 exact Zv.quiet h hi ht (v:=r) (by rw[hrun,hargs];simp only[builtin,Sem.run_bind,h1,Result.andThen_ok,Sem.run_pure]) rfl rfl rfl (.p _ _ h2)
end
end Eng
namespace Eng
open Go
section
variable {C:Ctx} {X:Nat->Prop} {ρ:Id->Option Lay} {S:Fz} {st:St} {a:Act} {w:World} {i:Nat} {o:Oper} {e:Eff}
theorem Zdv (ep i:Nat):∀(a:List D) (k:Nat),(ZeO ep i k a).length=a.length
 | [],_=>rfl
 |d::r,k=>by cases d<;>simp[ZeO,Zdv ep i r (k+1)]
theorem ZhY (ep i:Nat):∀(a:List D) (k j:Nat) (d:D),a[j]? =some d->
  (ZeO ep i k a)[j]? =some (match d with | .nils _=> .sl (ep,i,k+j) 0 0 |d=>d)
 | [],_,_,_,h=>by grind
 |x::r,k,0,d,h=>by grind[ZeO]
 |x::r,k,j+1,d,h=>by
  have:=ZhY ep i r (k+1) j d (by simp_all);have e:k+1+j=k+(j+1):=by omega
  rw[e]at this;cases x<;>simpa[ZeO]using this
theorem ZaK:∀(a:List D) (k m:Nat) (o:Obj),(m,o)∈ZU k a->k<=m/\∃sz,a[m - k]? =some (.nils sz)/\o= .arr sz [] false
 | [],_,_,_,h=>by grind[ZU]
 |d::r,k,m,o,h=>by
  have rest:(m,o)∈ZU (k+1) r->k<=m/\∃sz,(d::r)[m - k]? =some (.nils sz)/\o= .arr sz [] false:=fun h=>by obtain⟨c,sz,e,b⟩:=ZaK r (k+1) m o h;grind
  cases d<;>simp only[ZU]at h<;>first |exact rest h |skip
  grind
theorem Zem {v:Value} {d:D} (h:RelD w S ρ v d) (A:d.okv=true):v.cells.size=d.cells.length/\
  ∀(j:Nat) u c,v.cells[j]? =some u->d.cells[j]? =some c->RelD w S ρ u c/\Zbp u:=by
 have e:∀(v:Value) (d:D),v.cells= #[v]->d.cells=[d]->Zbp v->RelD w S ρ v d->v.cells.size=d.cells.length/\∀(j:Nat) u c,v.cells[j]? =some u->d.cells[j]? =some c->RelD w S ρ u c/\Zbp u:=by
  grind
 cases h with
 |p v x h=>
  have K:=h.size
  by_cases s:∃cs,x= .agg cs
  ·obtain⟨cs,rfl⟩:=s;refine⟨by grind[D.cells,P.cells],fun j u c m k=> ?_⟩;simp only[D.cells,ZnB,ZnM]at k;obtain⟨y,H,rfl⟩:=k;have:=h.cell m (by simpa[P.cells]using H);exact⟨.p _ _ this.1,this.2⟩
  ·have B:v.cells= #[v]/\Zbp v:=by cases h<;>first |exact⟨rfl,rfl⟩ |simp_all
   have A:(D.p x).cells=[.p x]:=by cases x<;>first |rfl |simp_all
   exact e v _ B.1 A B.2 (.p _ _ h)
 |dead v=>grind[D.okv]
 |val v=>grind[D.okv]
 |undef=>grind[D.okv]
 |anyb b=>exact e _ _ rfl rfl rfl (.anyb b)
 |nils sz=>exact e _ _ rfl rfl rfl (.nils sz)
 |clip a n sz es h=>exact e _ _ rfl rfl rfl (.clip a n sz es h)
 |agg vs cs q G h=>exact⟨q,fun j u c m k=>⟨h j u c m k,G j u m⟩⟩
 |tup vs cs=>grind[D.okv]
 |sl id z len cap a L g q t k F=>exact e _ _ rfl rfl rfl (.sl id z len cap a L g q t k F)
 |ptr id i j L b g hi l=>exact e _ _ rfl rfl rfl (.ptr id i j L b g hi l)
 |map id L b g l=>exact e _ _ rfl rfl rfl (.map id L b g l)
 |it id L b g l=>exact e _ _ rfl rfl rfl (.it id L b g l)
 |fn f fs cs a b C k h J=>exact e _ _ rfl rfl rfl (.fn f fs cs a b C k h J)
 |rp x id b o r u L E s I g l=>exact e _ _ rfl rfl rfl (.rp x id b o r u L E s I g l)
def ZjB (a:List D) (k0 k:Nat):Option Lay:=
 match a[k - k0]? with
 |some (.nils sz)=>if k0<=k then some ⟨none,0,sz,0,0⟩else none
 |_=>none
theorem ZhX {w':World} {S':Fz} {ρ':Id->Option Lay} {ep:Nat} {a:List D} {k0 j:Nat} {v:Value} {d:D} (m:ZbM S w w') (l:∀b c,S b c->S' b c) (e:∀id L,ρ id=some L->ρ' id=some L)
  (g:∀k L,ZjB a k0 k=some L->ρ' (ep,i,k)=some L) (n:a[j]? =some d) (h:RelD w S ρ v d):∃f,(ZeO ep i k0 a)[j]? =some f/\RelD w' S' ρ' v f:=by
 refine⟨_,ZhY ep i a k0 j d n, ?_⟩;cases d with
 |nils sz=>
  cases h;have:ZjB a k0 (k0+j)=some ⟨none,0,sz,0,0⟩:=by grind[ZjB]
  exact .sl _ 0 0 0 none _ (g _ _ this) (by simp) (by simp) (by simp) (.inl rfl)
 |_=>exact h.mono m l e
theorem Zau {w:World} {S:Fz} {ρ:Id->Option Lay} (sz:Nat) (fix:Bool):Zp w S ρ ⟨none,0,sz,0,0⟩ (.arr sz [] fix):=
 ⟨rfl,rfl,by simp,by simp,by simp,by simp,fun _=>default,by simp,by simp,by simp⟩
theorem Z3 {w w':World} {x:Go.Obj} (hw:w'.heap=w.heap.push x):w'.heap[w.heap.size]? =some x:=by simp_all
theorem Zaq {w w':World} {x:Go.Obj} (hw:w'.heap=w.heap.push x) {b:Nat} (a:b < w.heap.size):w'.heap[b]? =w.heap[b]? :=by grind
section
variable (h:Rep C X ρ S st a.tmps w) (hi:¬X i) (ht:∀d,o.dst=some d->d < C.E.nt) (hlit:o.op.operands.all ZE=true) (hE:Zl C.E)
include h hi
theorem Rep.fresh (k:Nat):ρ (st.ep,i,k)=none:=by
 cases hc:ρ (st.ep,i,k)with
 |none=>rfl
 |some L=>have:=h.young (st.ep,i,k) (by grind);simp_all
include ht
theorem Zv.box {us:Array Value} {t:TypeId} {ds:List D} {w':World} (hw:w'.heap=w.heap.push (.cells us t)) (hqu:ZQ w w') (hrun:(execOp a.eval o).run C.E.prog w= .ok (.value (.pointer (some ⟨w.heap.size,0,none⟩))) w')
  (hl:us.size=ds.length) (hrel:∀(j:Nat) u d,us[j]? =some u->ds[j]? =some d->RelD w S ρ u d/\Zbp u)
  (he:e={val:= .ptr (st.ep,i,0) 0 0,new:=(0,.box (ZeO st.ep i 1 ds))::ZU 1 ds}):Zv C X st a w i o e:=by
 subst he;let L:Lay:=⟨some w.heap.size,0,ds.length,1,1⟩;let ρ':Id->Option Lay:=fun id=>if id.1=st.ep/\id.2.1=i then (if id.2.2=0 then some L else ZjB ds 1 id.2.2)else ρ id
 have f:=h.fresh hi;have hρ:∀id L,ρ id=some L->ρ' id=some L:=by
  grind
 have hv:∀k L,ZjB ds 1 k=some L->ρ' (st.ep,i,k)=some L:=by
  grind[ZjB]
 have hbox:ρ' (st.ep,i,0)=some L:=by grind
 have kp:∀b,b < w.heap.size->w'.heap[b]? =w.heap[b]? :=fun b hb=>Zaq hw hb
 have kS:ZbM S w w':= .of fun b c hb _=>kp b (h.sIn b c hb)
 have hsz:w'.heap.size=w.heap.size+1:=by simp_all
 have hcell:∀j,w'.cell? ⟨w.heap.size,j,none⟩=us[j]? :=fun j=>by grind[World.cell?]
 have hfz:∀j,w'.frozen? ⟨w.heap.size,j,none⟩=false:=fun j=>by grind[World.frozen?]
 refine⟨_,_,w',hrun,.inl rfl,ρ',h.step ρ' hi ht (by omega) hqu (fun b hb _=>kp b hb) (by simp) hρ ?_ (by simp) ?_ ?_ (by simp) ?_
  (fun k o hm=>(ZnD.1 hm).elim (fun h=>by simp_all) (ZdG _ _ k o))⟩
 ·grind
 ·intro k o' hm;rcases ZnD.1 hm with hm |hm
  ·simp only[ZnP]at hm;obtain⟨rfl,rfl⟩:=hm;refine⟨L,hbox,fun b hb=> ?_,fun S' hS _ _=>⟨w.heap.size,rfl,by simp[L,Zdv],rfl,fun j d hd=> ?_⟩⟩
   ·grind
   ·have hjl:j < ds.length:=by grind[Zdv]
    have hju:j < us.size:=by omega
    obtain⟨r1,r2⟩:=hrel j us[j] ds[j] (by grind) (by grind);obtain⟨d',hd',hr⟩:=ZhX (i:=i) (ep:=st.ep) (k0:=1) kS hS hρ hv (by grind:ds[j]? =some ds[j]) r1;grind
  ·obtain⟨h1,sz,h2,rfl⟩:=ZaK _ _ _ _ hm;simp_all[ZjB,Zau]
 ·grind[ZjB]
 ·intro S' _ _ d _;have:=RelD.ptr (w:=w') (S:=S') (ρ:=ρ') (st.ep,i,0) 0 0 L w.heap.size hbox (by grind) rfl;grind
theorem Zv.arr {cells:Array Value} {t:TypeId} {fr:Nat×Nat} {sz len cap:Nat} {es:List P} {fs:List Id} {c:List Bool} {evs:Nat->Value} {w':World} (hw:w'.heap=w.heap.push (.cells cells t fr)) (z:ZQ w w') (G:∀j,j < cells.size->¬(fr.1<=j/\j < fr.2))
  (q:(execOp a.eval o).run C.E.prog w= .ok (.value (.slice (some ⟨w.heap.size,0,none⟩) len cap)) w')
  (p:es.length=len) (n:len<=cap) (m:len<=Z9/\cap<=Zr) (O:cells.size=cap*sz) (s:∀j,j < len->(evs j).cells.size=sz)
  (u:∀(j k:Nat) v,j < len->(evs j).cells[k]? =some v->cells[j*sz+k]? =some v)
  (y:∀id,id∈fs->ρ id≠none)
  (r:∀S',(∀b c,S b c->S' b c)->(∀id,id∈fs->∀o L b,st.objs id=some o->o≠ .gone->ρ id=some L->L.blk=some b->∀c,inL (some o) L c->S' b c)->∀(j:Nat) x,es[j]? =some x->RelP w S' (evs j) x)
  (K:e={val:= .sl (st.ep,i,0) 0 len,new:=[(0,.arr sz es false)],frz:=fs,cond:=c}):Zv C X st a w i o e:=by
 subst K;let L:Lay:=⟨some w.heap.size,0,sz,len,cap⟩;let ρ':Id->Option Lay:=upd ρ (st.ep,i,0) (some L);have f:=h.fresh hi;have A:∀id L,ρ id=some L->ρ' id=some L:=by
  grind[upd]
 have l:ρ' (st.ep,i,0)=some L:=by grind[upd]
 have F:∀b,b < w.heap.size->w'.heap[b]? =w.heap[b]? :=fun b g=>Zaq hw g
 have I:w'.heap.size=w.heap.size+1:=by simp_all
 have R:∀j,w'.cell? ⟨w.heap.size,j,none⟩=cells[j]? :=fun j=>by grind[World.cell?]
 have M:∀j,j < cells.size->w'.frozen? ⟨w.heap.size,j,none⟩=false:=fun j D=>by grind[World.frozen?]
 refine⟨_,_,w',q,.inl rfl,ρ',h.step ρ' hi ht (by omega) z (fun b g _=>F b g) (by simp) A ?_ (fun id B=>⟨y id B,by simp⟩) ?_ ?_ (by simp) ?_⟩
 ·grind[upd]
 ·intro k o' E;simp only[ZnF,ZnP]at E;obtain⟨rfl,rfl⟩:=E;refine⟨L,l,fun b g=> ?_,fun S' J H _=>⟨rfl,p,n,m.1,by grind,fun b g j D=> ?_,evs,s,fun b g j k v D Q=> ?_,fun j x N=> ?_⟩⟩
  ·grind
  ·grind
  ·grind
  ·have:=r S' J H j x N;exact this.mono (.of fun b _ _ g=>F b g) fun _ _ h=>h
 ·simp_all
 ·intro S' _ _ d _;exact .sl _ 0 len cap _ L l (by grind) m n (.inr ⟨w.heap.size,rfl,by grind,by grind⟩)
include hE
omit h hi ht in
theorem Zf5 {t:Nat} {ti:TI} (hty:C.E.ty t=some ti):∃z,(∀w,(zeroValue t).run C.E.prog w= .ok z w)/\z.cells.size=(ti.zero.map Z.toD).length/\z.cells.size=ti.size/\
  ∀(j:Nat) u d,z.cells[j]? =some u->(ti.zero.map Z.toD)[j]? =some d->RelD w S ρ u d/\Zbp u:=by
 obtain⟨ii,ds,z,hti⟩:=hE.is hty
 obtain⟨hl,hz⟩:=Zco hti.zs
 simp at hl
 refine⟨z,fun w=>Z0 hti.info hti.zero w,by simp[hl],by rw[hl];exact hti.zl,fun j u d hu hd=> ?_⟩
 rw[List.getElem?_map,Option.map_eq_some_iff]at hd
 obtain⟨y,hy,rfl⟩:=hd
 exact Zmh (hz j u y (by simpa using hu) hy)
theorem Zji {t:TypeId} (ho:o.op= .alloc t) (hc:Zf C.E st.ep i o.op o.type st.slots st.objs=some e):Zv C X st a w i o e:=by rw[ho]at hc;simp only[Zf]at hc;split at hc;rotate_left;simp at hc;rename_i ti hty;simp only[ZnO]at hc;obtain⟨z,hz,hl,_,hrel⟩:=Zf5 (ρ:=ρ) (S:=S) (w:=w) hE hty;refine Zv.box h hi ht (us:=z.cells) (t:=t) (w':=w.alloc (.cells z.cells t)) rfl ⟨rfl,rfl⟩ ?_ hl hrel hc.symm;simp_all[execOp,Instr.alloc,newVar,newRow]
include hlit
theorem ZlA {t:TypeId} {x:Operand} (k:o.op= .box t x) (b:Zf C.E st.ep i o.op o.type st.slots st.objs=some e):Zv C X st a w i o e:=by
 rw[k]at b hlit;simp[Op.operands]at hlit;have l:=Zm h t hlit;simp only[Zf]at b;split at b;rotate_left;simp at b;rename_i ti m;split at b;rotate_left;simp at b;rename_i c;obtain⟨c,g⟩:=c;simp only[ZnO]at b;have f:(execOp a.eval o).run C.E.prog w= .ok (.value (.pointer (some ⟨w.heap.size,0,none⟩))) (w.alloc (.cells (a.eval x).cells t)):=by simp[execOp,k,Instr.box,newVar,newRow]
 have cells:(a.eval x).cells.size=(ev C.E st.slots t x).cells.length/\∀(j:Nat) u d,(a.eval x).cells[j]? =some u->(ev C.E st.slots t x).cells[j]? =some d->RelD w S ρ u d/\Zbp u:=Zem l g;exact Zv.box h hi ht (w':=w.alloc (.cells (a.eval x).cells t)) rfl ⟨rfl,rfl⟩ f cells.1 cells.2 b.symm
end
end
end Eng
namespace Eng
open Go
section
variable {C:Ctx} {X:Nat->Prop} {ρ:Id->Option Lay} {S:Fz} {st:St} {a:Act} {w:World} {i:Nat} {o:Oper} {e:Eff}
section
variable (h:Rep C X ρ S st a.tmps w) (hi:¬X i) (ht:∀d,o.dst=some d->d < C.E.nt) (hlit:o.op.operands.all ZE=true) (hE:Zl C.E)
include h hi ht
theorem Zv.new1 {x:Go.Obj} {L:Lay} {p:Obj} {fs:List Id} {c:List Bool} {v:Value} {d:D} {w':World} (hw:w'.heap=w.heap.push x) (n:ZQ w w')
  (g:(execOp a.eval o).run C.E.prog w= .ok (.value v) w') (t:L.blk=some w.heap.size) (l:∀id,id∈fs->ρ id≠none)
  (r:∀(S':Fz) ρ',(∀b c,S b c->S' b c)->(∀id,id∈fs->∀o L b,st.objs id=some o->o≠ .gone->ρ id=some L->L.blk=some b->∀c,inL (some o) L c->S' b c)->(∀id L,ρ id=some L->ρ' id=some L)->ρ' (st.ep,i,0)=some L->Zp w' S' ρ' L p)
  (q:∀(S':Fz) ρ',(∀b c,S b c->S' b c)->(∀id L,ρ id=some L->ρ' id=some L)->ρ' (st.ep,i,0)=some L->RelD w' S' ρ' v d)
  (z:e={val:=d,new:=[(0,p)],frz:=fs,cond:=c}) (u:p.isOwn=false:=by rfl):Zv C X st a w i o e:=by
 subst z;let ρ':Id->Option Lay:=upd ρ (st.ep,i,0) (some L);have f:=h.fresh hi;have j:∀id L,ρ id=some L->ρ' id=some L:=by
  grind[upd]
 have s:ρ' (st.ep,i,0)=some L:=by grind[upd]
 have y:∀b,b < w.heap.size->w'.heap[b]? =w.heap[b]? :=fun b k=>Zaq hw k
 have A:w'.heap.size=w.heap.size+1:=by simp_all
 refine⟨_,_,w',g,.inl rfl,ρ',h.step ρ' hi ht (by omega) n (fun b k _=>y b k) (by simp) j ?_ (fun id m=>⟨l id m,by simp⟩) ?_ ?_ (by simp) ?_ (by simp_all)⟩
 ·grind[upd]
 all_goals grind
theorem ZgR {t:TypeId} (c:o.op= .makeMap t none) (b:Zf C.E st.ep i o.op o.type st.slots st.objs=some e):Zv C X st a w i o e:=by
 rw[c]at b;simp only[Zf,ZnO]at b;refine Zv.new1 h hi ht (x:= .map #[] 0) (L:=⟨some w.heap.size,0,0,0,0⟩) (w':=w.alloc (.map #[] 0)) (v:= .map (some w.heap.size)) rfl ⟨rfl,rfl⟩ (by simp[execOp,c,Instr.makeMap]) rfl (fs:=[]) (by simp) ?_ ?_ b.symm
 ·intro S' ρ' _ _ _ _;exact⟨_,rfl, #[],0,[],Z3 rfl,.refl _,rfl,by simp,by simp,by simp,by simp,by simp⟩
 ·intro S' ρ' _ _ d;exact .map _ _ _ d rfl
include hlit hE
theorem Zjc {t:TypeId} {x:Operand} (g:o.op= .range t x) (b:Zf C.E st.ep i o.op o.type st.slots st.objs=some e):Zv C X st a w i o e:=by
 rw[g]at b hlit;simp[Op.operands]at hlit;have j:=Zm h 0 hlit;simp only[Zf]at b;split at b;rotate_left;simp at b
 
 rename_i s c q;rw[q]at j;obtain⟨p,l⟩:=j.of_p.str_inv;simp only[ZnO]at b;obtain⟨d,n,m⟩:=hE.und c;have f:d= .string:=by cases d<;>simp[Zat]at m<;>rfl
 subst f;refine Zv.new1 h hi ht (x:= .stringIter ⟨s.toArray⟩ 0) (L:=⟨some w.heap.size,0,0,0,0⟩) (w':=w.alloc (.stringIter ⟨s.toArray⟩ 0)) (v:= .pointer (some ⟨w.heap.size,0,none⟩)) rfl ⟨rfl,rfl⟩
  (by simp[execOp,g,Instr.range,p,Za n]) rfl (fs:=[]) (by simp) ?_ ?_ b.symm
 ·intro S' ρ' _ _ _ _;exact⟨_,rfl,Z3 rfl,l⟩
 ·intro S' ρ' _ _ k;exact .it _ _ _ k rfl
omit h hi ht hlit in
theorem Zbs {t:Nat} {ti:TI} (hty:C.E.ty t=some ti):∃z,(∀w,(zeroValue t).run C.E.prog w= .ok z w)/\z.cells.size=ti.size/\RelP w S z ti.zeroP:=by
 obtain⟨ii,ds,z,hti⟩:=hE.is hty
 obtain⟨hl,hz⟩:=Zco hti.zs
 simp at hl
 have leaf:∀v z',zOk v z'=true->RelP w S v z'.toP/\Zbp v:=by
  intro v z' hz
  unfold zOk at hz
  split at hz
  ·exact⟨.bool false,rfl⟩
  ·rename_i k n k' m
   simp only[Bool.and_eq_true,beq_iff_eq]at hz
   obtain⟨⟨rfl,rfl⟩,rfl⟩:=hz
   refine⟨.int _ _ ?_ ?_,rfl⟩<;>cases k<;>decide
  ·rename_i s
   obtain⟨⟨l⟩⟩:=s
   simp at hz
   subst hz
   exact⟨.str [] (by simp),rfl⟩
  ·exact⟨.sl none 0 0 _ [] (fun _=>default) rfl (by simp) (by simp) (by simp) (by simp) (by simp),rfl⟩
  ·exact⟨.nilp,rfl⟩
  ·exact⟨.nilmap _,rfl⟩
  ·exact⟨.nilfn,rfl⟩
  ·simp at hz
 refine⟨z,fun w=>Z0 hti.info hti.zero w,by rw[hl];exact hti.zl, ?_⟩
 unfold TI.zeroP
 cases hg:ti.isAgg with
 |true=>
  obtain⟨cs,rfl⟩:=hti.agg hg
  simp only[if_true]
  simp only[Value.cells]at hl hz
  refine .agg cs _ (by simp[hl]) (fun j v hv=> ?_) (fun j v c hv hc=> ?_)
  ·have hj:j < ti.zero.length:=by have:=(Array.getElem?_eq_some_iff.1 hv).1;omega
   exact(leaf v ti.zero[j] (hz j v _ (by simpa using hv) (by simp[hj]))).2
  ·rw[List.getElem?_map,Option.map_eq_some_iff]at hc
   obtain⟨y,hy,rfl⟩:=hc
   exact(leaf v y (hz j v y (by simpa using hv) hy)).1
 |false=>
  obtain⟨hc1,hl1⟩:=hti.flat hg
  simp only[Bool.false_eq_true,if_false]
  obtain⟨y,hy⟩:∃y,ti.zero=[y]:=by
   match hq:ti.zero,hl1 with
   | [y],_=>exact⟨y,rfl⟩
  rw[hy]
  simp only[List.map_cons,List.map_nil,List.headD_cons]
  exact(leaf z y (hz 0 z y (by rw[hc1];rfl) (by rw[hy];rfl))).1
omit hlit in
theorem ZgQ {t:TypeId} {l c:Operand} {te:TI} {k1 k2:IntKind} {n1 n2:Int} {c' k:Nat} (ho:o.op= .makeSlice t l c) (e1:a.eval l= .int k1 n1) (e2:a.eval c= .int k2 n2) (hel:C.E.elem t=some te)
  (hc:(if te.isAgg=true/\c' < te.size then match te.zero[c']? with
     |some (.nils k')=>if k'=k then some ({val:= .sl (st.ep,i,0) 0 n1.toNat,new:=[(0,.own te.size c' k (List.replicate n1.toNat te.zeroP) n1.toNat none)],cond:=[decide (0<=n1/\n1<=n2/\n2*te.bytes<=ZD/\n2<=ZD)]}:Eff)else none
     |_=>none
    else none)=some e) (hcond:∀q∈e.cond,q=true):Zv C X st a w i o e:=by
 split at hc
 case isFalse=>simp at hc
 rename_i hag
 split at hc
 case h_2=>simp at hc
 rename_i k' hzc
 split at hc
 case isFalse=>simp at hc
 rename_i hkk
 subst hkk
 cases hc
 obtain⟨g0,g1,g2,g3⟩:=of_decide_eq_true (hcond _ List.mem_cons_self)
 have hel0:=hel
 unfold Env.elem at hel
 split at hel
 case h_2=>simp at hel
 rename_i el sz by_ ze hty
 have hu:=hE.slice hty rfl
 obtain⟨z,hz,hzs,hzr⟩:=Zbs (w:=w) (S:=S) hE hel
 obtain⟨ii,ds,z',hti⟩:=hE.is hel
 have hzz:z'=z:=by
  have h1:=hz w
  rw[Z0 hti.info hti.zero w]at h1
  simpa using h1
 subst hzz
 unfold ZD at g2 g3
 have hr:=run_make (P:=C.E.prog) w t el ii z' hu hti.info hti.zero k1 k2 n1 n2 g0 g1 (by rw[hti.bytes,Int.mul_comm];omega) (by omega)
 rw[hti.size]at hr
 have hcs:(madeCells z'.cells (n2.toNat*te.size)).size=n2.toNat*te.size:=size_madeCells _ _
 have hcell:∀j,j < n2.toNat*te.size->(madeCells z'.cells (n2.toNat*te.size))[j]? =some (z'.cells[j % te.size]!):=fun j hj=>by simp[madeCells,hj,hzs]
 obtain⟨hl,hz2⟩:=Zco hti.zs
 simp at hl
 have hzl:te.zero.length=te.size:=by rw[<-hzs];simpa using hl.symm
 have hnil:z'.cells[c']? =some (.slice none 0 0):=by
  have hlt:c' < z'.cells.size:=by rw[hzs];exact hag.2
  have h1:=hz2 c' (z'.cells[c']) (.nils k') (by simp[hlt]) hzc
  have:z'.cells[c']= .slice none 0 0:=by
   generalize z'.cells[c']=u at h1
   unfold zOk at h1
   split at h1<;>simp_all
  rw[<-this];simp[hlt]
 have hzP:te.zeroP= .agg (te.zero.map Z.toP):=by unfold TI.zeroP;rw[hag.1];rfl
 generalize hcc:madeCells z'.cells (n2.toNat*te.size)=cells at hr hcs hcell
 let L:Lay:=⟨some w.heap.size,0,te.size,n1.toNat,n2.toNat⟩
 let w':=w.alloc (.cells cells el)
 have hw':w'.heap=w.heap.push (.cells cells el):=rfl
 have hsz:w'.heap.size=w.heap.size+1:=by rw[hw'];simp
 let ρ':Id->Option Lay:=upd ρ (st.ep,i,0) (some L)
 have f:=h.fresh hi
 have hρ:∀id L,ρ id=some L->ρ' id=some L:=by
  intro id L' hL
  simp only[ρ',upd]
  split
  ·rename_i hc;subst hc;rw[f]at hL;simp at hL
  ·exact hL
 have hbox:ρ' (st.ep,i,0)=some L:=by simp[ρ',upd]
 have kp:∀b,b < w.heap.size->w'.heap[b]? =w.heap[b]? :=fun b hb=>Zaq hw' hb
 have cellAt:∀j,j < n2.toNat*te.size->w'.cell? ⟨w.heap.size,j,none⟩=some (z'.cells[j % te.size]!):=fun j hj=>by
  have:w'.cell? ⟨w.heap.size,j,none⟩=cells[j]? :=by simp[World.cell?,Z3 hw']
  rw[this];exact hcell j hj
 have modj:∀m j,j < te.size->(m*te.size+j) % te.size=j:=fun m j hj=>by rw[Nat.mul_comm,Nat.mul_add_mod];exact Nat.mod_eq_of_lt hj
 have inb:∀m j,m < n1.toNat->j < te.size->m*te.size+j < n2.toNat*te.size:=fun m j hm hj=>by
  have:(m+1)*te.size<=n2.toNat*te.size:=Nat.mul_le_mul_right _ (by omega)
  rw[Nat.add_mul]at this;omega
 have rp:∀m y,(List.replicate n1.toNat te.zeroP)[m]? =some y->m < n1.toNat/\y= .agg (te.zero.map Z.toP):=fun m y hy=>by
  rw[List.getElem?_replicate]at hy
  split at hy
  rotate_left
  simp at hy
  rename_i hm;simp only[Option.some.injEq]at hy;exact⟨hm,by rw[<-hy,hzP]⟩
 have hzc2:(te.zero.map Z.toP)[c']? =some (.sl k' []):=by rw[List.getElem?_map,hzc];rfl
 have hkp:ZbM S w w':= .of fun b c hb _=>kp b (h.sIn b c hb)
 refine⟨_,.slice (some ⟨w.heap.size,0,none⟩) n1.toNat n2.toNat,w',by simp only[execOp,ho,e1,e2,Sem.run_bind,hr,Result.andThen_ok,Sem.run_pure];rfl,.inl rfl,ρ',h.stepG (i:=i) (t:=o.dst) ρ' hi ht (by omega) ⟨rfl,rfl⟩ (fun b hb _=>kp b hb) (by simp) hρ ?_ (by simp) ?_ ?_ (by simp) ?_ hkp (by simp) ?_⟩
 ·intro id hn
  simp only[ρ',upd]at hn
  split at hn
  ·rename_i hc;subst hc;exact .inr ⟨rfl,rfl⟩
  ·exact .inl hn
 ·intro k o' hm
  simp only[List.mem_singleton,Prod.mk.injEq]at hm
  obtain⟨rfl,rfl⟩:=hm
  refine⟨L,hbox,fun b hb=> ?_,fun S' hS _ _=> ?_⟩
  ·simp only[L,Option.some.injEq]at hb;subst hb;exact⟨.inl (Nat.le_refl _),by omega⟩
  refine⟨rfl,by simp[L],by simp only[L];omega,by simp only[L];unfold Z9;omega,hag.2,by simp[L],fun b hb j hj=> ?_,fun m y hy=> ?_⟩
  ·simp only[L,Option.some.injEq]at hb;subst hb
   simp only[L,Nat.zero_add]at hj|-
   refine⟨⟨_,cellAt j hj⟩, ?_⟩
   simp only[World.frozen?,Z3 hw']
   simp
  ·obtain⟨hm,rfl⟩:=rp m y hy
   refine⟨_,[],rfl,by simp[hzl],hzc2,fun b hb j x v hx hv=> ?_⟩
   simp only[L,Option.some.injEq]at hb;subst hb
   have hj:j < te.size:=by have:=(List.getElem?_eq_some_iff.1 hx).1;simp at this;omega
   simp only[L,Nat.zero_add]at hv
   rw[cellAt _ (inb m j hm hj),modj m j hj]at hv
   rw[hzP]at hzr
   have hu':z'.cells[j]? =some v:=by
    have hlt:j < z'.cells.size:=by rw[hzs];exact hj
    simp only[getElem!_def,Array.getElem?_eq_getElem hlt,Option.some.injEq]at hv
    rw[<-hv];simp[hlt]
   have r:=hzr.cell (j:=j) (u:=v) (c:=x) hu' hx
   exact⟨r.2,fun _=>r.1.mono hkp hS⟩
 ·intro k o1 L1 k' o2 L2 b hm _ hL hb hm' _ hL' hb'
  simp only[List.mem_singleton,Prod.mk.injEq]at hm hm'
  rw[hm.1,hm'.1]
 ·intro S' hS _ d _
  exact .sl _ _ _ _ _ L hbox (by simp[L]) (by unfold Z9 Zr;omega) (by omega) (.inr ⟨_,rfl,by simp[L],by simp[L]⟩)
 ·intro S' hSS hS'
  have hS0:∀b c,S' b c->S b c:=fun b c hb=>(hS' b c hb).elim (fun h=>h) fun⟨_,_,_,hm,_⟩=>by simp at hm
  obtain⟨κ,F⟩:=h.fam
  generalize he:(st.app i o.dst {val:= .sl (st.ep,i,0) 0 n1.toNat,new:=[(0,.own te.size c' k' (List.replicate n1.toNat te.zeroP) n1.toNat none)],cond:=[decide (0<=n1/\n1<=n2/\n2*te.bytes<=ZD/\n2<=ZD)]})=st2
  have hob:∀id1 ob,st2.objs id1=some ob->(id1=(st.ep,i,0)/\ob= .own te.size c' k' (List.replicate n1.toNat te.zeroP) n1.toNat none)\/st.objs id1=some ob:=by
   intro id1 ob hob
   rw[<-he]at hob
   rcases ZK st i _ _ id1 ob hob with ⟨k1,rfl,hm⟩ |hm |⟨_,hob⟩
   ·simp only[List.mem_singleton,Prod.mk.injEq]at hm
    exact .inl ⟨by rw[hm.1],hm.2⟩
   ·simp at hm
   ·exact .inr hob
  have hf2:∀id1,st2.fz id1=st.fz id1:=fun id1=>by rw[<-he,ZbK];simp
  have rold:∀id L,ρ id≠none->ρ' id=some L->ρ id=some L:=fun id L hn hL=>by
   cases hc:ρ id with
   |none=>exact absurd hc hn
   |some L0=>have:=hρ id L0 hc;rw[hL]at this;rw[this]
  have ko:∀{id1 i1 sz1 c1 k1 l1},Kid st2.objs st2.fz id1 i1 sz1 c1 k1 l1->(id1=(st.ep,i,0)/\i1 < n1.toNat/\sz1=te.size/\c1=c'/\k1=k'/\l1=[])\/(id1≠(st.ep,i,0)/\Kid st.objs st.fz id1 i1 sz1 c1 k1 l1):=by
   rintro id1 i1 sz1 c1 k1 l1 ⟨es1,lo1,out1,cs1,ho1,hf,q1,q2,q0,q3⟩
   rw[hf2]at hf
   rcases hob _ _ ho1 with ⟨rfl,ho2⟩ |ho1
   ·simp only[Obj.own.injEq]at ho2
    obtain⟨rfl,rfl,rfl,rfl,rfl,rfl⟩:=ho2
    obtain⟨_,hy⟩:=rp _ _ q1
    simp only[P.agg.injEq]at hy;subst hy
    rw[hzc2]at q2
    simp only[Option.some.injEq,P.sl.injEq]at q2
    exact .inl ⟨rfl,q0,rfl,rfl,rfl,q2.2.symm⟩
   ·refine .inr ⟨fun e=> ?_,⟨es1,lo1,out1,cs1,ho1,hf,q1,q2,q0,q3⟩⟩
    have:=h.known id1 (by simp[ho1])
    rw[e,f]at this;exact this rfl
  refine⟨fun id1 i1=>if id1=(st.ep,i,0)then ⟨none,0,k',0,0⟩else κ id1 i1,fun id1 i1 sz1 c1 k1 l1 L1 hk1 hL1=> ?_,fun id1 i1 sz1 c1 k1 l1 b1 hk1 hb1=> ?_,fun id1 i1 sz1 c1 k1 l1 id2 i2 sz2 c2 k2 l2 b1 h1 h2 h3 h4=> ?_⟩
  ·rcases ko hk1 with ⟨rfl,hlt,rfl,rfl,rfl,rfl⟩ |⟨hne,hk0⟩
   ·simp only[if_true]
    rw[hbox]at hL1;obtain rfl:=Option.some.inj hL1
    refine⟨w.heap.size,.slice none 0 0,rfl, ?_,.sl _ _ _ 0 none _ rfl (by simp) (by simp[Z9,Zr]) (by simp) (.inl rfl),Zau _ _⟩
    simp only[L,Nat.zero_add]
    rw[cellAt _ (inb i1 _ hlt hag.2),modj i1 _ hag.2,getElem!_def,hnil]
   ·simp only[if_neg hne]
    have hk2:=hk0
    obtain⟨es1,lo1,out1,cs1,ho1,_⟩:=hk2
    have hL0:=rold id1 L1 (h.known id1 (by simp[ho1])) hL1
    obtain⟨b1,v1,q1,q2,q3,q4⟩:=F.kid _ _ _ _ _ _ L1 hk0 hL0
    have hb1:=(h.own id1 _ L1 b1 ho1 (by simp) hL0 q1).1
    exact⟨b1,v1,q1,by rw[ZS (kp b1 hb1)];exact q2,q3.mono hkp hSS (fun _ _ h=>h),q4.mono hkp hSS (fun _ _ h=>h) fun b2 hb2=>kp b2 (F.own _ _ _ _ _ _ b2 hk0 hb2).1⟩
  ·rcases ko hk1 with ⟨rfl,hlt,rfl,rfl,rfl,rfl⟩ |⟨hne,hk0⟩
   ·simp at hb1
   ·simp only[if_neg hne]at hb1
    obtain⟨q1,q2,q3,q4⟩:=F.own _ _ _ _ _ _ b1 hk0 hb1
    refine⟨by omega,q2,fun c hs=>q3 c (hS0 _ _ hs),fun id2 o2 L2 ho2 hg2 hL2 hb2=> ?_⟩
    rcases hob _ _ ho2 with ⟨rfl,rfl⟩ |ho2
    ·rw[hbox]at hL2;obtain rfl:=Option.some.inj hL2
     simp only[L,Option.some.injEq]at hb2;omega
    ·exact q4 id2 o2 L2 ho2 hg2 (rold id2 L2 (h.known id2 (by simp[ho2])) hL2) hb2
  ·rcases ko h1 with ⟨rfl,_,_⟩ |⟨hne1,hk1⟩
   ·simp at h3
   ·rcases ko h2 with ⟨rfl,_,_⟩ |⟨hne2,hk2⟩
    ·simp at h4
    ·simp only[if_neg hne1]at h3
     simp only[if_neg hne2]at h4
     exact F.inj _ _ _ _ _ _ _ _ _ _ _ _ b1 hk1 hk2 h3 h4
theorem ZeI {t:TypeId} {l c:Operand} (ho:o.op= .makeSlice t l c) (hc:Zf C.E st.ep i o.op o.type st.slots st.objs=some e) (hcond:∀q∈e.cond,q=true):Zv C X st a w i o e:=by
 rw[ho]at hc hlit;simp[Op.operands]at hlit;have h1:=Zm h 0 hlit.1;have h2:=Zm h 0 hlit.2;simp only[Zf]at hc;split at hc;rotate_left;simp at hc;rename_i te k1 n1 k2 n2 hel hn1 hn2;rw[hn1]at h1;rw[hn2]at h2;obtain⟨e1,_,_⟩:=ZbX h1;obtain⟨e2,_,_⟩:=ZbX h2;split at hc
 ·exact ZgQ h hi ht hE ho e1 e2 hel hc hcond
 cases hc;obtain⟨g0,g1,g2,g3⟩:=of_decide_eq_true (hcond _ ZnE);unfold Env.elem at hel;split at hel;rotate_left;simp at hel;rename_i el sz by_ ze hty;have hu:=hE.slice hty rfl;obtain⟨z,hz,hzs,hzr⟩:=Zbs (w:=w) (S:=S) hE hel;obtain⟨ii,ds,z',hti⟩:=hE.is hel;have hzz:z'=z:=by have h1:=hz w;rw[Z0 hti.info hti.zero w]at h1;simp_all
 subst hzz;unfold ZD at g2 g3;have hr:=run_make (P:=C.E.prog) w t el ii z' hu hti.info hti.zero k1 k2 n1 n2 g0 g1 (by rw[hti.bytes,Int.mul_comm];omega) (by omega);rw[hti.size]at hr;have hcs:(madeCells z'.cells (n2.toNat*te.size)).size=n2.toNat*te.size:=size_madeCells _ _;have hcell:∀j,j < n2.toNat*te.size->(madeCells z'.cells (n2.toNat*te.size))[j]? =some (z'.cells[j % te.size]!):=fun j hj=>by grind[madeCells]
 generalize hcc:madeCells z'.cells (n2.toNat*te.size)=cells at hr hcs hcell;refine Zv.arr h hi ht (cells:=cells) (t:=el) (sz:=te.size) (len:=n1.toNat) (cap:=n2.toNat) (es:=ZnG n1.toNat te.zeroP) (evs:=fun _=>z') (w':=w.alloc (.cells cells el)) rfl ⟨rfl,rfl⟩ (by simp) ?_
  (by simp) (by omega) (by grind[Z9,Zr]) hcs (fun _ _=>hzs) ?_ (fs:=[]) (by simp) ?_ rfl
 ·grind[execOp,Sem.run_bind,Result.andThen_ok,Sem.run_pure]
 ·intro j k v hj hv;have hk:k < te.size:=by grind
  have hlt:j*te.size+k < n2.toNat*te.size:=by have:(j+1)*te.size<=n2.toNat*te.size:=ZnK _ (by omega);grind
  grind[Nat.mul_comm,Nat.mul_add_mod,Nat.mod_eq_of_lt]
 ·intro S' hS _ j x hx;rw[List.getElem?_replicate]at hx;split at hx;rotate_left;simp at hx;cases hx;exact hzr.mono (.refl _ _) hS
end
end
end Eng
namespace Eng
open Go
section
variable {C:Ctx} {X:Nat->Prop} {ρ:Id->Option Lay} {S:Fz} {st:St} {a:Act} {w:World} {i:Nat} {o:Oper} {e:Eff}
theorem ZhR {evs:Nat->Value} {es:List P} (c:es.all P.isU8=true) (b:∀(j:Nat) x,es[j]? =some x->RelP w S (evs j) x):
  ∃xs:List Int,xs.length=es.length/\(∀j,j < es.length->evs j= .int .u8 (xs.getD j 0))/\strOfNums xs=⟨(es.map P.byte).toArray⟩:=by
 let f:P->Int:=fun | .int _ n=>n |_=>0
 have key:∀x∈es,x= .int .u8 (f x):=by intro x d;have:=List.all_eq_true.1 c x d;cases x<;>simp[P.isU8]at this;grind
 refine⟨es.map f,by simp,fun j e=> ?_, ?_⟩
 ·have a:=b j es[j] (by grind);rw[key es[j] (List.getElem_mem _)]at a;rw[a.int_inv.1];grind
 grind[P.byte,List.map_congr_left,strOfNums]
section
variable (h:Rep C X ρ S st a.tmps w) (hi:¬X i) (ht:∀d,o.dst=some d->d < C.E.nt) (hlit:o.op.operands.all ZE=true) (hE:Zl C.E)
include h hi ht hlit hE
theorem ZgT {s t:TypeId} {x:Operand} (ho:o.op= .convert s t x) (r:Zf C.E st.ep i o.op o.type st.slots st.objs=some e) (A:∀q∈e.cond,q=true):Zv C X st a w i o e:=by
 rw[ho]at r hlit;simp[Op.operands]at hlit;have H:=Zm h 0 hlit;simp only[Zf,ZaD]at r;split at r
 ·
  rename_i k k' ag n I p B;rw[B]at H;obtain⟨S,_,_⟩:=ZbX H;cases r;obtain⟨d,D,T⟩:=hE.und I;obtain⟨E,g,y⟩:=hE.und p;have U:E= .int k':=by cases E<;>simp[Zat]at y;grind
  subst U;refine Zv.quiet h hi ht (v:= .int k' (k'.wrap n)) ?_ rfl rfl rfl (.p _ _ (.int _ _ (Za9 _ _).1 (Za9 _ _).2));cases d<;>simp[execOp,ho,S,convert,Za D,Za g,Conv.intToInt]<;>rfl
 ·
  rename_i c I p B;rw[B]at H;obtain⟨S,U⟩:=H.of_p.str_inv;cases r;obtain⟨d,D,T⟩:=hE.und I;obtain⟨E,g,y⟩:=hE.und p;have Q:d= .string:=by grind[Zat]
  have R:E= .string:=by grind[Zat]
  subst Q R;exact Zv.quiet h hi ht (v:= .string ⟨c.toArray⟩) (by simp[execOp,ho,S,convert,Za D,Za g]) rfl rfl rfl (.p _ _ (.str _ U))
 ·
  rename_i f c I p B;split at r;rotate_left;simp at r;rename_i G;rw[B]at H;obtain⟨S,U⟩:=H.of_p.str_inv;simp only[ZnO]at r;obtain⟨d,D,T⟩:=hE.und I;obtain⟨E,g,y⟩:=hE.und p;obtain⟨u,l,z⟩:=hE.und G;have Q:d= .string:=by grind[Zat]
  have R:E= .slice f:=by cases E<;>simp[Zat]at y;grind
  have e5:u= .int .u8:=by cases u<;>simp[Zat]at z;simp_all
  subst Q R e5;have hr:=run_bytes_of_string (P:=C.E.prog) w s t f ⟨c.toArray⟩ D g l;have F:=grownCap_ge w (ByteArray.size ⟨c.toArray⟩) 0 f;have Z:ByteArray.size ⟨c.toArray⟩=c.length:=Zba c;rw[Z]at hr F;have O:(bytesRow ⟨c.toArray⟩ (grownCap w c.length 0 f)).size=grownCap w c.length 0 f:=by grind[bytesRow]
  by_cases hbig:c.length<=Z9
  ·refine Zv.arr h hi ht (cells:=bytesRow ⟨c.toArray⟩ (grownCap w c.length 0 f)) (t:=f) (fr:=((bytesRow ⟨c.toArray⟩ (grownCap w c.length 0 f)).size,(bytesRow ⟨c.toArray⟩ (grownCap w c.length 0 f)).size+1)) (w':=w.drew.alloc (.cells (bytesRow ⟨c.toArray⟩ (grownCap w c.length 0 f)) f ((bytesRow ⟨c.toArray⟩ (grownCap w c.length 0 f)).size,(bytesRow ⟨c.toArray⟩ (grownCap w c.length 0 f)).size+1))) (sz:=1) (len:=c.length) (cap:=grownCap w c.length 0 f) (es:=ZaR c)
    (evs:=fun j=> .int .u8 (c.getD j 0).toNat) rfl ⟨rfl,rfl⟩ (fun j L=>by omega) (by grind[execOp,Sem.run_bind,Result.andThen_ok,Sem.run_pure])
    (by simp[ZaR]) F ⟨hbig,grownCap_le_maxLen w c.length 0 f (by grind[Z9,maxLen])⟩ (by omega) (fun _ _=>rfl) ?_ (fs:=[]) (by simp) ?_ r.symm
   ·grind[Value.cells,bytesRow]
   ·intro S' _ _ j x B;have L:j < c.length:=by grind[ZaR]
    simp[ZaR,L]at B;subst B;have:(c.getD j 0)=c[j]:=by grind
    rw[this];have hb:=c[j].toNat_lt;refine .int .u8 _ ?_ ?_<;>simp[IntKind.min,IntKind.max,IntKind.signed,IntKind.bits]<;>omega
  ·exact absurd (of_decide_eq_true (A _ (by rw[<-r];exact ZnE))) hbig
 ·
  rename_i _ f I p;split at r;rotate_left;simp at r;rename_i sz es G B;simp only[ZnO]at r;have W:es.all P.isU8=true:=A _ (by grind);obtain⟨d,D,T⟩:=hE.und I;obtain⟨E,g,y⟩:=hE.und p;obtain⟨u,l,z⟩:=hE.und G;have Q:d= .slice f:=by cases d<;>simp[Zat]at T;grind
  have R:E= .string:=by grind[Zat]
  have e5:u= .int .u8:=by cases u<;>simp[Zat]at z;simp_all
  subst Q R e5;have hp:=Zaf (S':=fun _ _=>True) h.objs (fun _ _ _=>trivial) 1 _ _ _ H B (fun _ _ _ _ _ _ _ _=>trivial);subst r;generalize hv:a.eval x=v at hp;cases hp with
  |sl ad len cap sz es evs hl hm af O m hr=>
   obtain⟨xs,ae,V,Y⟩:=ZhR W hr;refine Zv.quiet h hi ht (v:= .string ⟨(es.map P.byte).toArray⟩) ?_ rfl rfl rfl (.p _ _ (.str _ (by grind[Z9,Zr])));have ab:(convert s t (.slice ad len cap)).run C.E.prog w= .ok (.string ⟨(es.map P.byte).toArray⟩) w:=by
    cases ad with
    |none=>
     have h0:len=0:=by
      cases len with
      |zero=>rfl
      |succ n=>obtain⟨b,o',hb,_⟩:=m 0 (by omega);simp_all
     subst h0;have J:es=[]:=ZnZ hl;subst J;rw[run_convert_bytes_nil w s f D l 0 cap t g];rfl
    |some ad=>
     by_cases h0:len=0
     ·subst h0;have J:es=[]:=ZnZ hl;subst J;rw[run_convert_bytes_string w s t f (some ad) 0 cap D l g,run_bytesToString w ad 0 cap [] (by simpa using run_loadCells_list (P:=C.E.prog) w ad [] (by simp))];rfl
     ·obtain⟨b,o',hb,_⟩:=m 0 (by omega);cases hb;rw[run_convert_bytes_arg w s f D l b o' len cap xs (by omega) (fun j L=>by obtain⟨b',ac,K,aa⟩:=m j L;simp only[ZnO,Addr.mk.injEq]at K;obtain⟨rfl,rfl,_⟩:=K;have N:=V j (by omega);have M:=O j L;rw[N]at M;simp[Value.cells]at M;have:=(aa 0 (.int .u8 (xs.getD j 0)) (by rw[N];rfl)).2;grind) t g,Y]
   grind[execOp,Sem.run_bind,Result.andThen_ok,Sem.run_pure]
 simp_all
end
end
end Eng
