/- The engine, text 1: an abstract evaluator of Go code over pure data, proved sound. -/
import Derived.Orders
import Derived.Laws.Sem
import Derived.Laws.World
import Derived.Laws.Cells
import Derived.Laws.IdiomCopy
import Derived.Laws.Entries
import Derived.Laws.Slices
import Derived.Laws.StructEq
import Derived.Lib.Strings
import Derived.Laws.MakeOwn
import Derived.Laws.IdiomStrings
import Derived.Laws.BytesArg
import Derived.Laws.Tables
set_option linter.all false
open Array renaming getElem?_eq_getElem->Znp, getElem?_eq_some_iff->Znq, getElem?_extract->Znr, mem_iff_getElem->Zns, mem_toList_iff->Znt
open Bool renaming and_eq_true->Znu, false_eq_true->Znv
open Int renaming eq_ofNat_of_zero_le->Znw, toNat_natCast->Znx
open List renaming getElem?_cons_zero->Zny, getElem?_drop->Znz, getElem?_eq_some_iff->ZnA, getElem?_map->ZnB, getElem?_take->ZnC, map_cons->Zn6, mem_append->Zn7, mem_cons->ZnD, mem_cons_self->ZnE, mem_flatMap->Zob, mem_singleton->ZnF, replicate->ZnG
open Nat renaming add_assoc->ZnH, add_mul->ZnI, le_refl->ZnJ, mul_le_mul_right->ZnK
open Option renaming getD_some->ZnL, map_eq_some_iff->ZnM, some.inj->ZnN, some.injEq->ZnO
open Prod renaming mk.injEq->ZnP
namespace Eng
open Go
inductive TD where
 |bool |int (k:IntKind) |str
 |sl (e:Nat) |arr (n e:Nat) |ptr (e:Nat) |map (k e:Nat)
 |struct (fs:List (Nat×Nat))
 |func |tup |other
 deriving Inhabited
inductive P where
 |bool (b:Bool)
 |int (k:IntKind) (n:Int)
 |str (s:List UInt8)
 |agg (cs:List P)
 |sl (sz:Nat) (es:List P)
 |nilp
 |ptr (cs:List P)
 |map (td:TD) (kv:List (P×P))
 |fn (f:Nat) (first caps:List P)
 |nilfn
 deriving Inhabited
def P.cells:P->List P
 | .agg cs=>cs
 |x=>[x]
abbrev Id:=Nat×Nat×Nat
inductive D where
 |p (x:P)
 |dead
 |undef
 |anyb
 |nils (sz:Nat)
 |clip (sz:Nat) (es:List P)
 |agg (cs:List D)
 |tup (vs:List D)
 |sl (id:Id) (off len:Nat)
 |ptr (id:Id) (i j:Nat)
 |map (id:Id)
 |it (id:Id)
 |fn (f:Nat) (first caps:List D)
 |rp (x:Option P) (id:Id)
 |val (v:Value)
 deriving Inhabited
def D.cells:D->List D
 | .agg cs=>cs
 | .p (.agg cs)=>cs.map .p
 |d=>[d]
def D.okv:D->Bool
 | .dead | .undef | .tup _ | .val _=>false
 |_=>true
inductive Obj where
 |box (cs:List D)
 |arr (sz:Nat) (es:List P) (fix:Bool)
 |map (td:TD) (kv:List (P×P))
 |sit (s:List UInt8) (pos:Nat)
 |gone
 |own (sz c k:Nat) (es:List P) (lo:Nat) (out:Option Nat)
 deriving Inhabited
def Obj.isOwn:Obj->Bool
 | .own .. =>true
 |_=>false
@[simp] theorem isOwn_box (cs:List D):(Obj.box cs).isOwn=false:=rfl
@[simp] theorem isOwn_arr (sz:Nat) (es:List P) (fix:Bool):(Obj.arr sz es fix).isOwn=false:=rfl
@[simp] theorem isOwn_map (td:TD) (a:List (P×P)):(Obj.map td a).isOwn=false:=rfl
@[simp] theorem isOwn_sit (s:List UInt8) (a:Nat):(Obj.sit s a).isOwn=false:=rfl
@[simp] theorem Zng:Obj.gone.isOwn=false:=rfl
def loUp:Option Nat->Nat->Nat
 |none,lo=>lo+1
 |some _,lo=>lo
structure St where
 slots:Nat->D
 objs:Id->Option Obj
 fz:Id->Bool
 ep:Nat
def upd {c β:Type} [DecidableEq c] (f:c->β) (a:c) (b:β):c->β:=fun x=>if x=a then b else f x
def St.set (a:St) (t:Nat) (d:D):St:={a with slots:=upd a.slots t d}
def St.setO (a:St):Option Nat->D->St
 |some t,d=>a.set t d
 |none,_=>a
def St.obj (a:St) (id:Id) (o:Obj):St:={a with objs:=upd a.objs id (some o)}
def St.freeze (a:St) (id:Id):St:={a with fz:=upd a.fz id true}
def St.objL (a:St):List (Id×Obj)->St
 | []=>a
 |(id,o)::r=>(a.obj id o).objL r
def St.freezeL (a:St):List Id->St
 | []=>a
 |id::r=>(a.freeze id).freezeL r
def St.next (a:St):St:={a with ep:=a.ep+1}
inductive Z where
 |p (x:P)
 |nils (sz:Nat)
 deriving Inhabited
def Z.toD:Z->D
 | .p x=> .p x
 | .nils sz=> .nils sz
def Z.toP:Z->P
 | .p x=>x
 | .nils sz=> .sl sz []
structure TI where
 d:TD
 size:Nat
 bytes:Nat
 zero:List Z
 deriving Inhabited
def TI.isAgg (i:TI):Bool:=match i.d with | .struct _ | .arr _ _=>true |_=>false
structure Env where
 prog:Program
 tys:List (Option TI)
 globs:List (Nat×List P)
 nt:Nat
 owns:List (Nat×Nat×Nat):=[]
def Env.ty (E:Env) (t:Nat):Option TI:=match E.tys[t]? with |some (some i)=>some i |_=>none
def Env.td (E:Env) (t:Nat):Option TD:=match E.ty t with |some i=>some i.d |none=>none
def Env.elem (E:Env) (t:Nat):Option TI:=
 match E.ty t with
 |some {d:= .sl e, .. }=>E.ty e
 |_=>none
def Env.elemSize (E:Env) (t:Nat):Nat:=match E.elem t with |some te=>te.size |none=>0
def Env.keyTD (E:Env) (t:Nat):TD:=
 match E.ty t with
 |some {d:= .map k _, .. }=>(match E.td k with
  |some (.arr n e)=>(match E.td e with |some (.int .i64)=> .arr n 0 |_=> .other)
  |some d=>d
  |none=> .other)
 |_=> .other
def D.ofV (sz:Nat) (td:TD):Value->D
 | .bool b=> .p (.bool b)
 | .int k n=> .p (.int k n)
 | .string s=> .p (.str s.data.toList)
 | .slice none 0 0=> .nils sz
 | .pointer none=> .p .nilp
 | .map none=> .p (.map td [])
 | .nilFunc=> .p .nilfn
 |_=> .dead
def Env.glob (E:Env) (g:Nat):D:=match E.globs.find? (·.1 == g)with |some x=> .p (.ptr x.2) |none=> .dead
def ev (E:Env) (sl:Nat->D) (t:Nat):Operand->D
 | .tmp s=>sl s
 | .const v=> .ofV (E.elemSize t) (E.keyTD t) v
 | .global g=>E.glob g
 | .func f=> .p (.fn f [] [])
def Zj {a β:Type} (f:a->Option β):List a->Option (List β)
 | []=>some []
 |x::xs=>match f x,Zj f xs with
  |some y,some ys=>some (y::ys)
  |_,_=>none
def D.pure?:D->Option P
 | .p x=>some x
 |_=>none
def D.mkAgg (cs:List D):D:=match Zj D.pure? cs with |some a=> .p (.agg a) |none=> .agg cs
def D.toP (lk:Id->Option Obj):Nat->D->Option P
 |_,.p x=>some x
 |_,.nils sz=>some (.sl sz [])
 |_,.clip sz es=>some (.sl sz es)
 |_,.sl id off len=>match lk id with
  |some (.arr sz es _)=>some (.sl sz ((es.drop off).take len))
  |_=>none
 |_,.map id=>match lk id with
  |some (.map td kv)=>some (.map td kv)
  |_=>none
 |n+1,.agg cs=>(Zj (D.toP lk n) cs).map .agg
 |n+1,.ptr id i j=>match lk id with
  |some (.box cs)=>if i=0 then (Zj (D.toP lk n) (cs.drop j)).map .ptr else none
  |some (.arr _ es _)=>some (.ptr ((es.getD i default).cells.drop j))
  |_=>none
 |n+1,.fn f first caps=>match Zj (D.toP lk n) first,Zj (D.toP lk n) caps with
  |some a,some b=>some (.fn f a b)
  |_,_=>none
 |_,_=>none
def D.ids (lk:Id->Option Obj):Nat->D->List Id
 |_,.sl id _ _=>[id]
 |_,.map id=>[id]
 |_,.it id=>[id]
 |_,.rp _ id=>[id]
 |n+1,.agg cs=>cs.flatMap (D.ids lk n)
 |n+1,.tup vs=>vs.flatMap (D.ids lk n)
 |n+1,.ptr id _ j=>id::(match lk id with
  |some (.box cs)=>(cs.drop j).flatMap (D.ids lk n)
  |_=>[])
 |n+1,.fn _ first caps=>first.flatMap (D.ids lk n)++caps.flatMap (D.ids lk n)
 |0,.ptr id _ _=>[id]
 |_,_=>[]
def depth:Nat:=8
def ZfZ (c:BinOp) (k:IntKind) (x y:Int):Option Int:=
 let a:=BitVec.ofInt k.bits x
 let b:=BitVec.ofInt k.bits y
 match c with
 | .and=>some (k.wrap (a&&& b).toNat)
 | .or=>some (k.wrap (a|||b).toNat)
 | .xor=>some (k.wrap (a ^^^ b).toNat)
 | .andNot=>some (k.wrap (a&&& ~~~b).toNat)
 |_=>none
def Zls:Int->Bool
 | .ofNat m=>Nat.ble m 9223372036854775807
 | .negSucc m=>Nat.ble m 9223372036854775807
theorem Zkn {n:Int}:Zls n=true<->IntKind.i64.min<=n/\n<=IntKind.i64.max:=by
 have b:IntKind.i64.min= -9223372036854775808:=by decide
 have a:IntKind.i64.max=9223372036854775807:=by decide
 rw[b,a];cases n with
 |ofNat m=>
  show Nat.ble m 9223372036854775807=true<->_;grind[Nat.ble_eq]
 |negSucc m=>
  show Nat.ble m 9223372036854775807=true<->_;grind[Nat.ble_eq]
def ZaJ (k:IntKind) (n:Int):P×List Bool:=
 match k with
 | .i64=>(.int .i64 n,[Zls n])
 |k=>(.int k (k.wrap n),[])
def ZmN (op:BinOp) (k:IntKind) (x y:Int):Option (P×List Bool):=
 match op with
 | .add=>some (ZaJ k (x+y))
 | .sub=>some (ZaJ k (x - y))
 | .mul=>some (ZaJ k (x*y))
 | .quo=>some ((ZaJ k (x.tdiv y)).1,decide (y≠0)::(ZaJ k (x.tdiv y)).2)
 | .rem=>some (.int k (x.tmod y),[decide (y≠0)])
 | .eql=>some (.bool (x == y),[])
 | .neq=>some (.bool (x != y),[])
 | .lss=>some (.bool (x < y),[])
 | .leq=>some (.bool (x<=y),[])
 | .gtr=>some (.bool (x > y),[])
 | .geq=>some (.bool (x>=y),[])
 |op=>match ZfZ op k x y with
  |some n=>some (.int k n,[])
  |none=>none
def Zhg (a:BinOp) (k:IntKind) (x y:Int):Option (P×List Bool):=
 match a with
 | .shl=>some (.int k (k.wrap (x*2 ^ (min y.toNat k.bits))),[decide (0<=y)])
 | .shr=>some (.int k (x.fdiv (2 ^ (min y.toNat k.bits))),[decide (0<=y)])
 |_=>none
def Zr:Nat:=9223372036854775807
def Zmm (a:BinOp) (x y:List UInt8):Option (P×List Bool):=
 match a with
 | .add=>some (.str (x++y),[decide (x.length+y.length<=Zr)])
 | .eql=>some (.bool (x == y),[])
 | .neq=>some (.bool !(x == y),[])
 | .lss=>some (.bool (Op.bytesLess x y),[])
 | .leq=>some (.bool (Op.bytesLess x y||x == y),[])
 | .gtr=>some (.bool !(Op.bytesLess x y||x == y),[])
 | .geq=>some (.bool !(Op.bytesLess x y),[])
 |_=>none
def P.eqc:P->P->Option Bool
 | .bool a,.bool b=>some (a == b)
 | .int k a,.int k' b=>if k=k' then some (a == b)else none
 | .str a,.str b=>some (a == b)
 |_,_=>none
def P.eqcs:List P->List P->Option Bool
 | [],[]=>some true
 |x::xs,y::ys=>match P.eqc x y,P.eqcs xs ys with
  |some a,some b=>some (a&&b)
  |_,_=>none
 |_,_=>none
def P.eqv:P->P->Option Bool
 | .agg as,.agg bs=>P.eqcs as bs
 |x,y=>P.eqc x y
def Zm0 (op:BinOp):P->P->Option (P×List Bool)
 | .int k a,.int k' b=>
  match op with
  | .shl | .shr=>Zhg op k a b
  |op=>if k=k' then ZmN op k a b else none
 | .str a,.str b=>Zmm op a b
 |_,_=>none
def Zdi:TD->Operand->D->Option D
 | .ptr _,.const (.pointer none),d=>match d with
  | .p .nilp=>some (.p (.bool true))
  | .p (.ptr _) | .ptr _ _ _=>some (.p (.bool false))
  |_=>none
 | .func,.const .nilFunc,d=>match d with
  | .p .nilfn=>some (.p (.bool true))
  | .p (.fn _ _ _) | .fn _ _ _=>some (.p (.bool false))
  |_=>none
 | .sl _,.const (.slice none 0 0),d=>match d with
  | .nils _=>some (.p (.bool true))
  | .p (.sl _ es)=>some (if es.isEmpty then .anyb else .p (.bool false))
  | .sl _ _ len=>some (if len=0 then .anyb else .p (.bool false))
  |_=>none
 |_,_,_=>none
def Operand.isNil:Operand->Bool
 | .const (.pointer none) | .const (.slice none 0 0) | .const .nilFunc=>true
 |_=>false
def D.notb:D->Option D
 | .p (.bool b)=>some (.p (.bool !b))
 | .anyb=>some .anyb
 |_=>none
def ZkJ (c:BinOp) (a b:Bool):Option P:=
 match c with
 | .eql=>some (.bool (a == b))
 | .neq=>some (.bool !(a == b))
 |_=>none
def unop (a:UnOp):P->Option (P×List Bool)
 | .int k n=>match a with
  | .neg=>some (ZaJ k (0 - n))
  | .xor=>match ZfZ .xor k (if k.signed then -1 else k.max) n with
   |some m=>some (.int k m,[])
   |none=>none
  |_=>none
 | .bool b=>match a with
  | .not=>some (.bool !b,[])
  |_=>none
 |_=>none
def P.key (x y:P):Bool:=(P.eqv x y).getD false
def Zbq (a:List (P×P)) (k:P):Option P:=(a.find? fun e=>P.key k e.1).map (·.2)
def ZjD (a:List (P×P)) (k v:P):List (P×P):=
 if a.any (fun e=>P.key k e.1)then a.map fun e=>if P.key k e.1 then (e.1,v)else e else a++[(k,v)]
def ZkY (a:List (P×P)) (k:P):List (P×P):=a.filter fun e=> !P.key k e.1
def ZZ:TD->P->Bool
 | .bool,.bool _=>true
 | .int k,.int k' _=>k == k'
 | .str,.str _=>true
 |_,_=>false
def Zam:TD->P->Bool
 | .arr _ _,.agg [.int .i64 _,.int .i64 _]=>true
 |td,x=>ZZ td x
def TD.same:TD->TD->Bool
 | .bool,.bool=>true
 | .arr n e,.arr m e'=>n == 2&&m == 2&&e == 0&&e' == 0
 | .int k,.int k'=>k == k'
 | .str,.str=>true
 |_,_=>false
end Eng
namespace Eng
open Go
structure Eff where
 val:D
 new:List (Nat×Obj):=[]
 wr:List (Id×Obj):=[]
 frz:List Id:=[]
 cond:List Bool:=[]
def ZT {a:Type} (xs:List a) (j:Nat) (b:List a):List a:=xs.take j++b++xs.drop (j+b.length)
def ZeO (ep i:Nat):Nat->List D->List D
 |_,[]=>[]
 |k,.nils _::r=> .sl (ep,i,k) 0 0::ZeO ep i (k+1) r
 |k,d::r=>d::ZeO ep i (k+1) r
def ZU:Nat->List D->List (Nat×Obj)
 |_,[]=>[]
 |k,.nils sz::r=>(k,.arr sz [] false)::ZU (k+1) r
 |k,_::r=>ZU (k+1) r
@[simp] theorem ZdG (k:Nat) (a:List D):∀m o,(m,o)∈ZU k a->o.isOwn=false:=by
 intro m o
 induction a generalizing k with
 |nil=>simp[ZU]
 |cons d r b=>cases d<;>simp only[ZU,ZnD,ZnP]<;>first |exact b _ |(rintro(⟨_,rfl⟩ |h)<;>first |rfl |grind)
def ZaW (E:Env) (f:Nat->Option (List TD)) (c:Nat):Nat->List (Nat×Nat)->Option (List TD)
 |off,[]=>if off=c then some []else none
 |off,(o,t)::r=>if o=off then match f t,E.ty t with
   |some a,some ti=>if a.length=ti.size then match ZaW E f c (off+ti.size) r with
    |some b=>some (a++b)
    |none=>none
    else none
   |_,_=>none
  else none
def Zbf (E:Env):Nat->Nat->Option (List TD)
 |0,_=>none
 |n+1,t=>match E.ty t with
  |some ti=>match ti.d with
   | .bool=>some [.bool]
   | .int k=>some [.int k]
   | .str=>some [.str]
   | .struct fs=>ZaW E (Zbf E n) ti.size 0 fs
   |_=>none
  |none=>none
def eqt:List TD->List P->List P->Option Bool
 | [],[],[]=>some true
 |td::r,x::xs,y::ys=>if ZZ td x&&ZZ td y then match P.eqc x y,eqt r xs ys with
   |some a,some b=>some (a&&b)
   |_,_=>none
  else none
 |_,_,_=>none
def Zm6 (E:Env) (a:BinOp) (t:Nat) (u v:List P):Option P:=
 match E.td t,Zbf E depth t with
 |some (.struct _),some tds=>match a,eqt tds u v with
  | .eql,some b=>some (.bool b)
  | .neq,some b=>some (.bool !b)
  |_,_=>none
 |_,_=>none
def TI.part (E:Env) (ti:TI) (i:Nat):Option (Nat×Nat):=
 match ti.d with
 | .struct fs=>fs[i]?
 | .arr _ e=>match E.ty e with |some te=>some (i*te.size,e) |none=>none
 |_=>none
def Zb4 (E:Env) (sl:Nat->D) (ti:TI):List (Nat×Operand)->List D->Option (List D)
 | [],cs=>some cs
 |(i,x)::r,cs=>match ti.part E i with
  |some (off,t)=>match E.ty t with
   |some b=>let a:=(ev E sl t x).cells
    if a.length=b.size/\off+a.length<=cs.length/\(ev E sl t x).okv=true then Zb4 E sl ti r (ZT cs off a)else none
   |none=>none
  |none=>none
def ZH (E:Env) (sl:Nat->D) (lk:Id->Option Obj) (t:Nat) (te:TI):List (Nat×Operand)->List P->Option (List P)
 | [],es=>some es
 |(i,x)::r,es=>match (ev E sl t x).toP lk depth with
  |some y=>if y.cells.length=te.size/\i < es.length then ZH E sl lk t te r (es.set i y)else none
  |none=>none
def TI.zeroP (ti:TI):P:=if ti.isAgg then .agg (ti.zero.map Z.toP)else (ti.zero.map Z.toP).headD default
def Zc4 (E:Env) (sl:Nat->D) (lk:Id->Option Obj) (t:Nat) (xs:List (Nat×Operand)):List Id:=xs.flatMap fun x=>(ev E sl t x.2).ids lk depth
def Zdp (ti:TI) (cs:List P):Option P:=
 if ti.isAgg then (if ti.size<=cs.length then some (.agg (cs.take ti.size))else none)
 else cs.head?
def ZfK (ti:TI) (cs:List D):Option D:=
 if ti.isAgg then (if ti.size<=cs.length then some (.mkAgg (cs.take ti.size))else none)
 else cs.head?
def P.put (e:P) (sz j:Nat) (x:P):P:=
 if j=0/\x.cells.length=sz then x
 else match e with
  | .agg cs=> .agg (ZT cs j x.cells)
  |_=>x
def ZaV (lk:Id->Option Obj) (sz:Option Nat) (x:D) (lo hi mx:Option Int):Option Eff:=
 match sz,x with
 |none,.p (.str s)=>match mx with
  |some _=>none
  |none=>some {val:= .p (.str ((s.take (hi.getD s.length).toNat).drop (lo.getD 0).toNat)),cond:=[decide (0<=lo.getD 0/\lo.getD 0<=hi.getD s.length/\hi.getD s.length<=s.length)]}
 |some sz',.p (.sl sz es)=>if sz=sz' then match mx,hi with
  |none,_=>some {val:= .p (.sl sz ((es.take (hi.getD es.length).toNat).drop (lo.getD 0).toNat)),cond:=[decide (0<=lo.getD 0/\lo.getD 0<=hi.getD es.length/\hi.getD es.length<=es.length)]}
  |some m,some h=>some {val:= .clip sz ((es.take h.toNat).drop (lo.getD 0).toNat),cond:=[decide (0<=lo.getD 0/\lo.getD 0<=h/\h<=es.length/\m=h)]}
  |_,_=>none
  else none
 |some sz',.sl id off len=>match lk id with
  |some (.arr sz es _)=>if sz=sz' then match mx,hi with
   |none,_=>some {val:= .sl id (off+(lo.getD 0).toNat) ((hi.getD len).toNat - (lo.getD 0).toNat),cond:=[decide (0<=lo.getD 0/\lo.getD 0<=hi.getD len/\hi.getD len<=len)]}
   |some m,some h=>some {val:= .clip sz ((es.drop (off+(lo.getD 0).toNat)).take (h.toNat - (lo.getD 0).toNat)),frz:=[id],cond:=[decide (0<=lo.getD 0/\lo.getD 0<=h/\h<=len/\m=h)]}
   |_,_=>none
   else none
  |_=>none
 |some _,.nils sz=>match mx with
  |none=>some {val:= .nils sz,cond:=[decide (lo.getD 0=0/\hi.getD 0=0)]}
  |some _=>none
 |_,_=>none
def Zb1 (E:Env) (sl:Nat->D):Option Operand->Option (Option Int)
 |none=>some none
 |some x=>match ev E sl 0 x with
  | .p (.int _ n)=>some (some n)
  |_=>none
def Zf4 (lk:Id->Option Obj):TD->D->Option (Nat×List Bool)
 | .arr n _,_=>some (n,[n<=Zr])
 | .str,.p (.str s)=>some (s.length,[])
 | .sl _,.p (.sl _ es)=>some (es.length,[])
 | .sl _,.clip _ es=>some (es.length,[])
 | .sl _,.nils _=>some (0,[])
 | .sl _,.sl _ _ len=>some (len,[])
 | .map _ _,.p (.map _ a)=>some (a.length,[decide (a.length<=Zr)])
 | .map _ _,.map id=>match lk id with |some (.map _ a)=>some (a.length,[decide (a.length<=Zr)]) |_=>none
 |_,_=>none
def ZfI (lk:Id->Option Obj):D->Option (TD×List (P×P))
 | .p (.map td a)=>some (td,a)
 | .map id=>match lk id with |some (.map td a)=>some (td,a) |_=>none
 |_=>none
def ZD:Nat:=140737488355328
def ZaR (s:List UInt8):List P:=s.map fun b=> .int .u8 b.toNat
def ZcP (lk:Id->Option Obj) (sz:Nat) (x:D):Option (List P):=
 match x with
 | .p (.str s)=>if sz=1 then some (ZaR s)else none
 |x=>match x.toP lk 1 with
  |some (.sl sz' es)=>if sz'=sz then some es else none
  |_=>none
def Zab (lk:Id->Option Obj) (ep i:Nat) (te:TI) (s:D) (xs:List P):Option Eff:=
 match s with
 | .nils _=>some {val:= .sl (ep,i,0) 0 xs.length,new:=[(0,.arr te.size xs false)],cond:=[decide (xs.length*max te.bytes 1<=ZD)]}
 | .clip sz es=>if sz=te.size then
   some {val:= .sl (ep,i,0) 0 (es.length+xs.length),new:=[(0,.arr te.size (es++xs) false)],cond:=[decide (xs.isEmpty=false/\(es.length+xs.length)*max te.bytes 1<=ZD)]}else none
 | .sl id 0 len=>match lk id with
  |some (.arr sz es false)=>if sz=te.size then
    some {val:= .sl (ep,i,0) 0 (len+xs.length),new:=[(0,.arr te.size (es.take len++xs) false)],wr:=[(id,.gone)],cond:=[decide ((len+xs.length)*max te.bytes 1<=ZD)]}else none
  |_=>none
 |_=>none
def ZaT (lk:Id->Option Obj) (ep i:Nat) (te:TI) (s x:D):Option Eff:=
 match ZcP lk te.size x with
 |none=>none
 |some xs=>Zab lk ep i te s xs
def ZfW (lk:Id->Option Obj) (te:TI) (d s:D):Option Eff:=
 match d with
 | .sl id a len=>match lk id with
  |some (.arr sz es fix)=>match ZcP lk sz s with
   |some xs=>if sz=te.size then
     some {val:= .p (.int .i64 (min xs.length len:Nat)),wr:=[(id,.arr sz (ZT es a (xs.take (min xs.length len))) fix)]}else none
   |none=>none
  |_=>none
 |_=>none
def maxP:List D->Option P
 | [.p (.int k a),.p (.int k' b)]=>if k=k' then some (.int k (if b > a then b else a))else none
 | [.p (.int k a),.p (.int k' b),.p (.int k'' c)]=>if k=k'/\k=k'' then some (.int k (if c > (if b > a then b else a)then c else (if b > a then b else a)))else none
 |_=>none
def minP:List D->Option P
 | [.p (.int k a),.p (.int k' b)]=>if k=k' then some (.int k (if b < a then b else a))else none
 | [.p (.int k a),.p (.int k' b),.p (.int k'' c)]=>if k=k'/\k=k'' then some (.int k (if c < (if b < a then b else a)then c else (if b < a then b else a)))else none
 |_=>none
def ZY (E:Env) (sl:Nat->D):List Operand->List Nat->List D
 | [],_=>[]
 |x::xs,[]=>ev E sl 0 x::ZY E sl xs []
 |x::xs,t::ts=>ev E sl t x::ZY E sl xs ts
def Zii (E:Env) (lk:Id->Option Obj):List Nat->List D->Option Eff
 | [t],[d]=>match E.td t with
  |some td=>match Zf4 lk td d with
   |some (n,c)=>some {val:= .p (.int .i64 n),cond:=c}
   |none=>none
  |none=>none
 |_,_=>none
def Zcm (E:Env) (ep i:Nat) (lk:Id->Option Obj):List Nat->List D->Option Eff
 | [t,u],[s,x]=>match E.elem t,E.td u with
  |some te,some (.sl _)=>ZaT lk ep i te s x
  |some te,some .str=>ZaT lk ep i te s x
  |some te,some (.int _)=>match x with
   | .p (.int .i64 a)=>if 0<=a then Zab lk ep i te s (ZnG a.toNat te.zeroP)else none
   |_=>none
  |_,_=>none
 |_,_=>none
def Zjl (E:Env) (lk:Id->Option Obj):List Nat->List D->Option Eff
 |t::_,[d,s]=>match E.elem t with
  |some te=>ZfW lk te d s
  |none=>none
 |_,_=>none
def Zek (E:Env) (lk:Id->Option Obj):List Nat->List D->Option Eff
 |t::_,[.map id,k]=>match E.td t,lk id,k.toP lk 1 with
  |some (.map _ _),some (.map td kv),some kp=>if (E.keyTD t).same td&&Zam td kp then some {val:= .undef,wr:=[(id,.map td (ZkY kv kp))]}else none
  |_,_,_=>none
 |_,_=>none
def ZO (E:Env) (ep i:Nat) (lk:Id->Option Obj) (b:Builtin) (a:List Nat) (c:List D):Option Eff:=
 match b with
 | .len=>Zii E lk a c
 | .append=>Zcm E ep i lk a c
 | .copy=>Zjl E lk a c
 | .max=>match maxP c with
  |some x=>some {val:= .p x}
  |none=>none
 | .min=>match minP c with
  |some x=>some {val:= .p x}
  |none=>none
 | .delete=>Zek E lk a c
 |_=>none
def P.isU8:P->Bool
 | .int .u8 _=>true
 |_=>false
def P.byte:P->UInt8
 | .int _ n=>UInt8.ofNat n.toNat
 |_=>0
def ZaD (E:Env) (ep i:Nat) (lk:Id->Option Obj) (s t:Nat) (x:D):Option Eff:=
 match E.td s,E.td t,x with
 |some (.int _),some (.int k),.p (.int _ n)=>some {val:= .p (.int k (k.wrap n))}
 |some .str,some .str,.p (.str s)=>some {val:= .p (.str s)}
 |some .str,some (.sl e),.p (.str s)=>match E.td e with
  |some (.int .u8)=>some {val:= .sl (ep,i,0) 0 s.length,new:=[(0,.arr 1 (ZaR s) false)],cond:=[decide (s.length<=281474976710656)]}
  |_=>none
 |some (.sl e),some .str,x=>match E.td e,x.toP lk 1 with
  |some (.int .u8),some (.sl _ es)=>some {val:= .p (.str (es.map P.byte)),cond:=[es.all P.isU8]}
  |_,_=>none
 |_,_,_=>none
def Z6 (E:Env) (sl:Nat->D) (lk:Id->Option Obj) (t:Nat) (m k v:Operand):Option Eff:=
 match E.ty t with
 |some {d:= .map kt vt, .. }=>match ev E sl 0 m with
  | .map id=>match lk id,(ev E sl kt k).toP lk 1,(ev E sl vt v).toP lk depth with
   |some (.map td kv),some kp,some vp=>if (E.keyTD t).same td&&Zam td kp then some {val:= .undef,wr:=[(id,.map td (ZjD kv kp vp))],frz:=(ev E sl vt v).ids lk depth}else none
   |_,_,_=>none
  |_=>none
 |_=>none
def Zf (E:Env) (ep i:Nat) (A:Op) (ty:Nat) (sl:Nat->D) (lk:Id->Option Obj):Option Eff:=
 match A with
 | .move x=>some {val:=ev E sl ty x}
 | .assign x=>match ev E sl ty x with
  | .nils sz=>some {val:= .sl (ep,i,0) 0 0,new:=[(0,.arr sz [] false)]}
  |d=>some {val:=d}
 | .pick c a b=>match ev E sl ty c with
  | .p (.bool x)=>some {val:=if x then ev E sl ty a else ev E sl ty b}
  |_=>none
 | .alloc t=>match E.ty t with
  |some ti=>let o:=ti.zero.map Z.toD
   some {val:= .ptr (ep,i,0) 0 0,new:=(0,.box (ZeO ep i 1 o))::ZU 1 o}
  |none=>none
 | .box t x=>match E.ty t with
  |some ti=>let o:=(ev E sl t x).cells
   if o.length=ti.size/\(ev E sl t x).okv=true then some {val:= .ptr (ep,i,0) 0 0,new:=(0,.box (ZeO ep i 1 o))::ZU 1 o}else none
  |none=>none
 | .build t g=>match E.ty t with
  |some ti=>if ti.isAgg then match Zb4 E sl ti g.toList (ti.zero.map Z.toD)with
   |some cs=>some {val:= .mkAgg cs}
   |none=>none
   else none
  |none=>none
 | .buildSlice t n g=>match E.ty t with
  |some {d:= .sl e, .. }=>match E.ty e with
   |some te=>match ZH E sl lk e te g.toList (ZnG n te.zeroP)with
    |some es=>if n*te.size<=16777216/\n<=16777216 then some {val:= .sl (ep,i,0) 0 n,new:=[(0,.arr te.size es false)],frz:=Zc4 E sl lk e g.toList}else none
    |none=>none
   |none=>none
  |_=>none
 | .load t a=>match E.ty t with
  |some ti=>match ev E sl 0 a with
   | .p (.ptr cs)=>match Zdp ti cs with
    |some x=>some {val:= .p x}
    |none=>none
   | .ptr id i' j=>match lk id with
    |some (.box cs)=>if i'=0 then match ZfK ti (cs.drop j)with
     |some d=>some {val:=d}
     |none=>none
     else none
    |some (.arr _ es _)=>match Zdp ti ((es.getD i' default).cells.drop j)with
     |some x=>some {val:= .p x}
     |none=>none
    |some (.own sz c k es lo out)=>match es[i']? with
     |some (.agg cs)=>if lo<=i' then match Zdp ti (cs.drop j)with
       |some x=>some {val:= .p x}
       |none=>none
      else match out,cs[c]? with
      |none,some (.sl k' l)=>if j=c/\k'=k/\ti.size=1/\ti.isAgg=false then some {val:= .sl (ep,i,0) 0 l.length,new:=[(0,.arr k l false)],wr:=[(id,.own sz c k es lo (some i'))]}else none
      |_,_=>none
     |_=>none
    |_=>none
   | .rp none id=>if ti.size=1/\ti.isAgg=false then some {val:= .map id}else none
   |_=>none
  |none=>none
 | .store t a x=>match E.ty t with
  |some ti=>match ev E sl 0 a with
   | .ptr id i' j=>match lk id with
    |some (.box cs)=>let o:=(ev E sl t x).cells
     if i'=0/\o.length=ti.size/\j+o.length<=cs.length/\(ev E sl t x).okv=true then
      some {val:= .undef,new:=ZU 0 o,wr:=[(id,.box (ZT cs j (ZeO ep i 0 o)))]}else none
    |some (.arr sz es fix)=>match (ev E sl t x).toP lk depth with
     |some y=>if y.cells.length=ti.size/\j+ti.size<=sz/\0 < ti.size then
       some {val:= .undef,wr:=[(id,.arr sz (es.set i' ((es.getD i' default).put sz j y)) fix)],frz:=(ev E sl t x).ids lk depth}else none
     |none=>none
    |some (.own sz c k es lo out)=>match ev E sl t x with
     | .sl q 0 len=>match lk q,es[i']? with
      |some (.arr k' l false),some (.agg cs)=>if (out=some i'/\i' < lo\/out=none/\lo=i')/\j=c/\k'=k/\len=l.length/\ti.size=1/\ti.isAgg=false/\q≠id then
        some {val:= .undef,wr:=[(id,.own sz c k (es.set i' (.agg (cs.set c (.sl k l)))) (loUp out lo) none),(q,.gone)]}else none
      |_,_=>none
     |_=>none
    |_=>none
   |_=>none
  |none=>none
 | .nilCheck x=>match ev E sl 0 x with
  | .p (.ptr cs)=>some {val:= .p (.ptr cs)}
  | .ptr id i' j=>some {val:= .ptr id i' j}
  | .p (.fn f a b)=>some {val:= .p (.fn f a b)}
  | .fn f a b=>some {val:= .fn f a b}
  | .rp x id=>some {val:= .rp x id}
  |_=>none
 | .binOp b t x y _=>
  if Operand.isNil y then
   match E.td t with
   |some td=>match b,Zdi td y (ev E sl 0 x)with
    | .eql,some d=>some {val:=d}
    | .neq,some d=>match d.notb with
     |some d=>some {val:=d}
     |none=>none
    |_,_=>none
   |none=>none
  else match ev E sl 0 x,ev E sl 0 y with
   | .p (.bool u),.p (.bool v)=>match E.td t,ZkJ b u v with
    |some .bool,some z=>some {val:= .p z}
    |_,_=>none
   | .p (.agg u),.p (.agg v)=>match Zm6 E b t u v with
     |some z=>some {val:= .p z}
     |none=>none
   | .p u,.p v=>match Zm0 b u v with
    |some (z,c)=>some {val:= .p z,cond:=c}
    |none=>none
   |_,_=>none
 | .unOp u _ x=>match ev E sl 0 x with
  | .p v=>match unop u v with
   |some (z,c)=>some {val:= .p z,cond:=c}
   |none=>none
  |_=>none
 | .convert s t x=>ZaD E ep i lk s t (ev E sl 0 x)
 | .makeFunc (.func f) first caps=>
  some {val:=match Zj D.pure? (first.toList.map (ev E sl 0)),Zj D.pure? (caps.toList.map (ev E sl 0))with
   |some a,some b=> .p (.fn f a b)
   |_,_=> .fn f (first.toList.map (ev E sl 0)) (caps.toList.map (ev E sl 0))}
 | .makeMap t none=>some {val:= .map (ep,i,0),new:=[(0,.map (E.keyTD t) [])]}
 | .makeSlice t l c=>match E.elem t,ev E sl 0 l,ev E sl 0 c with
  |some te,.p (.int _ a),.p (.int _ b)=>match E.owns.find? (·.1 == t)with
   |some (_,c,k)=>if te.isAgg=true/\c < te.size then match te.zero[c]? with
     |some (.nils k')=>if k'=k then some {val:= .sl (ep,i,0) 0 a.toNat,new:=[(0,.own te.size c k (ZnG a.toNat te.zeroP) a.toNat none)],cond:=[decide (0<=a/\a<=b/\b*te.bytes<=ZD/\b<=ZD)]}else none
     |_=>none
    else none
   |none=>some {val:= .sl (ep,i,0) 0 a.toNat,new:=[(0,.arr te.size (ZnG a.toNat te.zeroP) false)],cond:=[decide (0<=a/\a<=b/\b*te.bytes<=ZD/\b<=ZD)]}
  |_,_,_=>none
 | .slice t x lo hi mx=>
  match (match E.td t with |some .str=>some none |some (.sl e)=>(match E.ty e with |some te=>some (some te.size) |none=>none) |_=>none),
    Zb1 E sl lo,Zb1 E sl hi,Zb1 E sl mx with
  |some sz,some a,some b,some c=>ZaV lk sz (ev E sl 0 x) a b c
  |_,_,_,_=>none
 | .fieldAddr t x f=>match E.ty t with
  |some {d:= .struct fs, .. }=>match fs[f]? with
   |some (h,ft)=>match E.ty ft with
    |some p=>if p.size=0 then none else match ev E sl 0 x with
     | .p (.ptr cs)=>some {val:= .p (.ptr (cs.drop h))}
     | .ptr id i' j=>some {val:= .ptr id i' (j+h)}
     | .rp (some x) id=>match h with
      |0=>some {val:= .p (.ptr [x])}
      |1=>some {val:= .rp none id}
      |_=>none
     |_=>none
    |none=>none
   |none=>none
  |_=>none
 | .field t x f=>match E.ty t with
  |some {d:= .struct fs, .. }=>match fs[f]? with
   |some (h,ft)=>match E.ty ft,ev E sl 0 x with
    |some p,.p (.agg cs)=>if p.size=0 then none else (Zdp p (cs.drop h)).map fun y=>{val:= .p y}
    |some p,.agg cs=>if p.size=0 then none else (ZfK p (cs.drop h)).map fun y=>{val:=y}
    |_,_=>none
   |none=>none
  |_=>none
 | .indexAddr t x r=>match ev E sl 0 r with
  | .p (.int _ n)=>match E.ty t with
   |some {d:= .sl e, .. }=>match E.ty e with
    |some te=>match ev E sl 0 x with
     | .p (.sl sz es)=>if sz=te.size then some {val:= .p (.ptr (es.getD n.toNat default).cells),cond:=[decide (0<=n/\n < es.length)]}else none
     | .sl id h len=>match lk id with
      |some (.arr sz _ _)=>if sz=te.size then some {val:= .ptr id (h+n.toNat) 0,cond:=[decide (0<=n/\n < len)]}else none
      |some (.own sz _ _ _ _ _)=>if sz=te.size then some {val:= .ptr id (h+n.toNat) 0,cond:=[decide (0<=n/\n < len)]}else none
      |_=>none
     |_=>none
    |none=>none
   |some {d:= .arr m e, .. }=>match E.ty e with
    |some te=>match ev E sl 0 x with
     | .p (.ptr cs)=>some {val:= .p (.ptr (cs.drop (n.toNat*te.size))),cond:=[decide (0<=n/\n < m)]}
     | .ptr id i' j=>some {val:= .ptr id i' (j+n.toNat*te.size),cond:=[decide (0<=n/\n < m)]}
     |_=>none
    |none=>none
   |_=>none
  |_=>none
 | .index t x r=>match ev E sl 0 r with
  | .p (.int _ n)=>match ev E sl 0 x with
   | .p (.str s)=>match E.td t with
    |some .str=>some {val:= .p (.int .u8 (s.getD n.toNat 0).toNat),cond:=[decide (0<=n/\n < s.length)]}
    |_=>none
   |_=>none
  |_=>none
 | .lookup t m k w=>match E.ty t with
  |some {d:= .map kt e, .. }=>match E.ty e,ZfI lk (ev E sl 0 m),(ev E sl kt k).toP lk 1 with
   |some te,some (td,kv),some kp=>if (E.keyTD t).same td&&Zam td kp then
     some {val:=match Zbq kv kp with
      |some v=>if w then .tup [.p v,.p (.bool true)]else .p v
      |none=>if w then .tup [.p te.zeroP,.p (.bool false)]else .p te.zeroP}else none
   |_,_,_=>none
  |_=>none
 | .mapUpdate t m k v=>Z6 E sl lk t m k v
 | .insert t m k v=>Z6 E sl lk t m k v
 | .range t x=>match E.td t,ev E sl 0 x with
  |some .str,.p (.str s)=>some {val:= .it (ep,i,0),new:=[(0,.sit s 0)]}
  |_,_=>none
 | .next it true=>match ev E sl 0 it with
  | .it id=>match lk id with
   |some (.sit s pos)=>if pos < s.length then
     some {val:= .tup [.p (.bool true),.p (.int .i64 pos),.p (.int .i32 (Utf8.decode ⟨s.toArray⟩ pos).1)],wr:=[(id,.sit s (pos+(Utf8.decode ⟨s.toArray⟩ pos).2))]}
    else some {val:= .tup [.p (.bool false)]}
   |_=>none
  |_=>none
 | .extract x r=>match ev E sl 0 x with
  | .tup vs=>(vs[r]?).map fun d=>{val:=d}
  |_=>none
 | .call {callee:= .builtin b,args,argTypes}=>ZO E ep i lk b argTypes.toList (ZY E sl args.toList argTypes.toList)
 |_=>none
end Eng
namespace Eng
open Go
def St.app (a:St) (i:Nat) (dst:Option Nat) (e:Eff):St:=
 (((a.objL e.wr).objL (e.new.map fun x=>((a.ep,i,x.1),x.2))).freezeL e.frz).setO dst e.val
def Zdu (a:St) (e:Eff):Bool:=(e.wr.all fun x=> !a.fz x.1)&&e.frz.all fun f=>e.wr.all fun x=>decide (x.1≠f)
inductive Item where
 |c (c:Code)
 |ops (a:Array Oper) (i:Nat)
 |blk (id:Nat)
 |lp (c:Code)
def Zaw (id:Nat):List Item->Option (List Item)
 | .blk j::k=>if j=id then some k else Zaw id k
 |_::k=>Zaw id k
 | []=>none
def ZX (ops:Array Oper) (a:St):Option (Nat×Bool)->Option Bool
 |none=>some true
 |some (g,w)=>match (ops[g]?).bind (·.dst)with
  |some t=>match a.slots t with
   | .p (.bool b)=>some (b == w)
   | .undef=>some false
   |_=>none
  |none=>some false
def ZE:Operand->Bool
 | .const (.int k n)=>decide (k.min<=n/\n<=k.max)
 | .const (.string s)=>decide (s.data.size<=Zr)
 |_=>true
def Zdq (E:Env) (o:Oper):Bool:=match o.dst with |some d=>decide (d < E.nt) |none=>true
def ZfB (E:Env) (o:Oper):Bool:=Zdq E o&&o.op.operands.all ZE
def runOp (E:Env) (i:Nat) (o:Oper) (a:St):Option (St×List Bool):=
 match Zf E a.ep i o.op o.type a.slots a.objs with
 |some e=>if Zdu a e&&ZfB E o then some (a.app i o.dst e,e.cond)else none
 |none=>none
def run (E:Env):Nat->List Item->St->List Bool->Option (List Item×St×List Bool)
 |0,k,st,d=>some (k,st,d)
 |n+1,.c c::k,st,d=>match c with
  | .skip=>run E n k st d
  | .seq a b=>run E n (.c a:: .c b::k) st d
  | .block id b=>run E n (.c b:: .blk id::k) st d
  | .region _ ops false=>run E n (.ops ops 0::k) st d
  | .loop c=>run E n (.c c:: .lp c::k) st d
  | .cond c a b=>if ZE c then match ev E st.slots 0 c with
   | .p (.bool true)=>run E n (.c a::k) st d
   | .p (.bool false)=>run E n (.c b::k) st d
   |_=>none
   else none
  | .exit id=>match Zaw id k with
   |some k=>run E n k st d
   |none=>none
  |_=>none
 |n+1,.blk _::k,st,d=>run E n k st d
 |n+1,.lp c::k,st,d=>run E n (.c c:: .lp c::k) st d
 |n+1,.ops ops i::k,st,d=>match ops[i]? with
  |none=>run E n k st.next d
  |some o=>match ZX ops st o.guard with
   |some true=>match runOp E i o st with
    |some (st',qs)=>run E n (.ops ops (i+1)::k) st' (d++qs)
    |none=>none
   |some false=>if Zdq E o then run E n (.ops ops (i+1)::k) (st.setO o.dst .undef) d else none
   |none=>none
 |_+1,[],_,_=>none
def Zaz {c β:Type} [DecidableEq c] (d:β):List (c×β)->c->β
 | [],_=>d
 |(a,b)::r,x=>if x=a then b else Zaz d r x
def Zg {c β:Type} [DecidableEq c]:List (c×β)->c->Option β
 | [],_=>none
 |(a,b)::r,x=>if x=a then some b else Zg r x
end Eng
namespace Eng
open Go
def Zbp (v:Value):Prop:=v.oneCell'=true
def ZbM (S:Nat->Prop) (w w':World):Prop:=∀b,S b->b < w.heap.size->w'.heap[b]? =w.heap[b]?
def Z9:Nat:=281474976710656
inductive RelP (w:World) (S:Nat->Prop):Value->P->Prop
 |bool (b:Bool):RelP w S (.bool b) (.bool b)
 |int (k:IntKind) (n:Int) (h0:k.min<=n) (h1:n<=k.max):RelP w S (.int k n) (.int k n)
 |str (s:List UInt8) (h:s.length<=Zr):RelP w S (.string ⟨s.toArray⟩) (.str s)
 |agg (vs:Array Value) (cs:List P) (hl:vs.size=cs.length) (h1:∀(i:Nat) v,vs[i]? =some v->Zbp v)
   (h:∀(i:Nat) v c,vs[i]? =some v->cs[i]? =some c->RelP w S v c):RelP w S (.agg vs) (.agg cs)
 |sl (a:Option Addr) (len cap sz:Nat) (es:List P) (evs:Nat->Value) (hl:es.length=len) (hm:len<=Z9) (hc:len<=cap)
   (hsz:∀i,i < len->(evs i).cells.size=sz)
   (hcell:∀i,i < len->∃b o,a=some ⟨b,o,none⟩/\S b/\∀j v,(evs i).cells[j]? =some v->w.cell? ⟨b,o+i*sz+j,none⟩=some v)
   (h:∀(i:Nat) e,es[i]? =some e->RelP w S (evs i) e):RelP w S (.slice a len cap) (.sl sz es)
 |nilp:RelP w S (.pointer none) .nilp
 |ptr (b o:Nat) (cs:List P) (vs:Nat->Value) (hS:S b) (hcell:∀(j:Nat) c,cs[j]? =some c->w.cell? ⟨b,o+j,none⟩=some (vs j))
   (h1:∀(j:Nat) c,cs[j]? =some c->Zbp (vs j)) (h:∀(j:Nat) c,cs[j]? =some c->RelP w S (vs j) c):RelP w S (.pointer (some ⟨b,o,none⟩)) (.ptr cs)
 |nilmap (td:TD):RelP w S (.map none) (.map td [])
 |map (td:TD) (r:Nat) (es:Array MapEntry) (clock:Nat) (kv kv':List (P×P)) (hS:S r) (hb:w.heap[r]? =some (.map es clock)) (hp:kv'.Perm kv)
   (hl:es.size=kv'.length) (hk:∀(i:Nat) e q,es[i]? =some e->kv'[i]? =some q->RelP w S e.key q.1)
   (hv:∀(i:Nat) e q,es[i]? =some e->kv'[i]? =some q->RelP w S e.val q.2)
   (hd:kv'.Pairwise fun a b=>P.key a.1 b.1=false) (hkey:∀q∈kv',Zam td q.1=true)
   (hborn:∀(i:Nat) e,es[i]? =some e->e.born < clock) (hbd:∀(i j:Nat) e e',es[i]? =some e->es[j]? =some e'->e.born=e'.born->i=j):
   RelP w S (.map (some r)) (.map td kv)
 |fn (f:Nat) (fs cs:Array Value) (a b:List P) (hf:fs.size=a.length) (hc:cs.size=b.length)
   (h:∀(i:Nat) v x,fs[i]? =some v->a[i]? =some x->RelP w S v x) (h':∀(i:Nat) v x,cs[i]? =some v->b[i]? =some x->RelP w S v x):
   RelP w S (.func (.func f) fs cs) (.fn f a b)
 |nilfn:RelP w S .nilFunc .nilfn
theorem ZS {w w':World} {b o:Nat} (h:w'.heap[b]? =w.heap[b]?):w'.cell? ⟨b,o,none⟩=w.cell? ⟨b,o,none⟩:=by simp[World.cell?,h]
theorem ZhN {w:World} {b o:Nat} {v:Value} (h:w.cell? ⟨b,o,none⟩=some v):b < w.heap.size:=World.block_lt_of_cell? w ⟨b,o,none⟩ h
theorem Zd8 {w:World} {b:Nat} {x:Go.Obj} (h:w.heap[b]? =some x):b < w.heap.size:=(Znq.1 h).1
theorem ZaQ {w w':World} {b o:Nat} (h:w'.heap[b]? =w.heap[b]?):w'.frozen? ⟨b,o,none⟩=w.frozen? ⟨b,o,none⟩:=by simp[World.frozen?,h]
theorem RelP.mono {w w':World} {S S':Nat->Prop} (y:ZbM S w w') (F:∀b,S b->S' b) {v:Value} {x:P} (h:RelP w S v x):RelP w' S' v x:=by
 induction h with
 |bool b=>exact .bool b
 |int k n M t=>exact .int k n M t
 |str s h=>exact .str s h
 |agg vs cs p t _ l=>exact .agg vs cs p t l
 |sl a len cap sz es evs p N E C d _ l=>
  exact .sl a len cap sz es evs p N E C (fun i hi=>by obtain⟨b,o,H,e,L⟩:=d i hi;exact⟨b,o,H,F b e,fun j v B=>by rw[ZS (y b e (ZhN (L j v B)))];simp_all⟩) l
 |nilp=>exact .nilp
 |ptr b o cs vs e d t _ l=>exact .ptr b o cs vs (F b e) (fun j c B=>by rw[ZS (y b e (ZhN (d j c B)))];simp_all) t l
 |nilmap td=>exact .nilmap td
 |map td r es m I u e K O p _ _ J q g D G A=>exact .map td r es m I u (F r e) (by rw[y r e (Zd8 K)];omega) O p G A J q g D
 |fn f fs cs a b Q E _ _ l z=>exact .fn f fs cs a b Q E l z
 |nilfn=>exact .nilfn
theorem RelP.size {w:World} {S:Nat->Prop} {v:Value} {x:P} (h:RelP w S v x):v.cells.size=x.cells.length:=by cases h<;>simp_all [Value.cells,P.cells]
theorem RelP.cell {w:World} {S:Nat->Prop} {v:Value} {x:P} (h:RelP w S v x) {j:Nat} {u:Value} {c:P} (a:v.cells[j]? =some u) (b:x.cells[j]? =some c):
  RelP w S u c/\Zbp u:=by
 cases h with
 |agg vs cs e d h=>exact⟨h j u c a b,d j u a⟩
 |_=>
  simp only[Value.cells,P.cells]at a b;cases j with
  |succ j=>simp at a
  |zero=>
   simp only[Zny,ZnO]at a b;simp only[List.getElem?_toArray,Zny,ZnO]at a;subst a b;refine⟨?_,by simp[Zbp,Value.oneCell']⟩;constructor<;>assumption
structure Lay where
 blk:Option Nat
 base:Nat
 sz:Nat
 len:Nat
 cap:Nat
inductive RelD (w:World) (S:Nat->Prop) (ρ:Id->Option Lay):Value->D->Prop
 |p (v:Value) (x:P) (h:RelP w S v x):RelD w S ρ v (.p x)
 |dead (v:Value):RelD w S ρ v .dead
 |undef:RelD w S ρ Go.undef .undef
 |anyb (b:Bool):RelD w S ρ (.bool b) .anyb
 |nils (sz:Nat):RelD w S ρ (.slice none 0 0) (.nils sz)
 |clip (a:Option Addr) (n sz:Nat) (es:List P) (h:RelP w S (.slice a n n) (.sl sz es)):RelD w S ρ (.slice a n n) (.clip sz es)
 |agg (vs:Array Value) (cs:List D) (hl:vs.size=cs.length) (h1:∀(i:Nat) v,vs[i]? =some v->Zbp v)
   (h:∀(i:Nat) v c,vs[i]? =some v->cs[i]? =some c->RelD w S ρ v c):RelD w S ρ (.agg vs) (.agg cs)
 |tup (vs:Array Value) (cs:List D) (hl:vs.size=cs.length)
   (h:∀(i:Nat) v c,vs[i]? =some v->cs[i]? =some c->RelD w S ρ v c):RelD w S ρ (.tuple vs) (.tup cs)
 |sl (id:Id) (off len cap:Nat) (a:Option Addr) (L:Lay) (hL:ρ id=some L) (hl:off+len<=L.len) (hm:len<=Z9/\cap<=Zr) (hc:len<=cap)
   (ha:cap=0\/∃b,L.blk=some b/\a=some ⟨b,L.base+off*L.sz,none⟩/\off+cap<=L.cap):RelD w S ρ (.slice a len cap) (.sl id off len)
 |ptr (id:Id) (i j:Nat) (L:Lay) (b:Nat) (hL:ρ id=some L) (hi:i < L.len) (hb:L.blk=some b):
   RelD w S ρ (.pointer (some ⟨b,L.base+i*L.sz+j,none⟩)) (.ptr id i j)
 |map (id:Id) (L:Lay) (b:Nat) (hL:ρ id=some L) (hb:L.blk=some b):RelD w S ρ (.map (some b)) (.map id)
 |it (id:Id) (L:Lay) (b:Nat) (hL:ρ id=some L) (hb:L.blk=some b):RelD w S ρ (.pointer (some ⟨b,0,none⟩)) (.it id)
 |fn (f:Nat) (fs cs:Array Value) (a b:List D) (hf:fs.size=a.length) (hc:cs.size=b.length)
   (h:∀(i:Nat) v x,fs[i]? =some v->a[i]? =some x->RelD w S ρ v x) (h':∀(i:Nat) v x,cs[i]? =some v->b[i]? =some x->RelD w S ρ v x):
   RelD w S ρ (.func (.func f) fs cs) (.fn f a b)
 |rp (x:Option P) (id:Id) (b o r:Nat) (u:Value) (L:Lay) (hS:S b) (hx:∀y,x=some y->w.cell? ⟨b,o,none⟩=some u/\Zbp u/\RelP w S u y) (hm:w.cell? ⟨b,o+x.toList.length,none⟩=some (.map (some r)))
   (hL:ρ id=some L) (hb:L.blk=some r):RelD w S ρ (.pointer (some ⟨b,o,none⟩)) (.rp x id)
 |val (v:Value):RelD w S ρ v (.val v)
theorem RelD.mono {w w':World} {S S':Nat->Prop} {ρ ρ':Id->Option Lay} (s:ZbM S w w') (q:∀b,S b->S' b) (c:∀id L,ρ id=some L->ρ' id=some L)
  {v:Value} {d:D} (h:RelD w S ρ v d):RelD w' S' ρ' v d:=by
 induction h with
 |p v x h=>exact .p v x (h.mono s q)
 |dead v=>exact .dead v
 |undef=>exact .undef
 |anyb b=>exact .anyb b
 |nils sz=>exact .nils sz
 |clip a n sz es h=>exact .clip a n sz es (h.mono s q)
 |agg vs cs m I _ l=>exact .agg vs cs m I l
 |tup vs cs m _ l=>exact .tup vs cs m l
 |sl id B len cap a L g m t C G=>exact .sl id B len cap a L (c _ _ g) m t C G
 |ptr id i j L b g hi k=>exact .ptr id i j L b (c _ _ g) hi k
 |map id L b g k=>exact .map id L b (c _ _ g) k
 |it id L b g k=>exact .it id L b (c _ _ g) k
 |fn f fs cs a b H C _ _ l A=>exact .fn f fs cs a b H C l A
 |rp x id b o r u L F E t g k=>
  have e:w'.heap[b]? =w.heap[b]? :=s b F (ZhN t);exact .rp x id b o r u L (q b F) (fun y z=>by rw[ZS e];exact⟨(E y z).1,(E y z).2.1,(E y z).2.2.mono s q⟩) (by grind[ZS]) (c _ _ g) k
 |val v=>exact .val v
def ZiI (w:World) (S:Nat->Prop) (r:Nat) (td:TD) (f:List (P×P)):Prop:=
 ∃(es:Array MapEntry) (c:Nat) (d:List (P×P)),w.heap[r]? =some (.map es c)/\d.Perm f/\es.size=d.length/\
  (∀(i:Nat) e q,es[i]? =some e->d[i]? =some q->RelP w S e.key q.1/\RelP w S e.val q.2)/\
  (d.Pairwise fun a b=>P.key a.1 b.1=false)/\(∀q∈d,Zam td q.1=true)/\
  (∀(i:Nat) e,es[i]? =some e->e.born < c)/\(∀(i j:Nat) e e',es[i]? =some e->es[j]? =some e'->e.born=e'.born->i=j)
def Zp (w:World) (S:Nat->Prop) (ρ:Id->Option Lay) (L:Lay):Obj->Prop
 | .box cs=>∃b,L.blk=some b/\L.sz=cs.length/\L.len=1/\
   ∀(j:Nat) d,cs[j]? =some d->∃v,w.cell? ⟨b,L.base+j,none⟩=some v/\w.frozen? ⟨b,L.base+j,none⟩=false/\Zbp v/\RelD w S ρ v d
 | .arr sz es _=>L.sz=sz/\es.length=L.len/\L.len<=L.cap/\L.len<=Z9/\(L.blk=none->L.len=0)/\
   (∀b,L.blk=some b->∀j,j < L.cap*sz->(∃v,w.cell? ⟨b,L.base+j,none⟩=some v)/\w.frozen? ⟨b,L.base+j,none⟩=false)/\
   ∃evs:Nat->Value,(∀i,i < L.len->(evs i).cells.size=sz)/\(∀b,L.blk=some b->∀(i j:Nat) v,i < L.len->(evs i).cells[j]? =some v->w.cell? ⟨b,L.base+i*sz+j,none⟩=some v)/\
    ∀(i:Nat) e,es[i]? =some e->RelP w S (evs i) e
 | .map td f=>∃b,L.blk=some b/\ZiI w S b td f
 | .sit s a=>∃b,L.blk=some b/\w.heap[b]? =some (.stringIter ⟨s.toArray⟩ a)/\s.length<=Zr
 | .gone=>True
 | .own sz c k es lo _=>L.sz=sz/\es.length=L.len/\L.len<=L.cap/\L.len<=Z9/\c < sz/\(L.blk=none->L.len=0)/\
   (∀b,L.blk=some b->∀j,j < L.cap*sz->(∃v,w.cell? ⟨b,L.base+j,none⟩=some v)/\w.frozen? ⟨b,L.base+j,none⟩=false)/\
   ∀(i:Nat) e,es[i]? =some e->∃cs l,e= .agg cs/\cs.length=sz/\cs[c]? =some (.sl k l)/\
    ∀b,L.blk=some b->∀(j:Nat) x v,cs[j]? =some x->w.cell? ⟨b,L.base+i*sz+j,none⟩=some v->Zbp v/\(j≠c\/lo<=i->RelP w S v x)
theorem ZiI.mono {w w':World} {S S':Nat->Prop} {r:Nat} {td:TD} {d:List (P×P)} (k:ZbM S w w') (j:∀b,S b->S' b) (p:w'.heap[r]? =w.heap[r]?)
  (h:ZiI w S r td d):ZiI w' S' r td d:=by
 obtain⟨es,a,c,s,o,m,l,n⟩:=h;exact⟨es,a,c,by grind,o,m,fun i e q f g=>⟨(l i e q f g).1.mono k j,(l i e q f g).2.mono k j⟩,n⟩
theorem Zp.mono {w w':World} {S S':Nat->Prop} {ρ ρ':Id->Option Lay} {L:Lay} {o:Obj} (t:ZbM S w w') (u:∀b,S b->S' b)
  (B:∀id L,ρ id=some L->ρ' id=some L) (g:∀b,L.blk=some b->w'.heap[b]? =w.heap[b]?) (h:Zp w S ρ L o):Zp w' S' ρ' L o:=by
 cases o with
 |box cs=>
  obtain⟨b,f,m,p,q⟩:=h;refine⟨b,f,m,p,fun j d N=> ?_⟩;obtain⟨v,n,P,H,K⟩:=q j d N;exact⟨v,by rw[ZS (g b f)];exact n,by rw[ZaQ (g b f)];exact P,H,K.mono t u B⟩
 |arr sz es fix=>
  obtain⟨f,m,p,q,D,y,evs,C,z,M⟩:=h;refine⟨f,m,p,q,D,fun b a j r=> ?_,evs,C,fun b a i j v hi n=> ?_,fun i e A=>(M i e A).mono t u⟩
  ·rw[ZS (g b a),ZaQ (g b a)];exact y b a j r
  ·rw[ZS (g b a)];exact z b a i j v hi n
 |map td Q=>obtain⟨b,f,m⟩:=h;exact⟨b,f,m.mono t u (g b f)⟩
 |sit s J=>obtain⟨b,f,m,p⟩:=h;exact⟨b,f,by rw[g b f];exact m,p⟩
 |gone=>trivial
 |own sz c k es lo G=>
  obtain⟨f,m,p,q,D,y,C,z⟩:=h;refine⟨f,m,p,q,D,y,fun b a j r=> ?_,fun i e A=> ?_⟩
  ·rw[ZS (g b a),ZaQ (g b a)];exact C b a j r
  ·obtain⟨cs,l,q1,I,O,F⟩:=z i e A;refine⟨cs,l,q1,I,O,fun b a j x v E n=> ?_⟩;rw[ZS (g b a)]at n;exact⟨(F b a j x v E n).1,fun r=>((F b a j x v E n).2 r).mono t u⟩
end Eng
namespace Eng
open Go
theorem Zh {c β:Type} {f:c->Option β}:∀{xs:List c} {a:List β},Zj f xs=some a->
  a.length=xs.length/\∀(i:Nat) x y,xs[i]? =some x->a[i]? =some y->f x=some y
 | [],a,h=>by grind[Zj]
 |x::xs,a,h=>by
  simp only[Zj]at h;split at h;rotate_left;simp at h;rename_i y d e b;obtain⟨g,hi⟩:=Zh b;grind
theorem Zx {cs:List D} {a:List P} (h:Zj D.pure? cs=some a):cs=a.map .p:=by
 obtain⟨c,hi⟩:=Zh h;apply List.ext_getElem?;intro i
 by_cases hlt:i < cs.length
 ·have b:=hi i cs[i] a[i] (by simp) (by simp);cases hc:cs[i]<;>simp[hc,D.pure?]at b;simp_all
 simp_all
@[simp] theorem ZjK (lk:Id->Option Obj) (n:Nat) (x:P):D.toP lk n (.p x)=some x:=by cases n<;>rfl
@[simp] theorem toP_nils (lk:Id->Option Obj) (n sz:Nat):D.toP lk n (.nils sz)=some (.sl sz []):=by cases n<;>rfl
@[simp] theorem toP_clip (lk:Id->Option Obj) (n sz:Nat) (es:List P):D.toP lk n (.clip sz es)=some (.sl sz es):=by cases n<;>rfl
theorem Zbm (lk:Id->Option Obj) (n:Nat) (id:Id) (a len:Nat):D.toP lk n (.sl id a len)=match lk id with
  |some (.arr sz es _)=>some (.sl sz ((es.drop a).take len))
  |_=>none:=by cases n<;>rfl
theorem Zbu (lk:Id->Option Obj) (n:Nat) (id:Id):D.toP lk n (.map id)=match lk id with
  |some (.map td kv)=>some (.map td kv)
  |_=>none:=by cases n<;>rfl
@[simp] theorem ids_sl (lk:Id->Option Obj) (n:Nat) (id:Id) (a len:Nat):D.ids lk n (.sl id a len)=[id]:=by cases n<;>rfl
@[simp] theorem ZmO (lk:Id->Option Obj) (n:Nat) (id:Id):D.ids lk n (.map id)=[id]:=by cases n<;>rfl
def Objs (w:World) (S:Nat->Prop) (ρ:Id->Option Lay) (lk:Id->Option Obj):Prop:=
 ∀id o,lk id=some o->o≠ .gone->∃L,ρ id=some L/\Zp w S ρ L o
theorem Zaf {w:World} {S:Nat->Prop} {ρ:Id->Option Lay} {lk:Id->Option Obj} (ho:Objs w S ρ lk) {S':Nat->Prop} (T:∀b,S b->S' b):
  ∀(n:Nat) (d:D) (v:Value) (x:P),RelD w S ρ v d->d.toP lk n=some x->
   (∀id,id∈d.ids lk n->∀L b,ρ id=some L->L.blk=some b->S' b)->RelP w S' v x:=by
 have U:ZbM S w w:=fun _ _ _=>rfl
 have base:∀(n:Nat) (d:D) (v:Value) (x:P),(∀cs,d≠ .agg cs)->(∀id i j,d≠ .ptr id i j)->(∀f a b,d≠ .fn f a b)->RelD w S ρ v d->d.toP lk n=some x->
   (∀id,id∈d.ids lk n->∀L b,ρ id=some L->L.blk=some b->S' b)->RelP w S' v x:=by
  intro n d v x A h2 h3 Q g hi;cases Q with
  |p v y h=>simp at g;subst g;exact h.mono U T
  |dead v=>cases n<;>simp[D.toP]at g
  |val v=>cases n<;>simp[D.toP]at g
  |undef=>cases n<;>simp[D.toP]at g
  |anyb b=>cases n<;>simp[D.toP]at g
  |nils sz=>simp at g;subst g;exact .sl none 0 0 sz [] (fun _=>default) rfl (by simp) (by simp) (by simp) (by simp) (by simp)
  |clip a n sz es h=>simp at g;subst g;exact h.mono U T
  |agg vs cs=>exact absurd rfl (A cs)
  |tup vs cs=>cases n<;>simp[D.toP]at g
  |sl id Z len cap a L F hl av l ha=>
   rw[Zbm]at g;split at g;rotate_left;simp at g;rename_i sz es fix r;cases g;obtain⟨L',m,I,al,ap,aj,ao,J,evs,Y,z,B⟩:=ho id _ r (by simp);rw[F]at m;obtain rfl:=ZnN m;refine .sl a len cap sz _ (fun i=>evs (Z+i)) (by simp;omega) (by omega) l (fun i ak=>Y _ (by omega)) (fun i ak=> ?_) (fun i e H=> ?_)
   ·rcases ha with h0 |⟨b,G,rfl,ar⟩
    ·omega
    ·refine⟨b,_,rfl,hi id (by simp) L b F G,fun j u o=> ?_⟩;have:=z b G (Z+i) j u (by omega) o;rw[ZnI]at this;rw[I,<-this];congr 2;omega
   ·rw[ZnC]at H;split at H;rotate_left;simp at H;rw[Znz]at H;exact(B _ e H).mono U T
  |ptr id i j=>exact absurd rfl (h2 id i j)
  |map id L b F G=>
   rw[Zbu]at g;split at g;rotate_left;simp at g;rename_i td kv r;cases g;obtain⟨L',m,b',C,es,R,ac,g1,g2,g3,g4,g5,g6,g7,g8⟩:=ho id _ r (by simp);rw[F]at m;obtain rfl:=ZnN m;rw[G]at C;obtain rfl:=ZnN C;exact .map td b es R kv ac (hi id (by simp) L b F G) g1 g2 g3 (fun i e q H hq=>(g4 i e q H hq).1.mono U T) (fun i e q H hq=>(g4 i e q H hq).2.mono U T) g5 g6 g7 g8
  |it id=>cases n<;>simp[D.toP]at g
  |rp=>cases n<;>simp[D.toP]at g
  |fn f fs cs a b=>exact absurd rfl (h3 f a b)
 intro n
 induction n with
 |zero=>
  intro d v x Q g hi;refine base 0 d v x ?_ ?_ ?_ Q g hi
  all_goals (intros;intro l;subst l;simp[D.toP]at g)
 |succ n ih=>
  intro d v x Q g hi;cases Q with
  |agg vs cs hl A h=>
   simp only[D.toP,ZnM]at g;obtain⟨ps,O,rfl⟩:=g;obtain⟨an,N⟩:=Zh O;refine .agg vs ps (by omega) A fun i v c M l=> ?_
   have s:i < cs.length:=by have:=(Znq.1 M).1;omega
   have t:cs[i]? =some cs[i]:=by simp[s]
   exact ih cs[i] v c (h i v _ M t) (N i _ c t l) fun id E L b=>hi id (by
    simp only[D.ids,Zob];exact⟨cs[i],List.getElem_mem _,E⟩) L b
  |ptr id i j L b F ae G=>
   simp only[D.toP]at g;split at g
   ·rename_i cs r;split at g;rotate_left;simp at g;rename_i h0;subst h0;simp only[ZnM]at g;obtain⟨ps,O,rfl⟩:=g;obtain⟨an,N⟩:=Zh O;obtain⟨L',m,b',C,I,as,aa⟩:=ho id _ r (by simp);rw[F]at m;obtain rfl:=ZnN m;rw[G]at C;obtain rfl:=ZnN C;have key:∀(k:Nat) c,ps[k]? =some c->∃u,w.cell? ⟨b,L.base+(j+k),none⟩=some u/\Zbp u/\RelP w S' u c:=by
     intro k c l;have s:k < (cs.drop j).length:=by have:=(ZnA.1 l).1;omega
     have K:j+k < cs.length:=by simp at s;omega
     have hd:(cs.drop j)[k]? =some cs[j+k]:=by simp[Znz,K]
     obtain⟨u,o,_,A,Q⟩:=aa (j+k) cs[j+k] (by simp[K]);refine⟨u,o,A,ih cs[j+k] u c Q (N k _ c hd l) fun ag W L' b'=>hi ag ?_ L' b'⟩;simp only[D.ids,r,ZnD,Zob];exact .inr ⟨cs[j+k],List.mem_of_getElem? hd,W⟩
    refine .ptr b _ ps (fun k=>((w.cell? ⟨b,L.base+(j+k),none⟩).getD default)) (hi id (by simp[D.ids]) L b F G) (fun k c l=> ?_) (fun k c l=> ?_) (fun k c l=> ?_)
    ·obtain⟨u,o,_⟩:=key k c l;rw[o];simpa[ZnH]using o
    ·obtain⟨u,o,A,_⟩:=key k c l;simp only[o,ZnL];exact A
    ·obtain⟨u,o,_,A⟩:=key k c l;simp only[o,ZnL];exact A
   ·rename_i sz es fix r;cases g;obtain⟨L',m,I,al,ap,aj,ao,J,evs,Y,z,B⟩:=ho id _ r (by simp);rw[F]at m;obtain rfl:=ZnN m;have X:i < es.length:=by omega
    have am:es.getD i default=es[i]:=by simp[X]
    rw[am];have V:=B i es[i] (by simp[X]);have key:∀(k:Nat) c,(es[i].cells.drop j)[k]? =some c->∃u,w.cell? ⟨b,L.base+i*L.sz+j+k,none⟩=some u/\Zbp u/\RelP w S' u c:=by
     intro k c l;rw[Znz]at l;have s:=(ZnA.1 l).1;have aq:=V.size;have o:(evs i).cells[j+k]? =some (evs i).cells[j+k]:=by simp
     have:=V.cell o l;refine⟨_, ?_,this.2,this.1.mono U T⟩;have:=z b G i (j+k) _ ae o;rw[I,<-this];congr 2;omega
    refine .ptr b _ _ (fun k=>((w.cell? ⟨b,L.base+i*L.sz+j+k,none⟩).getD default)) (hi id (by simp[D.ids]) L b F G) (fun k c l=> ?_) (fun k c l=> ?_) (fun k c l=> ?_)
    ·obtain⟨u,o,_⟩:=key k c l;rw[o];simp
    ·obtain⟨u,o,A,_⟩:=key k c l;simp only[o,ZnL];exact A
    ·obtain⟨u,o,_,A⟩:=key k c l;simp only[o,ZnL];exact A
   ·simp at g
  |fn f fs cs a b hf l h h'=>
   simp only[D.toP]at g;split at g;rotate_left;simp at g;rename_i pa pb ai ah;cases g;obtain⟨aw,ab⟩:=Zh ai;obtain⟨au,af⟩:=Zh ah;refine .fn f fs cs pa pb (by omega) (by omega) (fun i v x M hx=> ?_) (fun i v x M hx=> ?_)
   ·have s:i < a.length:=by have:=(Znq.1 M).1;omega
    have t:a[i]? =some a[i]:=by simp[s]
    exact ih a[i] v x (h i v _ M t) (ab i _ x t hx) fun id E L b=>hi id (by
     simp only[D.ids,Zn7,Zob];exact .inl ⟨a[i],List.getElem_mem _,E⟩) L b
   ·have s:i < b.length:=by have:=(Znq.1 M).1;omega
    have t:b[i]? =some b[i]:=by simp[s]
    exact ih b[i] v x (h' i v _ M t) (af i _ x t hx) fun id E L b=>hi id (by
     simp only[D.ids,Zn7,Zob];exact .inr ⟨_,List.getElem_mem _,E⟩) L b
  |_=>exact base (n+1) _ _ _ (by simp) (by simp) (by simp) (by constructor<;>assumption) g hi
def ZQ (w w':World):Prop:=w'.os=w.os/\w'.output=w.output
theorem ZQ.refl (w:World):ZQ w w:=⟨rfl,rfl⟩
theorem ZQ.trans {w w' a:World} (h:ZQ w w') (b:ZQ w' a):ZQ w a:=⟨b.1.trans h.1,b.2.trans h.2⟩
theorem ZQ.setCells (b:Nat) (vs:List Value):∀(o:Nat) (w:World),ZQ w (w.setCells b o vs):=by
 induction vs with
 |nil=>exact fun o w=> .refl w
 |cons v r a=>exact fun o w=>ZQ.trans (w':=w.setCell ⟨b,o,none⟩ v) ⟨rfl,rfl⟩ (a _ _)
def ZeC (w:World) (S:Nat->Prop) (g:Nat) (cs:List P):Prop:=
 RelP w S (.pointer (some ⟨g,0,none⟩)) (.ptr cs)/\∃a t fr,w.heap[g]? =some (.cells a t fr)/\a.size=cs.length
theorem ZeC.mono {w w':World} {S S':Nat->Prop} {g:Nat} {cs:List P} (h:ZeC w S g cs) (d:ZbM S w w') (i:∀b,S b->S' b):ZeC w' S' g cs:=by
 obtain⟨c,a,t,fr,e,f⟩:=h;refine⟨c.mono d i,a,t,fr, ?_,f⟩;have j:S g:=by cases c;omega
 rw[d g j (Zd8 e)];omega
structure Ctx where
 E:Env
 W:World
 Lt:Nat->Prop
 S0:Nat->Prop
 lays:Nat->Option Lay:=fun _=>none
abbrev Ctx.H (C:Ctx):Array Go.Obj:=C.W.heap
def Kid (a:Id->Option Obj) (d:Id->Bool) (id:Id) (i sz c k:Nat) (l:List P):Prop:=
 ∃es lo b cs,a id=some (.own sz c k es lo b)/\d id=false/\es[i]? =some (.agg cs)/\cs[c]? =some (.sl k l)/\i < lo/\b≠some i
structure Fam (H:Nat) (Lt S:Nat->Prop) (ρ:Id->Option Lay) (objs:Id->Option Obj) (fz:Id->Bool) (w:World) (κ:Id->Nat->Lay):Prop where
 kid:∀id i sz c k l L,Kid objs fz id i sz c k l->ρ id=some L->∃b v,L.blk=some b/\w.cell? ⟨b,L.base+i*sz+c,none⟩=some v/\
  RelD w S (fun _=>some (κ id i)) v (.sl (0,0,0) 0 l.length)/\Zp w S (fun _=>none) (κ id i) (.arr k l false)
 own:∀id i sz c k l b,Kid objs fz id i sz c k l->(κ id i).blk=some b->b < w.heap.size/\(H<=b\/Lt b)/\¬S b/\
  ∀id' o L,objs id'=some o->o≠ .gone->ρ id'=some L->L.blk≠some b
 inj:∀id i sz c k l id' i' sz' c' k' l' b,Kid objs fz id i sz c k l->Kid objs fz id' i' sz' c' k' l'->(κ id i).blk=some b->(κ id' i').blk=some b->id=id'/\i=i'
theorem Fam.none {H:Nat} {Lt S:Nat->Prop} {ρ:Id->Option Lay} {a:Id->Option Obj} {e:Id->Bool} {w:World} (h:∀id o,a id=some o->o.isOwn=false):
  ∃f,Fam H Lt S ρ a e w f:=by
 have d:∀{id i sz c k l},¬Kid a e id i sz c k l:=by rintro id i sz c k l ⟨es,lo,g,cs,j,_⟩;grind[Obj.isOwn]
 exact⟨fun _ _=>⟨.none,0,0,0,0⟩,fun _ _ _ _ _ _ _ b=>(d b).elim,fun _ _ _ _ _ _ _ b=>(d b).elim,fun _ _ _ _ _ _ _ _ _ _ _ _ _ b=>(d b).elim⟩
structure Rep (C:Ctx) (X:Nat->Prop) (ρ:Id->Option Lay) (S:Nat->Prop) (st:St) (tm:Array Value) (w:World):Prop where
 nt:tm.size=C.E.nt
 grow:C.H.size<=w.heap.size
 frame:∀b,b < C.H.size->¬C.Lt b->w.heap[b]? =C.H[b]?
 s0:∀b,C.S0 b->S b
 sIn:∀b,S b->b < w.heap.size
 slots:∀k,RelD w S ρ (tm.getD k undef) (st.slots k)
 objs:Objs w S ρ st.objs
 own:∀id o L b,st.objs id=some o->o≠ .gone->ρ id=some L->L.blk=some b->
  b < w.heap.size/\(C.H.size<=b\/C.Lt b)/\(st.fz id=true->S b)/\(st.fz id=false->¬S b)
 inj:∀id o L id' o' L' b,st.objs id=some o->o≠ .gone->ρ id=some L->L.blk=some b->
  st.objs id'=some o'->o'≠ .gone->ρ id'=some L'->L'.blk=some b->id=id'
 known:∀id,st.objs id≠none->ρ id≠none
 young:∀id,ρ id≠none->id.1 < st.ep\/(id.1=st.ep/\X id.2.1)
 fzk:∀id,st.fz id=true->ρ id≠none
 glob:∀g cs,(g,cs)∈C.E.globs->ZeC w S g cs
 sOut:∀b,S b->C.S0 b\/C.H.size<=b\/C.Lt b
 ep1:1<=st.ep
 quiet:ZQ C.W w
 lay:∀k L,C.lays k=some L->ρ (0,k,0)≠none->ρ (0,k,0)=some L
 fam:∃κ,Fam C.H.size C.Lt S ρ st.objs st.fz w κ
theorem Zgu (l:List (Id×Obj)):∀(a:St) (id:Id) (o:Obj),(a.objL l).objs id=some o->(id,o)∈l\/((∀o',(id,o')∉l)/\a.objs id=some o):=by
 induction l with
 |nil=>intro a id o h;exact .inr ⟨by simp,h⟩
 |cons x r b=>
  obtain⟨i,u⟩:=x;intro a id o h;rcases b (a.obj i u) id o h with h |⟨h,c⟩
  ·simp_all
  ·simp only[St.obj,upd]at c;grind
@[simp] theorem ZiW (l:List (Id×Obj)):∀a:St,(a.objL l).slots=a.slots:=by
 induction l with
 |nil=>intro a;rfl
 |cons x r b=>obtain⟨i,u⟩:=x;intro a;exact b _
@[simp] theorem objL_fz (l:List (Id×Obj)):∀a:St,(a.objL l).fz=a.fz:=by
 induction l with
 |nil=>intro a;rfl
 |cons x r b=>obtain⟨i,u⟩:=x;intro a;exact b _
@[simp] theorem ZmC (l:List (Id×Obj)):∀a:St,(a.objL l).ep=a.ep:=by
 induction l with
 |nil=>intro a;rfl
 |cons x r b=>obtain⟨i,u⟩:=x;intro a;exact b _
@[simp] theorem Zcx (l:List Id):∀a:St,(a.freezeL l).slots=a.slots:=by
 induction l with
 |nil=>intro a;rfl
 |cons x r b=>intro a;exact b _
@[simp] theorem Zu (l:List Id):∀a:St,(a.freezeL l).objs=a.objs:=by
 induction l with
 |nil=>intro a;rfl
 |cons x r b=>intro a;exact b _
@[simp] theorem Ze7 (l:List Id):∀a:St,(a.freezeL l).ep=a.ep:=by
 induction l with
 |nil=>intro a;rfl
 |cons x r b=>intro a;exact b _
theorem freezeL_fz (l:List Id):∀(a:St) (id:Id),(a.freezeL l).fz id=(l.contains id||a.fz id):=by
 induction l with
 |nil=>grind[St.freezeL]
 |cons x r b=>
  intro a id;simp only[St.freezeL,b,St.freeze,upd,List.contains_cons]
  grind
@[simp] theorem Zgi (a:St) (t:Option Nat) (d:D):(a.setO t d).objs=a.objs:=by cases t<;>rfl
@[simp] theorem setO_fz (a:St) (t:Option Nat) (d:D):(a.setO t d).fz=a.fz:=by cases t<;>rfl
@[simp] theorem setO_ep (a:St) (t:Option Nat) (d:D):(a.setO t d).ep=a.ep:=by cases t<;>rfl
@[simp] theorem ZcK (a:St) (i:Nat) (t:Option Nat) (e:Eff):(a.app i t e).ep=a.ep:=by simp[St.app]
@[simp] theorem ZbK (a:St) (i:Nat) (t:Option Nat) (e:Eff) (id:Id):(a.app i t e).fz id=(e.frz.contains id||a.fz id):=by simp[St.app,freezeL_fz]
theorem ZaU (a:St) (i:Nat) (t:Option Nat) (e:Eff) (k:Nat):(a.app i t e).slots k=if t=some k then e.val else a.slots k:=by
 cases t with
 |none=>simp[St.app,St.setO]
 |some t=>
  simp only[St.app,St.setO,St.set,upd,Zcx,ZiW,ZnO]
  grind
theorem ZK (a:St) (i:Nat) (t:Option Nat) (e:Eff) (id:Id) (o:Obj) (h:(a.app i t e).objs id=some o):
  (∃k,id=(a.ep,i,k)/\(k,o)∈e.new)\/((id,o)∈e.wr)\/((∀o',(id,o')∉e.wr)/\a.objs id=some o):=by
 simp only[St.app,Zgi,Zu]at h;rcases Zgu _ _ _ _ h with h |⟨_,h⟩
 ·grind
 grind[Zgu]
theorem Zip (a:Act) (t:Option Nat) (v:Value) (k:Nat) (h:∀d,t=some d->d < a.tmps.size):
  (a.put t v).tmps.getD k undef=if t=some k then v else a.tmps.getD k undef:=by
 cases t with
 |none=>simp[Act.put]
 |some d=>
  have b:=h d rfl
  by_cases hk:d=k
  all_goals simp_all[Act.put]
def Zmf (e:Eff) (m j sz c k:Nat) (l:List P):Prop:=
 ∃es lo a cs,(m,Obj.own sz c k es lo a)∈e.new/\es[j]? =some (.agg cs)/\cs[c]? =some (.sl k l)/\j < lo/\a≠some j
structure Zfp (st:St) (i:Nat) (e:Eff) (ρ ρ':Id->Option Lay) (w w':World) (S':Nat->Prop) (κ:Nat->Nat->Lay):Prop where
 kid:∀m j sz c k l L,Zmf e m j sz c k l->ρ' (st.ep,i,m)=some L->∃b v,L.blk=some b/\w'.cell? ⟨b,L.base+j*sz+c,none⟩=some v/\
  RelD w' S' (fun _=>some (κ m j)) v (.sl (0,0,0) 0 l.length)/\Zp w' S' (fun _=>none) (κ m j) (.arr k l false)
 own:∀m j sz c k l b,Zmf e m j sz c k l->(κ m j).blk=some b->b < w'.heap.size/\¬S' b/\
  (w.heap.size<=b\/∃id o' L',(id,Obj.gone)∈e.wr/\st.objs id=some o'/\o'≠ .gone/\ρ id=some L'/\L'.blk=some b/\(∀o'',(id,o'')∈e.wr->o''= .gone))/\
  ∀m' o' L',(m',o')∈e.new->o'≠ .gone->ρ' (st.ep,i,m')=some L'->L'.blk≠some b
 inj:∀m j sz c k l m' j' sz' c' k' l' b,Zmf e m j sz c k l->Zmf e m' j' sz' c' k' l'->(κ m j).blk=some b->(κ m' j').blk=some b->m=m'/\j=j'
theorem Zfp.none {g:St} {i:Nat} {e:Eff} {ρ ρ':Id->Option Lay} {w w':World} {S':Nat->Prop} (h:∀k o,(k,o)∈e.new->o.isOwn=false):∃d,Zfp g i e ρ ρ' w w' S' d:=by
 have b:∀{m j sz c k l},¬Zmf e m j sz c k l:=by rintro m j sz c k l ⟨es,lo,f,cs,n,_⟩;grind[Obj.isOwn]
 exact⟨fun _ _=>⟨.none,0,0,0,0⟩,fun _ _ _ _ _ _ _ a=>(b a).elim,fun _ _ _ _ _ _ _ a=>(b a).elim,fun _ _ _ _ _ _ _ _ _ _ _ _ _ a=>(b a).elim⟩
theorem Rep.famStep {C:Ctx} {X:Nat->Prop} {ρ:Id->Option Lay} {S S':Nat->Prop} {g:St} {tm:Array Value} {w:World} (h:Rep C X ρ S g tm w)
  {i:Nat} {t:Option Nat} {e:Eff} {w':World} (ρ':Id->Option Lay)
  (ap:w.heap.size<=w'.heap.size)
  (Y:∀b,b < w.heap.size->(∀id o L,(id,o)∈e.wr->ρ id=some L->L.blk≠some b)->w'.heap[b]? =w.heap[b]?)
  (wr:∀id o,(id,o)∈e.wr->g.fz id=false/\∃o',g.objs id=some o'/\o'≠ .gone)
  (ar:∀id L,ρ id=some L->ρ' id=some L) (kp:ZbM S w w') (ai:∀b,S b->S' b)
  (am:∀b,S' b->S b\/w.heap.size<=b\/∃id o L,g.objs id=some o/\o≠ .gone/\ρ id=some L/\L.blk=some b)
  (aj:∀k o L b,(k,o)∈e.new->ρ' (g.ep,i,k)=some L->L.blk=some b->w.heap.size<=b\/∃id o L,g.objs id=some o/\o≠ .gone/\ρ id=some L/\L.blk=some b)
  (nfam:∃W,Zfp g i e ρ ρ' w w' S' W) (ak:∀k,ρ (g.ep,i,k)=none) (wown:∀id o,(id,o)∈e.wr->o.isOwn=false):
  ∃W,Fam C.H.size C.Lt S' ρ' (g.app i t e).objs (g.app i t e).fz w' W:=by
 obtain⟨W,F⟩:=h.fam;obtain⟨κn,N⟩:=nfam;have B:∀id L,ρ id≠none->ρ' id=some L->ρ id=some L:=fun id L V H=>by
  cases hc:ρ id with
  |none=>grind
  |some L0=>grind
 have ao:∀m o,g.objs (g.ep,i,m)≠some o:=fun m o y=>h.known _ (by grind) (ak m)
 have ko:∀{id j sz c k l},Kid (g.app i t e).objs (g.app i t e).fz id j sz c k l->(id.1=g.ep/\id.2.1=i/\Zmf e id.2.2 j sz c k l)\/
   (¬(id.1=g.ep/\id.2.1=i)/\Kid g.objs g.fz id j sz c k l/\∀o',(id,o')∉e.wr):=by
  rintro id j sz c k l ⟨es,lo,aa,cs,y,hf,r1,r2,r3,r4⟩;rw[ZbK]at hf;simp only[Bool.or_eq_false_iff]at hf;rcases ZK g i t e id _ y with ⟨Z,rfl,E⟩ |E |⟨O,y⟩
  ·exact .inl ⟨rfl,rfl,es,lo,aa,cs,E,r1,r2,r3,r4⟩
  ·grind[Obj.isOwn]
  ·refine .inr ⟨fun hc=> ?_,⟨es,lo,aa,cs,y,hf.2,r1,r2,r3,r4⟩,O⟩;grind
 have ae:∀{id i' sz c k l},Kid g.objs g.fz id i' sz c k l->∀b,(W id i').blk=some b->w'.heap[b]? =w.heap[b]? :=fun x b q=>
  Y b (F.own _ _ _ _ _ _ b x q).1 fun d o' L' E ab=>by obtain⟨_,D,f,n⟩:=wr d o' E;exact(F.own _ _ _ _ _ _ b x q).2.2.2 d D L' f n ab
 let ac:Id->Nat->Lay:=fun id=>if id.1=g.ep/\id.2.1=i then κn id.2.2 else W id
 have z:∀{id:Id},id.1=g.ep->id.2.1=i->ac id=κn id.2.2:=fun h1 h2=>by grind
 have A:∀{id:Id},¬(id.1=g.ep/\id.2.1=i)->ac id=W id:=fun h1=>by grind
 have I:∀{m j sz c k l d j' ah c' Z l' b},Zmf e m j sz c k l->(κn m j).blk=some b->Kid g.objs g.fz d j' ah c' Z l'->(W d j').blk=some b->False:=fun x q u p=>by
  obtain⟨s1,_,_,s4⟩:=F.own _ _ _ _ _ _ _ u p;rcases(N.own _ _ _ _ _ _ _ x q).2.2.1 with h1 |⟨id,o,L,_,q1,G,Q,T,_⟩
  all_goals grind
 refine⟨ac,fun id j sz c k l L x H=> ?_,fun id j sz c k l b x q=> ?_,fun id j sz c k l d j' ah c' Z l' b x u q p=> ?_⟩
 ·rcases ko x with ⟨R,U,V⟩ |⟨K,x,O⟩
  ·rw[z R U];obtain⟨a,b,m⟩:=id;dsimp only at R U V|-
   subst R U;exact N.kid m j sz c k l L V H
  rw[A K];have al:=x;obtain⟨es,lo,aa,cs,y,u⟩:=al;have s:=B id L (h.known id (by grind)) H;obtain⟨b,v,q,hv,hr,an⟩:=F.kid _ _ _ _ _ _ L x s;have R:w'.heap[b]? =w.heap[b]? :=Y b (h.own id _ L b y (by simp) s q).1 fun d o' L' E ab p=>by obtain⟨_,D,f,n⟩:=wr d o' E;have:=h.inj id _ L d D L' b y (by simp) s q f n ab p;grind
  exact⟨b,v,q,by grind[ZS],hr.mono kp ai (fun _ _ h=>h),an.mono kp ai (fun _ _ h=>h) (ae x)⟩
 ·rcases ko x with ⟨R,U,V⟩ |⟨K,x,O⟩
  ·rw[z R U]at q;obtain⟨n1,n2,n3,n4⟩:=N.own _ _ _ _ _ _ _ V q;refine⟨n1, ?_,n2,fun d o L y hg H r=> ?_⟩
   ·rcases n3 with n3 |⟨d,o,L,_,q1,G,Q,T,_⟩
    ·exact .inl (Nat.le_trans h.grow n3)
    ·exact(h.own d o L b q1 G Q T).2.1
   ·rcases ZK g i t e d o y with ⟨Z,rfl,E⟩ |E |⟨O,y⟩
    ·exact n4 Z o L E hg H r
    ·obtain⟨_,D,f,n⟩:=wr d o E;have s:=B d L (h.known d (by simp[f])) H;rcases n3 with n3 |⟨af,o2,L2,q0,q1,G,Q,T,q5⟩
     ·have:=(h.own d D L b f n s r).1;omega
     ·have:=h.inj d D L af o2 L2 b f n s r q1 G Q T;subst this;exact hg (q5 o E)
    ·have s:=B d L (h.known d (by simp[y])) H;rcases n3 with n3 |⟨af,o2,L2,q0,q1,G,Q,T,q5⟩
     ·have:=(h.own d o L b y hg s r).1;omega
     ·have:=h.inj d o L af o2 L2 b y hg s r q1 G Q T;subst this;exact O _ q0
  rw[A K]at q;obtain⟨h1,h2,h3,h4⟩:=F.own _ _ _ _ _ _ b x q;refine⟨by omega,h2,fun hs=> ?_,fun d o L y hg H r=> ?_⟩
  ·rcases am b hs with hs |hs |⟨d,o',L',q1,G,Q,T⟩
   ·exact h3 hs
   ·omega
   ·exact h4 d o' L' q1 G Q T
  ·rcases ZK g i t e d o y with ⟨Z,rfl,E⟩ |E |⟨_,y⟩
   ·rcases aj Z o L b E H r with hs |⟨d,o',L',q1,G,Q,T⟩
    ·omega
    ·exact h4 d o' L' q1 G Q T
   ·obtain⟨_,D,f,n⟩:=wr d o E;exact h4 d D L f n (B d L (h.known d (by simp[f])) H) r
   ·exact h4 d o L y hg (B d L (h.known d (by simp[y])) H) r
 ·rcases ko x with ⟨R,U,V⟩ |⟨K,x,_⟩
  ·rw[z R U]at q;rcases ko u with ⟨J,P,ag⟩ |⟨M,u,_⟩
   ·rw[z J P]at p;obtain⟨q1,G⟩:=N.inj _ _ _ _ _ _ _ _ _ _ _ _ b V ag q p;refine⟨?_,G⟩;obtain⟨a,b',m⟩:=id;obtain⟨a',aq,m'⟩:=d;dsimp only at R U J P q1;subst R U q1 J P;rfl
   ·rw[A M]at p;exact(I V q u p).elim
  ·rw[A K]at q;rcases ko u with ⟨J,P,ag⟩ |⟨M,u,_⟩
   ·rw[z J P]at p;exact(I ag p x q).elim
   ·rw[A M]at p;exact F.inj _ _ _ _ _ _ _ _ _ _ _ _ b x u q p
theorem Rep.stepG {C:Ctx} {X:Nat->Prop} {ρ:Id->Option Lay} {S:Nat->Prop} {l:St} {a:Act} {w:World} (h:Rep C X ρ S l a.tmps w)
  {i:Nat} {t:Option Nat} {e:Eff} {v:Value} {w':World} (ρ':Id->Option Lay)
  (hi:¬X i) (ht:∀d,t=some d->d < C.E.nt)
  (a1:w.heap.size<=w'.heap.size) (hq:ZQ w w')
  (aa:∀b,b < w.heap.size->(∀id o L,(id,o)∈e.wr->ρ id=some L->L.blk≠some b)->w'.heap[b]? =w.heap[b]?)
  (wr:∀id o,(id,o)∈e.wr->l.fz id=false/\∃o',l.objs id=some o'/\o'≠ .gone)
  (J:∀id L,ρ id=some L->ρ' id=some L)
  (af:∀id,ρ' id≠none->ρ id≠none\/(id.1=l.ep/\id.2.1=i))
  (frz:∀id,id∈e.frz->ρ id≠none/\∀o',(id,o')∉e.wr)
  (O:∀k o,(k,o)∈e.new->∃L,ρ' (l.ep,i,k)=some L/\(∀b,L.blk=some b->
   (w.heap.size<=b\/(∃id o' L',(id,Obj.gone)∈e.wr/\l.objs id=some o'/\o'≠ .gone/\ρ id=some L'/\L'.blk=some b/\(∀I,(id,I)∈e.wr->I= .gone))\/(b < w.heap.size/\(C.H.size<=b\/C.Lt b)/\¬S b/\∀id o L,l.objs id=some o->o≠ .gone->ρ id=some L->L.blk≠some b))/\b < w'.heap.size)/\
   ∀S',(∀b,S b->S' b)->(∀id,id∈e.frz->∀o L b,l.objs id=some o->o≠ .gone->ρ id=some L->L.blk=some b->S' b)->o≠ .gone->Zp w' S' ρ' L o)
  (ai:∀k o L k' o' L' b,(k,o)∈e.new->o≠ .gone->ρ' (l.ep,i,k)=some L->L.blk=some b->(k',o')∈e.new->o'≠ .gone->ρ' (l.ep,i,k')=some L'->L'.blk=some b->k=k')
  (Z:∀id o L,(id,o)∈e.wr->o≠ .gone->ρ id=some L->∀S',(∀b,S b->S' b)->(∀id,id∈e.frz->∀o L b,l.objs id=some o->o≠ .gone->ρ id=some L->L.blk=some b->S' b)->Zp w' S' ρ' L o)
  (a4:∀S',(∀b,S b->S' b)->(∀id,id∈e.frz->∀o L b,l.objs id=some o->o≠ .gone->ρ id=some L->L.blk=some b->S' b)->(∀d,t=some d->RelD w' S' ρ' v e.val))
  (au:∀S',(∀b,S b->S' b)->(∀b,S' b->S b\/∃id o L,id∈e.frz/\l.objs id=some o/\o≠ .gone/\ρ id=some L/\L.blk=some b)->ZbM S w w'->∃κ,Fam C.H.size C.Lt S' ρ' (l.app i t e).objs (l.app i t e).fz w' κ):
  ∃S',Rep C (fun j=>X j\/j=i) ρ' S' (l.app i t e) (a.put t v).tmps w':=by
 let S':Nat->Prop:=fun b=>S b\/∃id o L,id∈e.frz/\l.objs id=some o/\o≠ .gone/\ρ id=some L/\L.blk=some b
 have R:∀b,S b->S' b:=fun b B=> .inl B
 have as:∀b,S b->∀id o L,(id,o)∈e.wr->ρ id=some L->L.blk≠some b:=fun b B id o L r p f=>by obtain⟨E,o',m,s⟩:=wr id o r;exact((h.own id o' L b m s p f).2.2.2 E) B
 have kp:ZbM S w w':=fun b B _=>aa b (h.sIn b B) (as b B)
 have az:∀k,l.objs (l.ep,i,k)=none:=fun k=>by
  cases y:l.objs (l.ep,i,k)with
  |none=>rfl
  |some o=>
   have:=h.young _ (h.known (l.ep,i,k) (by grind));grind
 have ax:∀id o L,l.objs id=some o->o≠ .gone->(∀o',(id,o')∉e.wr)->ρ id=some L->∀b,L.blk=some b->w'.heap[b]? =w.heap[b]? :=by
  intro id o L x s al p b B;refine aa b (h.own id o L b x s p B).1 fun c o' L' r q K=> ?_
  obtain⟨_,I,aq,an⟩:=wr c o' r;have:=h.inj id o L c I L' b x s p B aq an q K;grind
 have H:∀id L,ρ id≠none->ρ' id=some L->ρ id=some L:=fun id L hn p=>by
  cases y:ρ id with
  |none=>grind
  |some L0=>grind
 have Y:∀k,ρ (l.ep,i,k)=none:=fun k=>by
  cases y:ρ (l.ep,i,k)with
  |none=>rfl
  |some L=>have:=h.young (l.ep,i,k) (by grind);grind
 have W:∀id o L c o' L' b,l.objs id=some o->o≠ .gone->ρ id=some L->L.blk=some b->l.objs c=some o'->o'≠ .gone->ρ c=some L'->L'.blk=some b->id=c:=h.inj;refine⟨S',⟨?_,by have:=h.grow;omega, ?_,fun b B=> .inl (h.s0 b B), ?_, ?_, ?_, ?_, ?_, ?_, ?_, ?_,fun g cs r=>(h.glob g cs r).mono kp R, ?_,by rw[ZcK];exact h.ep1,h.quiet.trans hq, ?_,au S' R (fun _ h=>h) kp⟩⟩
 ·rw[<-h.nt];cases t<;>simp[Act.put]
 ·intro b B hl;rw[<-h.frame b B hl];refine aa b (by have:=h.grow;omega) fun id o L r p f=> ?_
  obtain⟨_,o',m,s⟩:=wr id o r;rcases(h.own id o' L b m s p f).2.1 with V |V
  ·omega
  grind
 ·intro b B;rcases B with B |⟨id,o,L,r,x,s,p,f⟩
  ·have:=h.sIn b B;omega
  ·have:=(h.own id o L b x s p f).1;omega
 ·intro k;rw[ZaU,Zip a t v k (fun d hd=>by rw[h.nt];grind)]
  by_cases hk:t=some k
  ·grind
  ·simp only[hk,if_false];exact(h.slots k).mono kp R J
 ·intro id o x s;rcases ZK l i t e id o x with ⟨k,rfl,r⟩ |r |⟨al,x⟩
  ·obtain⟨L,p,_,hr⟩:=O k o r;exact⟨L,p,hr S' R (fun id r o L b x s p f=> .inr ⟨id,o,L,r,x,s,p,f⟩) s⟩
  ·obtain⟨_,o',m,n⟩:=wr id o r;obtain⟨L,p,_⟩:=h.objs id o' m n;exact⟨L,J _ _ p,Z id o L r s p S' R (fun id r o L b x s p f=> .inr ⟨id,o,L,r,x,s,p,f⟩)⟩
  ·obtain⟨L,p,hr⟩:=h.objs id o x s;exact⟨L,J _ _ p,hr.mono kp R J (ax id o L x s al p)⟩
 ·intro id o L b x s p f;rw[ZbK];rcases ZK l i t e id o x with ⟨k,rfl,r⟩ |r |⟨al,x⟩
  ·obtain⟨L',q,B,_⟩:=O k o r;rw[p]at q;obtain rfl:=ZnN q;obtain⟨M,ao⟩:=B b f;have a2:l.fz (l.ep,i,k)=false:=by
    cases y:l.fz (l.ep,i,k)with
    |false=>rfl
    |true=>exact absurd (Y k) (h.fzk _ y)
   have ah:(l.ep,i,k)∉e.frz:=fun D=>(frz _ D).1 (Y k)
   have am:¬S' b:=by
    rintro(hS |⟨ab,Q,L1,U,u,z,F,N⟩)
    ·rcases M with M |⟨c,o',L',D,m,n,q,K,_⟩ |⟨_,_,hs,_⟩
     ·have:=h.sIn b hS;omega
     ·exact(h.own c o' L' b m n q K).2.2.2 (wr _ _ D).1 hS
     ·exact hs hS
    ·rcases M with M |⟨c,o',L',D,m,n,q,K,_⟩ |⟨_,_,_,hs⟩
     ·have:=(h.own ab Q L1 b u z F N).1;omega
     ·have:=W _ _ _ _ _ _ _ u z F N m n q K;subst this;exact(frz _ U).2 _ D
     ·exact hs ab Q L1 u z F N
   refine⟨ao, ?_,fun E=> ?_,fun _=>am⟩
   ·rcases M with M |⟨c,o',L',D,m,n,q,K,_⟩ |⟨_,hs,_⟩
    ·have:=h.grow;exact .inl (by omega)
    ·exact(h.own c o' L' b m n q K).2.1
    ·exact hs
   grind
  ·obtain⟨ap,o',m,n⟩:=wr id o r;have G:=H id L (h.known id (by simp[m])) p;obtain⟨V,h2,h3,h4⟩:=h.own id o' L b m n G f;have ah:id∉e.frz:=fun D=>(frz _ D).2 _ r
   refine⟨by omega,h2,fun E=>by simp[ap,ah]at E,fun _=> ?_⟩;rintro(hS |⟨ab,Q,L1,U,u,z,F,N⟩)
   ·exact h4 ap hS
   ·have:=W _ _ _ _ _ _ _ u z F N m n G f;subst this;exact ah U
  ·have G:=H id L (h.known id (by simp[x])) p;obtain⟨V,h2,h3,h4⟩:=h.own id o L b x s G f;refine⟨by omega,h2,fun E=> ?_,fun E=> ?_⟩
   ·simp only[Bool.or_eq_true,List.contains_iff_mem]at E;rcases E with E |E
    ·exact .inr ⟨id,o,L,E,x,s,G,f⟩
    ·exact .inl (h3 E)
   ·simp only[Bool.or_eq_false_iff]at E;rintro(hS |⟨ab,Q,L1,U,u,z,F,N⟩)
    ·exact h4 E.2 hS
    ·have:=W _ _ _ _ _ _ _ u z F N x s G f;subst this;have:=E.1;simp[U]at this
 ·
  have P:∀k o L c o' L' b,(k,o)∈e.new->o≠ .gone->ρ' (l.ep,i,k)=some L->L.blk=some b->(l.app i t e).objs c=some o'->o'≠ .gone->
    ((c,o')∈e.wr\/((∀I,(c,I)∉e.wr)/\l.objs c=some o'))->ρ' c=some L'->L'.blk=some b->False:=by
   intro k o L c o' L' b r s p f _ n T q A;obtain⟨L0,G,B,_⟩:=O k o r;rw[p]at G;obtain rfl:=ZnN G;have ak:∃Q,l.objs c=some Q/\Q≠ .gone:=by
    rcases T with y |y
    ·exact(wr _ _ y).2
    ·exact⟨o',y.2,n⟩
   obtain⟨Q,u,z⟩:=ak;have F:=H c L' (h.known c (by simp[u])) q;rcases(B b f).1 with M |⟨a3,o2,L2,aw,ac,ag,ay,av,ar⟩ |⟨_,_,_,hs⟩
   rotate_right
   ·exact hs c Q L' u z F A
   ·have:=(h.own c Q L' b u z F A).1;omega
   ·have:=W _ _ _ _ _ _ _ u z F A ac ag ay av;subst this;rcases T with y |y
    ·exact n (ar _ y)
    ·exact y.1 _ aw
  intro id o L c o' L' b x s p f m n q A;rcases ZK l i t e id o x with ⟨k,rfl,r⟩ |y
  ·rcases ZK l i t e c o' m with ⟨k',rfl,D⟩ |aj
   ·rw[ai k o L k' o' L' b r s p f D n q A]
   ·exact(P k o L c o' L' b r s p f m n aj q A).elim
  ·rcases ZK l i t e c o' m with ⟨k',rfl,D⟩ |aj
   ·exact(P k' o' L' id o L b D n q A x s y p f).elim
   ·have ae:∀id o,o≠ .gone->((id,o)∈e.wr\/((∀I,(id,I)∉e.wr)/\l.objs id=some o))->∃Q,l.objs id=some Q/\Q≠ .gone:=by
     intro id o s y;rcases y with y |y
     ·exact(wr _ _ y).2
     ·exact⟨o,y.2,s⟩
    obtain⟨Q,u,z⟩:=ae id o s y;obtain⟨o2,ac,ag⟩:=ae c o' n aj;exact W _ _ _ _ _ _ _ u z (H id L (h.known id (by simp[u])) p) f ac ag (H c L' (h.known c (by simp[ac])) q) A
 ·intro id hn;cases x:(l.app i t e).objs id with
  |none=>exact absurd x hn
  |some o=>
   rcases ZK l i t e id o x with ⟨k,rfl,r⟩ |r |⟨_,x⟩
   ·obtain⟨L,p,_⟩:=O k o r;simp[p]
   ·obtain⟨_,o',m,_⟩:=wr id o r;have:=h.known id (by simp[m]);cases y:ρ id with
    |none=>exact absurd y this
    |some L=>simp[J _ _ y]
   ·have:=h.known id (by simp[x]);cases y:ρ id with
    |none=>exact absurd y this
    |some L=>simp[J _ _ y]
 ·intro id hn;rw[ZcK];rcases af id hn with V |⟨V,h2⟩
  ·rcases h.young id V with h2 |⟨h2,h3⟩
   ·exact .inl h2
   ·exact .inr ⟨h2,.inl h3⟩
  ·exact .inr ⟨V,.inr h2⟩
 ·intro id E;rw[ZbK]at E;simp only[Bool.or_eq_true,List.contains_iff_mem]at E;have:ρ id≠none:=by
   rcases E with E |E
   ·exact(frz id E).1
   ·exact h.fzk id E
  cases y:ρ id with
  |none=>exact absurd y this
  |some L=>simp[J _ _ y]
 ·intro b B;rcases B with B |⟨id,o,L,r,x,s,p,f⟩
  ·exact h.sOut b B
  ·exact .inr (h.own id o L b x s p f).2.1
 ·intro k L hk hn;rcases af _ hn with V |⟨V,_⟩
  ·exact J _ _ (h.lay k L hk V)
  ·have:=h.ep1;simp only at V;omega
theorem Rep.step {C:Ctx} {X:Nat->Prop} {ρ:Id->Option Lay} {S:Nat->Prop} {c:St} {a:Act} {w:World} (h:Rep C X ρ S c a.tmps w)
  {i:Nat} {t:Option Nat} {e:Eff} {v:Value} {w':World} (ρ':Id->Option Lay)
  (hi:¬X i) (F:∀d,t=some d->d < C.E.nt)
  (g:w.heap.size<=w'.heap.size) (D:ZQ w w')
  (l:∀b,b < w.heap.size->(∀id o L,(id,o)∈e.wr->ρ id=some L->L.blk≠some b)->w'.heap[b]? =w.heap[b]?)
  (wr:∀id o,(id,o)∈e.wr->c.fz id=false/\∃o',c.objs id=some o'/\o'≠ .gone)
  (q:∀id L,ρ id=some L->ρ' id=some L)
  (p:∀id,ρ' id≠none->ρ id≠none\/(id.1=c.ep/\id.2.1=i))
  (frz:∀id,id∈e.frz->ρ id≠none/\∀o',(id,o')∉e.wr)
  (B:∀k o,(k,o)∈e.new->∃L,ρ' (c.ep,i,k)=some L/\(∀b,L.blk=some b->
   (w.heap.size<=b\/∃id o' L',(id,Obj.gone)∈e.wr/\c.objs id=some o'/\o'≠ .gone/\ρ id=some L'/\L'.blk=some b/\(∀n,(id,n)∈e.wr->n= .gone))/\b < w'.heap.size)/\
   ∀S',(∀b,S b->S' b)->(∀id,id∈e.frz->∀o L b,c.objs id=some o->o≠ .gone->ρ id=some L->L.blk=some b->S' b)->o≠ .gone->Zp w' S' ρ' L o)
  (m:∀k o L u o' L' b,(k,o)∈e.new->o≠ .gone->ρ' (c.ep,i,k)=some L->L.blk=some b->(u,o')∈e.new->o'≠ .gone->ρ' (c.ep,i,u)=some L'->L'.blk=some b->k=u)
  (f:∀id o L,(id,o)∈e.wr->o≠ .gone->ρ id=some L->∀S',(∀b,S b->S' b)->(∀id,id∈e.frz->∀o L b,c.objs id=some o->o≠ .gone->ρ id=some L->L.blk=some b->S' b)->Zp w' S' ρ' L o)
  (x:∀S',(∀b,S b->S' b)->(∀id,id∈e.frz->∀o L b,c.objs id=some o->o≠ .gone->ρ id=some L->L.blk=some b->S' b)->(∀d,t=some d->RelD w' S' ρ' v e.val))
  (s:∀k o,(k,o)∈e.new->o.isOwn=false:=by simp) (wown:∀id o,(id,o)∈e.wr->o.isOwn=false:=by simp):
  ∃S',Rep C (fun j=>X j\/j=i) ρ' S' (c.app i t e) (a.put t v).tmps w':=by
 refine h.stepG ρ' hi F g D l wr q p frz (fun k o G=> ?_) m f x (fun S' y z E=> ?_)
 ·grind
 ·refine h.famStep ρ' g l wr q E y (fun b A=>(z b A).imp id fun⟨id,o,L,_,r⟩=> .inr ⟨id,o,L,r⟩) (fun k o L b G H A=> ?_) (Zfp.none s) (fun k=> ?_) wown
  rotate_right
  ·cases hc:ρ (c.ep,i,k)with
   |none=>rfl
   |some L=>have:=h.young (c.ep,i,k) (by grind);grind
  grind
end Eng
namespace Eng
open Go
def Zat:TypeDesc->TD->Bool
 | .bool,.bool=>true
 | .int k,.int k'=>k == k'
 | .string,.str=>true
 | .slice e,.sl e'=>e == e'
 | .array n e,.arr n' e'=>n == n'&&e == e'
 | .pointer e,.ptr e'=>e == e'
 | .map k e,.map k' e'=>k == k'&&e == e'
 | .struct fs,.struct gs=>fs.toList.map (fun f=>(f.offset,f.type)) == gs&&fs.all (fun f=>f.name != "_")
 | .func _ _ _,.func=>true
 | .tuple _,.tup=>true
 |_,_=>false
def zOk:Value->Z->Bool
 | .bool false,.p (.bool false)=>true
 | .int k n,.p (.int k' m)=>k == k'&&n == 0&&m == 0
 | .string s,.p (.str [])=>s.data.size == 0
 | .slice none 0 0,.nils _=>true
 | .pointer none,.p .nilp=>true
 | .map none,.p (.map _ [])=>true
 | .nilFunc,.p .nilfn=>true
 |_,_=>false
def Zmg:List Value->List Z->Bool
 | [],[]=>true
 |v::vs,z::zs=>zOk v z&&Zmg vs zs
 |_,_=>false
def tiOk (p:Program) (t:Nat) (ti:TI):Bool:=
 match p.info? t,p.underlying t with
 |some i,some d=>i.size == ti.size&&i.bytes == ti.bytes&&Zat d ti.d&&(match ti.d with | .struct fs=> !p.stoodInHeld t&& !p.eqGuardType p.depth t&&fs.all (fun f=>(p.info? f.2).isSome) | .arr _ a=>(p.info? a).isSome |_=>true)&&
  (match i.zero with
   |some z=>Zmg z.cells.toList ti.zero&&(if ti.isAgg then (match z with | .agg _=>true |_=>false)else (match z with | .agg _=>false |_=>ti.zero.length == 1))&&ti.zero.length == ti.size
   |none=>false)
 |_,_=>false
def ZjH (p:Program):Nat->List (Option TI)->Bool
 |_,[]=>true
 |t,none::r=>ZjH p (t+1) r
 |t,some ti::r=>tiOk p t ti&&ZjH p (t+1) r
structure Zl (E:Env):Prop where
 tys:ZjH E.prog 0 E.tys=true
theorem ZdH {p:Program}:∀{l:List (Option TI)} {n t:Nat} {ti:TI},ZjH p n l=true->l[t]? =some (some ti)->tiOk p (n+t) ti=true
 | [],n,t,ti,_,h=>by grind
 |none::r,n,t,ti,h,hg=>by
  cases t with
  |zero=>simp_all
  |succ t=>simp only[List.getElem?_cons_succ]at hg;have:=ZdH (n:=n+1) h hg;grind
 |some x::r,n,t,ti,h,hg=>by
  simp only[ZjH,Znu]at h;cases t with
  |zero=>simp_all
  |succ t=>simp only[List.getElem?_cons_succ]at hg;have:=ZdH (n:=n+1) h.2 hg;grind
theorem Zl.ti {E:Env} (h:Zl E) {t:Nat} {ti:TI} (a:E.ty t=some ti):tiOk E.prog t ti=true:=by
 unfold Env.ty at a;split at a;rotate_left;simp at a;rename_i i hi;cases a;have:=ZdH h.tys hi
 simp_all
structure TIs (p:Program) (t:Nat) (ti:TI) (i:TypeInfo) (d:TypeDesc) (z:Value):Prop where
 info:p.info? t=some i
 und:p.underlying t=some d
 size:i.size=ti.size
 bytes:i.bytes=ti.bytes
 td:Zat d ti.d=true
 eq:(match ti.d with | .struct fs=> !p.stoodInHeld t&& !p.eqGuardType p.depth t&&fs.all (fun f=>(p.info? f.2).isSome) | .arr _ el=>(p.info? el).isSome |_=>true)=true
 zero:i.zero=some z
 zs:Zmg z.cells.toList ti.zero=true
 zl:ti.zero.length=ti.size
 agg:ti.isAgg=true->∃cs,z= .agg cs
 flat:ti.isAgg=false->z.cells= #[z]/\ti.zero.length=1
theorem Zl.is {E:Env} (h:Zl E) {t:Nat} {ti:TI} (p:E.ty t=some ti):∃i d z,TIs E.prog t ti i d z:=by
 have a:=h.ti p;unfold tiOk at a;split at a;rotate_left;simp at a;rename_i i d hi k;simp only[Znu,beq_iff_eq]at a;obtain⟨⟨⟨⟨o,g⟩,n⟩,c⟩,b⟩:=a;split at b;rotate_left;simp at b;rename_i z l;simp only[Znu,beq_iff_eq]at b;obtain⟨⟨j,e⟩,m⟩:=b;refine⟨i,d,z,⟨hi,k,o,g,n,c,l,j,m,fun f=> ?_,fun f=> ?_⟩⟩
 ·grind
 ·rw[f]at e;cases z<;>simp at e<;>exact⟨rfl,e⟩
theorem Za {P:Program} {t:TypeId} {d:TypeDesc} (h:P.underlying t=some d) (w:World):(underlying t).run P w= .ok d w:=run_underlying h w
theorem ZC {P:Program} {t:TypeId} {i:TypeInfo} (h:P.info? t=some i) (w:World):(typeInfo t).run P w= .ok i w:=by simp[typeInfo,h]
theorem Zao {P:Program} {t:TypeId} {i:TypeInfo} (h:P.info? t=some i) (w:World):(Go.sizeOf t).run P w= .ok i.size w:=by simp[Go.sizeOf,ZC h]
theorem Z0 {P:Program} {t:TypeId} {i:TypeInfo} {z:Value} (h:P.info? t=some i) (a:i.zero=some z) (w:World):(zeroValue t).run P w= .ok z w:=by simp[zeroValue,ZC h,a]
theorem TIs.isAgg {p:Program} {t:Nat} {ti:TI} {i:TypeInfo} {d:TypeDesc} {z:Value} (h:TIs p t ti i d z) (w:World):(Go.isAgg t).run p w= .ok ti.isAgg w:=by have:=h.td;unfold Go.isAgg;rw[Sem.run_bind,Za h.und w];cases d<;>cases hd:ti.d<;>simp[hd,Zat]at this<;>simp[TI.isAgg,hd]
theorem Zmh {w:World} {S:Nat->Prop} {ρ:Id->Option Lay} {v:Value} {z:Z} (h:zOk v z=true):RelD w S ρ v z.toD/\Zbp v:=by
 unfold zOk at h;split at h
 ·exact⟨.p _ _ (.bool false),rfl⟩
 ·rename_i k n a m;simp only[Znu,beq_iff_eq]at h;obtain⟨⟨rfl,rfl⟩,rfl⟩:=h;refine⟨.p _ _ (.int _ _ ?_ ?_),rfl⟩<;>cases k<;>decide
 ·rename_i s;obtain⟨⟨l⟩⟩:=s;simp at h;subst h;exact⟨.p _ _ (.str [] (by simp)),rfl⟩
 ·exact⟨.nils _,rfl⟩
 ·exact⟨.p _ _ .nilp,rfl⟩
 ·exact⟨.p _ _ (.nilmap _),rfl⟩
 ·exact⟨.p _ _ .nilfn,rfl⟩
 simp_all
theorem Zco:∀{vs:List Value} {a:List Z},Zmg vs a=true->vs.length=a.length/\∀(i:Nat) v z,vs[i]? =some v->a[i]? =some z->zOk v z=true
 | [],[],_=>⟨rfl,by simp⟩
 | [],_::_,h=>by grind[Zmg]
 |_::_,[],h=>by grind[Zmg]
 |v::vs,z::a,h=>by
  simp only[Zmg,Znu]at h;obtain⟨b,hi⟩:=Zco h.2;grind
theorem ZmA {w:World} {S:Nat->Prop} {ρ:Id->Option Lay} (sz:Nat) (td:TD) {v:Value} (h:ZE (.const v)=true):RelD w S ρ v (D.ofV sz td v):=by
 unfold D.ofV;split
 ·exact .p _ _ (.bool _)
 ·simp[ZE]at h;exact .p _ _ (.int _ _ h.1 h.2)
 ·rename_i s;obtain⟨⟨l⟩⟩:=s;simp[ZE]at h;exact .p _ _ (.str l h)
 ·exact .nils sz
 ·exact .p _ _ .nilp
 ·exact .p _ _ (.nilmap _)
 ·exact .p _ _ .nilfn
 ·exact .dead v
theorem Zm {C:Ctx} {X:Nat->Prop} {ρ:Id->Option Lay} {S:Nat->Prop} {c:St} {a:Act} {w:World} (h:Rep C X ρ S c a.tmps w) (t:Nat) {x:Operand} (i:ZE x=true):
  RelD w S ρ (a.eval x) (ev C.E c.slots t x):=by
 cases x with
 |tmp k=>exact h.slots k
 |const v=>exact ZmA _ _ i
 |global g=>
  simp only[Act.eval,ev,Env.glob];split
  ·rename_i x b;have d:=List.find?_some b;have e:=List.mem_of_find?_eq_some b;simp only[beq_iff_eq]at d;subst d;exact .p _ _ (h.glob _ _ e).1
  ·exact .dead _
 |func f=>exact .p _ _ (.fn f #[] #[] [] [] rfl rfl (by simp) (by simp))
end Eng
namespace Eng
open Go
section
variable {C:Ctx} {X:Nat->Prop} {ρ:Id->Option Lay} {S:Nat->Prop} {st:St} {a:Act} {w:World} {i:Nat} {o:Oper} {e:Eff}
def Zv (C:Ctx) (X:Nat->Prop) (b:St) (a:Act) (w:World) (i:Nat) (o:Oper) (e:Eff):Prop:=
 ∃n v w',(execOp a.eval o).run C.E.prog w= .ok n w'/\(n= .value v\/(n= .skip/\v=undef))/\
  ∃ρ' S',Rep C (fun j=>X j\/j=i) ρ' S' (b.app i o.dst e) (a.put o.dst v).tmps w'
theorem Zv.frz (h:Rep C X ρ S st a.tmps w) (hi:¬X i) (m:∀d,o.dst=some d->d < C.E.nt) {v:Value} (c:(execOp a.eval o).run C.E.prog w= .ok (.value v) w)
  (n:e.new=[]) (hw:e.wr=[]) (j:∀id,id∈e.frz->ρ id≠none)
  (g:∀S',(∀b,S b->S' b)->(∀id,id∈e.frz->∀o L b,st.objs id=some o->o≠ .gone->ρ id=some L->L.blk=some b->S' b)->RelD w S' ρ v e.val):Zv C X st a w i o e:=
 ⟨_,v,w,c,.inl rfl,ρ,h.step ρ hi m (ZnJ _) (ZQ.refl _) (fun _ _ _=>rfl) (by grind) (fun _ _ h=>h) (fun id h=> .inl h) (fun id f=>⟨j id f,by grind⟩)
  (by grind) (by grind) (by grind) (fun S' k l _ _=>g S' k l) (by grind) (by grind)⟩
theorem Zv.quiet (h:Rep C X ρ S st a.tmps w) (hi:¬X i) (j:∀d,o.dst=some d->d < C.E.nt) {v:Value} (b:(execOp a.eval o).run C.E.prog w= .ok (.value v) w)
  (f:e.new=[]) (hw:e.wr=[]) (k:e.frz=[]) (c:RelD w S ρ v e.val):Zv C X st a w i o e:=
 Zv.frz h hi j b f hw (by grind) fun _ g _=>c.mono (fun _ _ _=>rfl) g fun _ _ h=>h
theorem RelD.of_p {v:Value} {x:P} (h:RelD w S ρ v (.p x)):RelP w S v x:=by cases h;omega
theorem RelP.bool_inv {v:Value} {b:Bool} (h:RelP w S v (.bool b)):v= .bool b:=by cases h;rfl
theorem RelP.int_inv {v:Value} {k:IntKind} {n:Int} (h:RelP w S v (.int k n)):v= .int k n/\k.min<=n/\n<=k.max:=by cases h;simp_all
theorem RelP.str_inv {v:Value} {s:List UInt8} (h:RelP w S v (.str s)):v= .string ⟨s.toArray⟩/\s.length<=Zr:=by cases h;simp_all
theorem Za9 (k:IntKind) (n:Int):k.min<=k.wrap n/\k.wrap n<=k.max:=by
 unfold IntKind.wrap;cases k<;>simp only[IntKind.min,IntKind.max,IntKind.bits,IntKind.signed,Bool.true_and,Bool.false_and,Znv,if_true,if_false]<;>
  first
   |omega
   |grind
theorem Zmi (k:IntKind) (n:Int) (b:k.min<=n) (a:n<=k.max):k.wrap n=n:=by
 unfold IntKind.wrap;cases k<;>simp only[IntKind.min,IntKind.max,IntKind.bits,IntKind.signed,Bool.true_and,Bool.false_and,Znv,if_true,if_false]at* <;>
  first
   |omega
   |grind
variable (h:Rep C X ρ S st a.tmps w) (hi:¬X i) (ht:∀d,o.dst=some d->d < C.E.nt) (hlit:o.op.operands.all ZE=true) (hE:Zl C.E)
include h hi ht hlit
theorem ZkA {x:Operand} (c:o.op= .move x) (b:Zf C.E st.ep i o.op o.type st.slots st.objs=some e):Zv C X st a w i o e:=by rw[c]at b hlit;simp only[Zf,ZnO]at b;subst b;exact Zv.quiet h hi ht (by simp[execOp,c]) rfl rfl rfl (Zm h _ (by grind[Op.operands]))
theorem Zky {c x y:Operand} (g:o.op= .pick c x y) (d:Zf C.E st.ep i o.op o.type st.slots st.objs=some e):Zv C X st a w i o e:=by rw[g]at d hlit;simp[Op.operands]at hlit;have f:=Zm h o.type hlit.1;have m:=Zm h o.type hlit.2.1;have l:=Zm h o.type hlit.2.2;simp only[Zf]at d;split at d;rotate_left;simp at d;rename_i b j;cases d;rw[j]at f;have k:=f.of_p.bool_inv;refine Zv.quiet h hi ht (v:=if b then a.eval x else a.eval y) (by simp_all[execOp,asBool]) rfl rfl rfl ?_;grind
theorem ZfU {x:Operand} (f:o.op= .nilCheck x) (c:Zf C.E st.ep i o.op o.type st.slots st.objs=some e):Zv C X st a w i o e:=by
 rw[f]at c hlit;simp[Op.operands]at hlit;have b:=Zm h 0 hlit;simp only[Zf]at c;split at c<;>simp only[ZnO,reduceCtorEq]at c
 all_goals
  subst c;rename_i d;rw[d]at b;refine Zv.quiet h hi ht (v:=a.eval x) ?_ rfl rfl rfl b;generalize hv:a.eval x=v at b
 ·cases b with |p _ _ b=>cases b;simp_all[execOp]
 ·cases b;simp_all[execOp]
 ·cases b with |p _ _ b=>cases b;simp_all[execOp]
 ·cases b;simp_all[execOp]
 ·cases b;simp_all[execOp]
theorem ZgS {x:Operand} {n:Nat} (j:o.op= .extract x n) (b:Zf C.E st.ep i o.op o.type st.slots st.objs=some e):Zv C X st a w i o e:=by
 rw[j]at b hlit;simp[Op.operands]at hlit;have g:=Zm h 0 hlit;simp only[Zf]at b;split at b;rotate_left;simp at b;rename_i vs c;rw[c]at g;simp only[ZnM]at b;obtain⟨d,k,rfl⟩:=b;cases hv:a.eval x<;>rw[hv]at g<;>cases g;rename_i us m l;have f:n < us.size:=by grind
 refine Zv.quiet h hi ht (v:=us[n]) (by simp[execOp,j,hv,Instr.extract,f]) rfl rfl rfl (l n _ d (by grind) k)
theorem ZfV {f:Fn} {fs cs:Array Operand} (p:o.op= .makeFunc f fs cs) (m:Zf C.E st.ep i o.op o.type st.slots st.objs=some e):Zv C X st a w i o e:=by
 rw[p]at m hlit;cases f<;>simp only[Zf,ZnO,reduceCtorEq]at m;rename_i f;subst m;simp[Op.operands]at hlit;have key:∀(xs:Array Operand),(∀x∈xs,ZE x=true)->∀(k:Nat) v d,(xs.map a.eval)[k]? =some v->(xs.toList.map (ev C.E st.slots 0))[k]? =some d->RelD w S ρ v d:=by
  grind[Zm]
 refine Zv.quiet h hi ht (v:= .func (.func f) (fs.map a.eval) (cs.map a.eval)) (by simp[execOp,p,Instr.makeFunc]) rfl rfl rfl ?_;have k1:=key fs (fun x g=>by grind[Zns]);have l:=key cs (fun x g=>by grind[Zns]);dsimp only;split
 ·rename_i pa q b c;rw[Zx b]at k1;rw[Zx c]at l;have n:=congrArg List.length (Zx b);have lb:=congrArg List.length (Zx c);simp at n lb;exact .p _ _ (.fn f _ _ pa q (by simpa using n) (by simpa using lb) (fun k v x j g=>(k1 k v _ j (by simp[g])).of_p) (fun k v x j g=>(l k v _ j (by simp[g])).of_p))
 ·exact .fn f _ _ _ _ (by simp) (by simp) k1 l
omit h hi ht hlit in
theorem ZdB {op:BinOp} {k:IntKind} {x y n:Int} (hb:ZfZ op k x y=some n):k.min<=n/\n<=k.max:=by
 unfold ZfZ at hb
 cases op<;>simp at hb<;>subst hb<;>exact Za9 k _
omit h hi ht hlit in
theorem kind0 (k:IntKind):k.min<=0/\0<=k.max:=by cases k<;>decide
omit h hi ht hlit in
theorem Zl2 (n:Nat) (y:Int):0<=((n:Int)).tmod y/\((n:Int)).tmod y<=n:=by
 obtain⟨m,rfl |rfl⟩:∃m:Nat,y=m\/y= -(m:Int):=⟨y.natAbs,by omega⟩
 ·have:=Nat.mod_le n m
  have e:((n:Int)).tmod (m:Int)=((n % m:Nat):Int):=rfl
  omega
 ·have:=Nat.mod_le n m
  have e:((n:Int)).tmod (-(m:Int))=((n % m:Nat):Int):=by rw[Int.tmod_neg];rfl
  omega
omit h hi ht hlit in
theorem ZeP (k:IntKind) (x y:Int) (h0:k.min<=x) (h1:x<=k.max):k.min<=x.tmod y/\x.tmod y<=k.max:=by
 have hm:=kind0 k
 by_cases hx:0<=x
 ·obtain⟨n,rfl⟩:=Int.eq_ofNat_of_zero_le hx
  have:=Zl2 n y
  omega
 ·obtain⟨n,rfl⟩:∃n:Nat,x= -(n:Int):=⟨x.natAbs,by omega⟩
  rw[Int.neg_tmod]
  have:=Zl2 n y
  omega
omit h hi ht hlit in
theorem Ze9 (k:IntKind) (x:Int) (m:Nat) (h0:k.min<=x) (h1:x<=k.max):k.min<=x.fdiv (2 ^ m)/\x.fdiv (2 ^ m)<=k.max:=by
 have hm:=kind0 k
 have hp:(0:Int) < 2 ^ m:=Int.pow_pos (by decide)
 rw[Int.fdiv_eq_ediv_of_nonneg _ (by omega)]
 by_cases hx:0<=x
 ·have:=Int.ediv_nonneg hx (by omega:(0:Int)<=2 ^ m)
  have:=Int.ediv_le_self (2 ^ m) hx
  omega
 ·have h2:x / 2 ^ m < 0:=Int.ediv_neg_of_neg_of_pos (by omega) hp
  have h3:x<=x / 2 ^ m:=by
   refine Int.le_ediv_of_mul_le hp ?_
   obtain⟨d,hd⟩:=Int.eq_ofNat_of_zero_le (by omega:0<=(2:Int) ^ m - 1)
   have e:(2:Int) ^ m=1+d:=by omega
   rw[e,Int.mul_add,Int.mul_one]
   have:=Int.mul_nonpos_of_nonpos_of_nonneg (by omega:x<=0) (by omega:(0:Int)<=d)
   omega
  omega
omit h hi ht hlit in
theorem ZaI (k:IntKind) (n:Int) (hc:∀q∈(ZaJ k n).2,q=true):RelP w S (.int k (k.wrap n)) (ZaJ k n).1:=by
 have gen:RelP w S (.int k (k.wrap n)) (.int k (k.wrap n)):= .int k _ (Za9 k n).1 (Za9 k n).2
 cases k<;>first
  |exact gen
  |(have hc:=Zkn.1 (hc (Zls n) (by simp[ZaJ]));rw[Zmi _ n hc.1 hc.2];exact .int _ n hc.1 hc.2)
omit h hi ht hlit in
theorem Zkm {op:BinOp} {k:IntKind} {x y:Int} {z:P} {c:List Bool} (hx:k.min<=x/\x<=k.max) (hz:ZmN op k x y=some (z,c))
  (hc:∀q∈c,q=true) (P:Program) (t:TypeId) (w:World):
  ∃v,(Go.binOp op t (.int k x) (.int k y)).run P w= .ok v w/\RelP w S v z:=by
 have rb:∀b:Bool,RelP w S (.bool b) (.bool b):=fun b=> .bool b
 have bits:∀n,ZfZ op k x y=some n->z= .int k n->(op= .and\/op= .or\/op= .xor\/op= .andNot)->∃v,(Go.binOp op t (.int k x) (.int k y)).run P w= .ok v w/\RelP w S v z:=by
  intro n hn hz hop
  subst hz
  refine⟨.int k n, ?_,.int k n (ZdB hn).1 (ZdB hn).2⟩
  rcases hop with rfl |rfl |rfl |rfl<;>simp[ZfZ]at hn<;>subst hn<;>simp[Go.binOp,Op.intBits]
 cases op<;>simp only[ZmN,Option.some.injEq,Prod.mk.injEq]at hz
 case add=>obtain⟨rfl,rfl⟩:=Prod.mk.injEq .. ▸hz;exact⟨_,by simp[Go.binOp,Op.intArith],ZaI k _ hc⟩
 case sub=>obtain⟨rfl,rfl⟩:=Prod.mk.injEq .. ▸hz;exact⟨_,by simp[Go.binOp,Op.intArith],ZaI k _ hc⟩
 case mul=>obtain⟨rfl,rfl⟩:=Prod.mk.injEq .. ▸hz;exact⟨_,by simp[Go.binOp,Op.intArith],ZaI k _ hc⟩
 case quo=>
  obtain⟨rfl,rfl⟩:=hz
  have h0:¬y=0:=of_decide_eq_true (hc (decide (y≠0)) (by simp))
  exact⟨_,by simp[Go.binOp,Op.intDiv,h0],ZaI k _ fun q hq=>hc q (by simp[hq])⟩
 case rem=>
  obtain⟨rfl,rfl⟩:=hz
  have h0:¬y=0:=of_decide_eq_true (hc (decide (y≠0)) (by simp))
  exact⟨_,by simp[Go.binOp,Op.intDiv,h0],.int _ _ (ZeP _ _ _ hx.1 hx.2).1 (ZeP _ _ _ hx.1 hx.2).2⟩
 case shl=>simp[ZfZ]at hz
 case shr=>simp[ZfZ]at hz
 case eql=>obtain⟨rfl,rfl⟩:=hz;exact⟨_,by simp[Go.binOp,Op.intCmp],rb _⟩
 case neq=>obtain⟨rfl,rfl⟩:=hz;exact⟨_,by simp[Go.binOp,Op.intCmp],rb _⟩
 case lss=>obtain⟨rfl,rfl⟩:=hz;exact⟨_,by simp[Go.binOp,Op.intCmp],rb _⟩
 case leq=>obtain⟨rfl,rfl⟩:=hz;exact⟨_,by simp[Go.binOp,Op.intCmp],rb _⟩
 case gtr=>obtain⟨rfl,rfl⟩:=hz;exact⟨_,by simp[Go.binOp,Op.intCmp],rb _⟩
 case geq=>obtain⟨rfl,rfl⟩:=hz;exact⟨_,by simp[Go.binOp,Op.intCmp],rb _⟩
 all_goals
  split at hz
  rotate_left
  simp at hz
  rename_i n hn
  simp only[Option.some.injEq,Prod.mk.injEq]at hz
  exact bits n hn hz.1.symm (by simp)
omit h hi ht hlit in
theorem ZdL {op:BinOp} {k k':IntKind} {x y:Int} {z:P} {c:List Bool} (hx:k.min<=x/\x<=k.max) (hz:Zhg op k x y=some (z,c)) (hop:op= .shl\/op= .shr)
  (hc:∀q∈c,q=true) (P:Program) (t:TypeId) (w:World):
  ∃v,(Go.binOp op t (.int k x) (.int k' y)).run P w= .ok v w/\RelP w S v z:=by
 rcases hop with rfl |rfl<;>simp only[Zhg,Option.some.injEq,Prod.mk.injEq]at hz<;>obtain⟨rfl,rfl⟩:=hz
 ·have h0:¬y < 0:=by have:=of_decide_eq_true (hc (decide (0<=y)) (by simp));omega
  exact⟨_,by simp[Go.binOp,Op.shift,h0],.int k _ (Za9 k _).1 (Za9 k _).2⟩
 ·have h0:¬y < 0:=by have:=of_decide_eq_true (hc (decide (0<=y)) (by simp));omega
  exact⟨_,by simp[Go.binOp,Op.shift,h0],.int k _ (Ze9 k x _ hx.1 hx.2).1 (Ze9 k x _ hx.1 hx.2).2⟩
omit h hi ht hlit in
theorem ZjM {op:BinOp} {x y:List UInt8} {z:P} {c:List Bool} (hz:Zmm op x y=some (z,c)) (hc:∀q∈c,q=true) (P:Program) (t:TypeId) (w:World):
  ∃v,(Go.binOp op t (.string ⟨x.toArray⟩) (.string ⟨y.toArray⟩)).run P w= .ok v w/\RelP w S v z:=by
 have rb:∀b:Bool,RelP w S (.bool b) (.bool b):=fun b=> .bool b
 cases op<;>simp only[Zmm,Option.some.injEq,Prod.mk.injEq,reduceCtorEq]at hz<;>obtain⟨rfl,rfl⟩:=hz
 case add=>
  have h0:=of_decide_eq_true (hc _ (by simp;rfl))
  refine⟨.string ⟨(x++y).toArray⟩, ?_,.str _ (by simpa using h0)⟩
  have e:(ByteArray.mk x.toArray++ByteArray.mk y.toArray)=ByteArray.mk (x++y).toArray:=by
   apply ByteArray.ext;simp
  have hs:¬(((ByteArray.mk x.toArray).size+(ByteArray.mk y.toArray).size:Nat):Int) > IntKind.i64.max:=by
   have:(ByteArray.mk x.toArray).size=x.length:=by simp[ByteArray.size]
   have:(ByteArray.mk y.toArray).size=y.length:=by simp[ByteArray.size]
   have:IntKind.i64.max=9223372036854775807:=by decide
   unfold Zr at h0
   omega
  simp only[Go.binOp,Op.stringOp,hs,if_false,e]
  rfl
 all_goals exact⟨_,by simp[Go.binOp,Op.stringOp],rb _⟩
omit h hi ht hlit in
theorem Zc5 {op:BinOp} {t:TypeId} {x y:Operand} {u v:Value} (P:Program) (w:World) (hu:(∀cs,u≠ .agg cs)/\u≠ .nilIface):(eqGuard op t x y u v).run P w= .ok () w:=by
 unfold eqGuard
 cases op<;>(try rfl)<;>cases u<;>first |rfl |(simp at hu;done)
theorem Zbo {b:BinOp} {t m:TypeId} {x y:Operand} (l:o.op= .binOp b t x y m) {u v:P} (n:ev C.E st.slots 0 x= .p u) (k:ev C.E st.slots 0 y= .p v)
  (c:e.new=[]/\e.wr=[]/\e.frz=[]) {z:P} (s:e.val= .p z)
  (f:∀p q,RelP w S p u->RelP w S q v->∃r,(Go.binOp b t p q).run C.E.prog w= .ok r w/\RelP w S r z/\((∀cs,p≠ .agg cs)/\p≠ .nilIface)):Zv C X st a w i o e:=by
 rw[l]at hlit;simp[Op.operands]at hlit;have g:=Zm h 0 hlit.1;have j:=Zm h 0 hlit.2;rw[n]at g;rw[k]at j;obtain⟨r,B,d,A⟩:=f _ _ g.of_p j.of_p;refine Zv.quiet h hi ht (v:=r) ?_ c.1 c.2.1 c.2.2 (s▸ .p _ _ d);grind[execOp,Sem.run_bind,Result.andThen_ok,Sem.run_pure,Zc5]
omit h hi ht hlit in
theorem Zl.und {E:Env} (hE:Zl E) {t:Nat} {td:TD} (h:E.td t=some td):∃d,E.prog.underlying t=some d/\Zat d td=true:=by
 unfold Env.td at h
 split at h
 rotate_left
 simp at h
 rename_i ti hti
 simp only[Option.some.injEq]at h
 obtain⟨i,d,z,hi⟩:=hE.is hti
 exact⟨d,hi.und,h▸hi.td⟩
omit h hi ht hlit in
theorem ZfR {P:Program} (w:World) (t e:TypeId) (p:Option Addr) (hu:P.underlying t=some (.pointer e)):(Op.equal t (.pointer p) (.pointer none)).run P w= .ok p.isNone w:=by
 have key:∀d,(Op.equalIn (d+1) t (.pointer p) (.pointer none)).run P w= .ok p.isNone w:=by intro d;cases p<;>simp[Op.equalIn,Za hu]
 exact key 9999
omit h hi ht hlit in
theorem Zeh {P:Program} (w:World) (t e:TypeId) (p:Option Addr) (n c:Nat) (hu:P.underlying t=some (.slice e)):(Op.equal t (.slice p n c) (.slice none 0 0)).run P w= .ok p.isNone w:=by
 have key:∀d,(Op.equalIn (d+1) t (.slice p n c) (.slice none 0 0)).run P w= .ok p.isNone w:=by intro d;cases p<;>simp[Op.equalIn,Za hu]
 exact key 9999
omit h hi ht hlit in
theorem ZeG {P:Program} (w:World) (t:TypeId) (ps rs:Array TypeId) (vr:Bool) (f:Fn) (g k:Array Value) (hu:P.underlying t=some (.func ps rs vr)):(Op.equal t (.func f g k) .nilFunc).run P w= .ok false w:=by
 have key:∀d,(Op.equalIn (d+1) t (.func f g k) .nilFunc).run P w= .ok false w:=by intro d;simp[Op.equalIn,Za hu]
 exact key 9999
omit h hi ht hlit in
theorem ZeF {P:Program} (w:World) (t:TypeId) (ps rs:Array TypeId) (vr:Bool) (hu:P.underlying t=some (.func ps rs vr)):(Op.equal t .nilFunc .nilFunc).run P w= .ok true w:=by
 have key:∀d,(Op.equalIn (d+1) t .nilFunc .nilFunc).run P w= .ok true w:=by intro d;simp[Op.equalIn,Za hu]
 exact key 9999
omit h hi ht hlit in
theorem ZeY {E:Env} (hE:Zl E) {t:TypeId} {td:TD} (htd:E.td t=some td) {y:Operand} {dx d:D} {v:Value} (hv:RelD w S ρ v dx) (hd:Zdi td y dx=some d) (w:World):
  ∃r:Bool,(Go.binOp .eql t v (a.eval y)).run E.prog w= .ok (.bool r) w/\(Go.binOp .neq t v (a.eval y)).run E.prog w= .ok (.bool !r) w/\
   (d= .p (.bool r)\/d= .anyb)/\((∀cs,v≠ .agg cs)/\v≠ .nilIface):=by
 obtain⟨ds,hu,hk⟩:=hE.und htd
 have eqp:∀e p,E.prog.underlying t=some (.pointer e)->(Op.equal t (.pointer p) (.pointer none)).run E.prog w= .ok p.isNone w:=fun e p hu=>ZfR w t e p hu
 have eqs:∀e p n c,E.prog.underlying t=some (.slice e)->(Op.equal t (.slice p n c) (.slice none 0 0)).run E.prog w= .ok p.isNone w:=fun e p n c hu=>Zeh w t e p n c hu
 have eqf:∀f g h ps rs vr,E.prog.underlying t=some (.func ps rs vr)->(Op.equal t (.func f g h) .nilFunc).run E.prog w= .ok false w:=fun f g h ps rs vr hu=>ZeG w t ps rs vr f g h hu
 have eqn:∀ps rs vr,E.prog.underlying t=some (.func ps rs vr)->(Op.equal t .nilFunc .nilFunc).run E.prog w= .ok true w:=fun ps rs vr hu=>ZeF w t ps rs vr hu
 unfold Zdi at hd
 split at hd
 ·
  have hy:a.eval (.const (.pointer none))= .pointer none:=rfl
  cases ds<;>simp[Zat]at hk
  rename_i e
  split at hd<;>simp only[Option.some.injEq,reduceCtorEq]at hd<;>subst hd
  ·cases hv with |p _ _ hv=>cases hv;exact⟨true,by simp[Go.binOp,hy,eqp e none hu],by simp[Go.binOp,hy,eqp e none hu],.inl rfl,by simp,by simp⟩
  ·cases hv with |p _ _ hv=>cases hv;exact⟨false,by simp[Go.binOp,hy,eqp e (some _) hu],by simp[Go.binOp,hy,eqp e (some _) hu],.inl rfl,by simp,by simp⟩
  ·cases hv;exact⟨false,by simp[Go.binOp,hy,eqp e (some _) hu],by simp[Go.binOp,hy,eqp e (some _) hu],.inl rfl,by simp,by simp⟩
 ·
  have hy:a.eval (.const .nilFunc)= .nilFunc:=rfl
  cases ds<;>simp[Zat]at hk
  rename_i ps rs vr
  split at hd<;>simp only[Option.some.injEq,reduceCtorEq]at hd<;>subst hd
  ·cases hv with |p _ _ hv=>cases hv;exact⟨true,by simp[Go.binOp,hy,eqn ps rs vr hu],by simp[Go.binOp,hy,eqn ps rs vr hu],.inl rfl,by simp,by simp⟩
  ·cases hv with |p _ _ hv=>cases hv;exact⟨false,by simp[Go.binOp,hy,eqf _ _ _ ps rs vr hu],by simp[Go.binOp,hy,eqf _ _ _ ps rs vr hu],.inl rfl,by simp,by simp⟩
  ·cases hv;exact⟨false,by simp[Go.binOp,hy,eqf _ _ _ ps rs vr hu],by simp[Go.binOp,hy,eqf _ _ _ ps rs vr hu],.inl rfl,by simp,by simp⟩
 ·
  have hy:a.eval (.const (.slice none 0 0))= .slice none 0 0:=rfl
  cases ds<;>simp[Zat]at hk
  rename_i e
  split at hd<;>simp only[Option.some.injEq,reduceCtorEq]at hd<;>subst hd
  ·cases hv;exact⟨true,by simp[Go.binOp,hy,eqs e none 0 0 hu],by simp[Go.binOp,hy,eqs e none 0 0 hu],.inl rfl,by simp,by simp⟩
  ·rename_i sz es
   cases hv with
   |p _ _ hv=>
    cases hv with
    |sl p len cap _ _ evs hl hm hcc hsz hcell hrel=>
     refine⟨p.isNone,by simp[Go.binOp,hy,eqs e p len cap hu],by simp[Go.binOp,hy,eqs e p len cap hu], ?_,by simp,by simp⟩
     cases es with
     |nil=>exact .inr rfl
     |cons x xs=>
      obtain⟨b,o,hp,_⟩:=hcell 0 (by simp at hl;omega)
      subst hp;exact .inl rfl
  ·rename_i id off len
   cases hv with
   |sl _ _ _ cap p L hL hl hm' hcc ha=>
    refine⟨p.isNone,by simp[Go.binOp,hy,eqs e p len cap hu],by simp[Go.binOp,hy,eqs e p len cap hu], ?_,by simp,by simp⟩
    by_cases h0:len=0
    ·simp[h0]
    ·rcases ha with ha |⟨b,_,hp,_⟩
     ·omega
     ·subst hp;simp[h0]
 ·simp at hd
include hE in
theorem ZhF {b:BinOp} {t t':TypeId} {x y:Operand} (ho:o.op= .binOp b t x y t') (hn:Operand.isNil y=true) (hc:Zf C.E st.ep i o.op o.type st.slots st.objs=some e):Zv C X st a w i o e:=by
 rw[ho]at hc hlit
 simp[Op.operands]at hlit
 have h1:=Zm h 0 hlit.1
 simp only[Zf,hn,if_true]at hc
 split at hc
 rotate_left
 simp at hc
 rename_i td htd
 split at hc
 ·rename_i d hd
  cases hc
  obtain⟨r,hr,_,hrel,hg⟩:=ZeY (a:=a) hE htd h1 hd w
  refine Zv.quiet h hi ht (v:= .bool r) (by simp only[execOp,ho,Sem.run_bind,Zc5 C.E.prog w hg,Result.andThen_ok,hr,Sem.run_pure]) rfl rfl rfl ?_
  rcases hrel with rfl |rfl
  ·exact .p _ _ (.bool _)
  ·exact .anyb _
 ·rename_i d hd
  split at hc
  rotate_left
  simp at hc
  rename_i d' hd'
  cases hc
  obtain⟨r,_,hr,hrel,hg⟩:=ZeY (a:=a) hE htd h1 hd w
  refine Zv.quiet h hi ht (v:= .bool !r) (by simp only[execOp,ho,Sem.run_bind,Zc5 C.E.prog w hg,Result.andThen_ok,hr,Sem.run_pure]) rfl rfl rfl ?_
  rcases hrel with rfl |rfl
  ·simp only[D.notb,Option.some.injEq]at hd';subst hd';exact .p _ _ (.bool _)
  ·simp only[D.notb,Option.some.injEq]at hd';subst hd';exact .anyb _
 ·simp at hc
end
end Eng
namespace Eng
open Go
section
variable {C:Ctx} {X:Nat->Prop} {ρ:Id->Option Lay} {S:Nat->Prop} {st:St} {a:Act} {w:World} {i:Nat} {o:Oper} {e:Eff}
theorem Zbv {P:Program} (w:World) (t:TypeId) (a b:Bool) (h:P.underlying t=some .bool):(Op.equal t (.bool a) (.bool b)).run P w= .ok (a == b) w:=by
 have key:∀d,(Op.equalIn (d+1) t (.bool a) (.bool b)).run P w= .ok (a == b) w:=by intro d;simp[Op.equalIn,Za h]
 exact key 9999
def Zg5 (w:World) (S:Nat->Prop) (us:Array Value) (a:List P):Prop:=us.size=a.length/\∀(i:Nat) u x,us[i]? =some u->a[i]? =some x->RelP w S u x
def Zan (ti:TI) (us:Array Value):Value:=if ti.isAgg then .agg us else us.getD 0 undef
theorem Zbd {E:Env} (b:Zl E) {t:Nat} {ti:TI} (c:E.ty t=some ti) (us:Array Value) (a:Nat) (d:a+ti.size<=us.size) (w:World):
  (part t us a).run E.prog w= .ok (Zan ti (us.extract a (a+ti.size))) w:=by
 obtain⟨g,h,z,hi⟩:=b.is c;unfold part Zan;rw[Sem.run_bind,hi.isAgg w];cases hg:ti.isAgg with
 |true=>simp[Zao hi.info,hi.size]
 |false=>
  have e:=(hi.flat hg).2;have f:=hi.zl;have:a < us.size:=by omega
  simp_all
theorem Zkt {xs us:List P} {d:List TD}:∀{e:List TD} {f vs:List P} {c:Bool},xs.length=d.length->us.length=d.length->
  eqt (d++e) (xs++f) (us++vs)=some c->∃a b,eqt d xs us=some a/\eqt e f vs=some b/\c=(a&&b):=by
 induction d generalizing xs us with
 |nil=>
  intro e f vs c g i h;cases xs<;>simp at g;cases us<;>simp at i;exact⟨true,c,rfl,by simp_all,by simp⟩
 |cons td d k=>
  intro e f vs c g i h;cases xs with
  |nil=>simp_all
  |cons x xs=>
   cases us with
   |nil=>simp_all
   |cons u us=>
    simp only[List.cons_append,eqt]at h;split at h;rotate_left;simp at h;rename_i j;grind[eqt]
theorem ZfS:∀{a:List TD} {xs b:List P} {c:Bool},eqt a xs b=some c->xs.length=a.length/\b.length=a.length
 | [],[],[],_,_=>⟨rfl,rfl⟩
 |td::r,x::xs,y::b,c,h=>by simp only[eqt]at h;split at h;rotate_left;simp at h;split at h;rotate_left;simp at h;rename_i d;have:=ZfS d;simp_all
 | [],[],_::_,_,h=>by grind[eqt]
 | [],_::_,_,_,h=>by grind[eqt]
 |_::_,[],_,_,h=>by grind[eqt]
 |_::_,_::_,[],_,h=>by grind[eqt]
theorem ZbA {E:Env} {f:Nat->Option (List TD)} {e:Nat}:∀{fs:List (Nat×Nat)} {c:Nat} {d:List TD},ZaW E f e c fs=some d->c+d.length=e
 | [],c,d,h=>by grind[ZaW]
 |(o,t)::r,c,d,h=>by simp only[ZaW]at h;split at h;rotate_left;simp at h;split at h;rotate_left;simp at h;rename_i a ti j g;split at h;rotate_left;simp at h;rename_i k;split at h;rotate_left;simp at h;rename_i b i;cases h;have:=ZbA i;grind
theorem Zcs {us:Array Value} {a:List P} (h:Zg5 w S us a) (o n:Nat):Zg5 w S (us.extract o (o+n)) ((a.drop o).take n):=by obtain⟨c,d⟩:=h;refine⟨by grind,fun i u x b e=> ?_⟩;grind
theorem Zdk {E:Env} (hE:Zl E) (w:World) (S:Nat->Prop) {n size d:Nat}
  (ih:∀(t:Nat) (ti:TI) tds,Zbf E n t=some tds->E.ty t=some ti->∀(us vs:Array Value) (as bs:List P) (c:Bool),Zg5 w S us as->Zg5 w S vs bs->eqt tds as bs=some c->
   (Op.equalIn d t (Zan ti us) (Zan ti vs)).run E.prog w= .ok c w):
  ∀(fs:List Field) (off:Nat) (tds:List TD),(∀f∈fs,f.name≠ "_")->ZaW E (Zbf E n) size off (fs.map fun f=>(f.offset,f.type))=some tds->
   ∀(us vs:Array Value) (as bs:List P) (c:Bool),us.size=size->vs.size=size->Zg5 w S us as->Zg5 w S vs bs->eqt tds (as.drop off) (bs.drop off)=some c->
   (Op.eqFields d us vs fs).run E.prog w= .ok c w
 | [],off,tds,_,hl,us,vs,as,bs,c,hu,hv,ha,hb,hc=>by simp only[List.map_nil,ZaW]at hl;split at hl<;>simp at hl;subst hl;have:=ZfS hc;cases hd:as.drop off<;>rw[hd]at hc this<;>cases hd':bs.drop off<;>rw[hd']at hc this<;>simp[eqt]at hc this;subst hc;rfl
 |f::fs,off,tds,hn,hl,us,vs,as,bs,c,hu,hv,ha,hb,hc=>by
  simp only[Zn6,ZaW]at hl;split at hl;rotate_left;simp at hl;rename_i ho;split at hl;rotate_left;simp at hl;rename_i l ti hle hti;split at hl;rotate_left;simp at hl;rename_i hlen;split at hl;rotate_left;simp at hl;rename_i r hr;cases hl;have hlr:=ZbA hr;have ea:as.drop off=(as.drop off).take ti.size++as.drop (off+ti.size):=by rw[<-List.drop_drop,List.take_append_drop]
  have eb:bs.drop off=(bs.drop off).take ti.size++bs.drop (off+ti.size):=by rw[<-List.drop_drop,List.take_append_drop]
  rw[ea,eb]at hc;obtain⟨p,q,h1,h2,rfl⟩:=Zkt (by simp[hlen];have:=ha.1;omega) (by simp[hlen];have:=hb.1;omega) hc;have hname:=hn f (by simp);have r1:=Zbd hE hti us f.offset (by omega) w;have r2:=Zbd hE hti vs f.offset (by omega) w;have r3:=ih f.type ti l hle hti _ _ _ _ p (Zcs ha f.offset ti.size) (Zcs hb f.offset ti.size) (by rw[ho];exact h1);simp only[Op.eqFields,ne_eq,hname,not_false_eq_true,if_true,Sem.run_bind,r1,r2,r3,Result.andThen_ok];cases p with
  |false=>simp
  |true=>
   simp only[Bool.not_true,Znv,if_false,Bool.true_and];exact Zdk hE w S ih fs (off+ti.size) r (fun g hg=>hn g (by simp[hg])) hr us vs as bs q hu hv ha hb h2
theorem ZeH {E:Env} (hE:Zl E) (w:World) (S:Nat->Prop):∀(n d:Nat),n<=d->∀(t:Nat) (ti:TI) tds,Zbf E n t=some tds->E.ty t=some ti->
  ∀(us vs:Array Value) (as bs:List P) (c:Bool),Zg5 w S us as->Zg5 w S vs bs->eqt tds as bs=some c->(Op.equalIn d t (Zan ti us) (Zan ti vs)).run E.prog w= .ok c w:=by
 intro n
 induction n with
 |zero=>grind[Zbf]
 |succ n ih=>
  intro d hd t ti tds hf ht us vs as bs c hu hv hc;obtain⟨d,rfl⟩:∃d',d=d'+1:=⟨d - 1,by omega⟩;obtain⟨ii,ds,z,hi⟩:=hE.is ht;simp only[Zbf,ht]at hf;have hund:=hi.und;have htd:=hi.td;have one:∀td,tds=[td]->ti.isAgg=false->∃x y u v,as=[x]/\bs=[y]/\ZZ td x=true/\ZZ td y=true/\P.eqc x y=some c/\RelP w S u x/\RelP w S v y/\Zan ti us=u/\Zan ti vs=v:=by
   rintro td rfl hg;obtain⟨l1,l2⟩:=ZfS hc
   match as,bs,l1,l2 with
   | [x],[y],_,_=>
    simp only[eqt]at hc;split at hc;rotate_left;simp at hc;rename_i hok;simp only[Znu]at hok;split at hc;rotate_left;simp at hc;rename_i p q hp hq;simp only[ZnO]at hq;simp only[ZnO]at hc;subst hq;have s1:us.size=1:=by simpa using hu.1
    have s2:vs.size=1:=by simpa using hv.1
    refine⟨x,y,us[0],vs[0],rfl,rfl,hok.1,hok.2,by simp_all,hu.2 0 _ x (by simp) rfl,hv.2 0 _ y (by simp) rfl, ?_, ?_⟩
    ·simp[Zan,hg,Znp (by omega:0 < us.size)]
    ·simp[Zan,hg,Znp (by omega:0 < vs.size)]
  split at hf
  ·rename_i hb;simp only[ZnO]at hf;rw[hb]at htd;cases ds<;>simp[Zat]at htd;obtain⟨x,y,u,v,rfl,rfl,o1,o2,hec,r1,r2,e1,e2⟩:=one _ hf.symm (by grind[TI.isAgg]);cases x<;>simp[ZZ]at o1;cases y<;>simp[ZZ]at o2;simp[P.eqc]at hec;subst hec;rw[e1,e2,r1.bool_inv,r2.bool_inv];simp[Op.equalIn,Za hund]
  ·rename_i k hb;simp only[ZnO]at hf;rw[hb]at htd;cases ds<;>simp[Zat]at htd;obtain⟨x,y,u,v,rfl,rfl,o1,o2,hec,r1,r2,e1,e2⟩:=one _ hf.symm (by grind[TI.isAgg]);cases x<;>simp[ZZ]at o1;cases y<;>simp[ZZ]at o2;simp[P.eqc,<-o1,<-o2]at hec;subst hec;rw[e1,e2,r1.int_inv.1,r2.int_inv.1];simp[Op.equalIn,Za hund,<-o1,<-o2]
  ·rename_i hb;simp only[ZnO]at hf;rw[hb]at htd;cases ds<;>simp[Zat]at htd;obtain⟨x,y,u,v,rfl,rfl,o1,o2,hec,r1,r2,e1,e2⟩:=one _ hf.symm (by simp[TI.isAgg,hb]);cases x<;>simp[ZZ]at o1;cases y<;>simp[ZZ]at o2;simp[P.eqc]at hec;subst hec;rw[e1,e2,r1.str_inv.1,r2.str_inv.1];simp[Op.equalIn,Za hund,beq_toListBytes]
  ·rename_i fs hb;have heq:=hi.eq;rw[hb]at htd heq;cases ds<;>simp[Zat]at htd;rename_i gs;simp only[Znu,Bool.not_eq_true']at heq;have hag:ti.isAgg=true:=by simp[TI.isAgg,hb]
   have hfo:E.prog.fieldsOf t=gs:=by simp[Program.fieldsOf,hund]
   obtain⟨l1,l2⟩:=ZfS hc;have hlen:=ZbA hf;simp only[Zan,hag,if_true];rw[run_equalIn_struct w d t us vs (by rw[hfo];exact hund) heq.1.1,hfo];refine Zdk hE w S (ih d (by omega)) gs.toList 0 tds ?_ (by rw[htd.1];exact hf) us vs as bs c (by have:=hu.1;omega) (by have:=hv.1;omega) hu hv (by simpa using hc);intro f hfm;have:=htd.2;obtain⟨j,hj,rfl⟩:=Zns.1 (Znt.1 hfm);exact this j hj
  simp_all
variable (h:Rep C X ρ S st a.tmps w) (hi:¬X i) (ht:∀d,o.dst=some d->d < C.E.nt) (hlit:o.op.operands.all ZE=true) (hE:Zl C.E)
include h hi ht hlit hE
theorem Zjh {b:BinOp} {t T:TypeId} {x y:Operand} (I:o.op= .binOp b t x y T) (g:Zf C.E st.ep i o.op o.type st.slots st.objs=some e) (d:∀q∈e.cond,q=true):Zv C X st a w i o e:=by
 by_cases hn:Operand.isNil y=true
 ·grind[ZhF]
 rw[I]at g;simp only[Zf,hn,Znv,if_false]at g;split at g
 ·
  rename_i u v H F;split at g;rotate_left;simp at g;rename_i z A f;cases g;refine Zbo h hi ht hlit I H F ⟨rfl,rfl,rfl⟩ rfl fun p q s D=> ?_
  rw[s.bool_inv,D.bool_inv];obtain⟨O,N,L⟩:=hE.und A;cases O<;>simp[Zat]at L;cases b<;>simp only[ZkJ,ZnO,reduceCtorEq]at f<;>subst f
  ·exact⟨_,by simp_all[Go.binOp,Zbv],.bool _,by simp,by simp⟩
  ·exact⟨_,by simp_all[Go.binOp,Zbv],.bool _,by simp,by simp⟩
 ·
  rename_i us vs H F;split at g;rotate_left;simp at g;rename_i z f;cases g;rw[I]at hlit;simp[Op.operands]at hlit;have j:=Zm h 0 hlit.1;have l:=Zm h 0 hlit.2;rw[H]at j;rw[F]at l;generalize s:a.eval x=p at j;generalize D:a.eval y=q at l;cases j with |p _ _ j=>cases l with |p _ _ l=>cases j with |agg K _ R o1 Q=>cases l with |agg J _ P Y U=>
  unfold Zm6 at f;split at f;rotate_left;simp at f;rename_i fs E A G;have key:∀c,eqt E us vs=some c->(Op.equal t (.agg K) (.agg J)).run C.E.prog w= .ok c w/\(eqGuard b t x y (.agg K) (.agg J)).run C.E.prog w= .ok () w:=by
   intro c g;cases B:C.E.ty t with
   |none=>grind[Env.td]
   |some ti=>
    simp only[Env.td,B,ZnO]at A;obtain⟨Z,O,z,hi⟩:=hE.is B;have M:ti.isAgg=true:=by grind[TI.isAgg]
    have:=ZeH hE w S depth 10000 (by decide) t ti E G B K J us vs c ⟨R,Q⟩ ⟨P,U⟩ g;simp only[Zan,M,if_true]at this;refine⟨this,run_eqGuard_agg w b t x y K J ?_⟩;have:=hi.eq;simp_all
  split at f
  ·rename_i c g;cases f;obtain⟨k1,V⟩:=key c g;exact Zv.quiet h hi ht (v:= .bool c) (by simp_all[execOp,Go.binOp]) rfl rfl rfl (.p _ _ (.bool _))
  ·rename_i c g;cases f;obtain⟨k1,V⟩:=key c g;exact Zv.quiet h hi ht (v:= .bool !c) (by simp_all[execOp,Go.binOp]) rfl rfl rfl (.p _ _ (.bool _))
  simp_all
 ·
  rename_i u v _ _ H F;split at g;rotate_left;simp at g;rename_i z c f;cases g;refine Zbo h hi ht hlit I H F ⟨rfl,rfl,rfl⟩ rfl fun p q s D=> ?_
  unfold Zm0 at f;split at f
  ·rename_i k m W n;rw[s.int_inv.1,D.int_inv.1];split at f
   ·obtain⟨r,j,l⟩:=ZdL (S:=S) s.int_inv.2 f (.inl rfl) d C.E.prog t w;exact⟨r,j,l,by simp,by simp⟩
   ·obtain⟨r,j,l⟩:=ZdL (S:=S) s.int_inv.2 f (.inr rfl) d C.E.prog t w;exact⟨r,j,l,by simp,by simp⟩
   ·split at f;rotate_left;simp at f;rename_i L;subst L;obtain⟨r,j,l⟩:=Zkm (S:=S) s.int_inv.2 f d C.E.prog t w;exact⟨r,j,l,by simp,by simp⟩
  ·rw[s.str_inv.1,D.str_inv.1];obtain⟨r,j,l⟩:=ZjM (S:=S) f d C.E.prog t w;exact⟨r,j,l,by simp,by simp⟩
  simp_all
 simp_all
end
section
variable {C:Ctx} {X:Nat->Prop} {ρ:Id->Option Lay} {S:Nat->Prop} {st:St} {a:Act} {w:World} {i:Nat}
theorem Rep.takeOut (h:Rep C X ρ S st a.tmps w) {t:Option Nat} (hi:¬X i) (ht:∀d,t=some d->d < C.E.nt) {id:Id} {i' sz c k lo:Nat} {es cs l:List P} {L:Lay} {b:Nat} {v:Value}
  (hlk:st.objs id=some (.own sz c k es lo none)) (hilo:i' < lo) (hfz:st.fz id=false) (hes:es[i']? =some (.agg cs)) (hcs:cs[c]? =some (.sl k l)) (hL:ρ id=some L) (hb:L.blk=some b)
  (hv:w.cell? ⟨b,L.base+i'*sz+c,none⟩=some v):
  ∃ρ' S',Rep C (fun j=>X j\/j=i) ρ' S' (st.app i t {val:= .sl (st.ep,i,0) 0 l.length,new:=[(0,.arr k l false)],wr:=[(id,.own sz c k es lo (some i'))]}) (a.put t v).tmps w:=by
 obtain⟨κ,F⟩:=h.fam;have hk:Kid st.objs st.fz id i' sz c k l:=⟨es,lo,none,cs,hlk,hfz,hes,hcs,hilo,by simp⟩;obtain⟨b',v',hb',hv',hr,hro⟩:=F.kid _ _ _ _ _ _ L hk hL;rw[hb]at hb';obtain rfl:=ZnN hb';rw[hv]at hv';obtain rfl:=ZnN hv';let ρ':Id->Option Lay:=upd ρ (st.ep,i,0) (some (κ id i'));have fr:ρ (st.ep,i,0)=none:=by
  cases hc:ρ (st.ep,i,0)with
  |none=>rfl
  |some L=>have:=h.young (st.ep,i,0) (by grind);simp_all
 have hρ:∀id L,ρ id=some L->ρ' id=some L:=by
  grind[upd]
 have hbox:ρ' (st.ep,i,0)=some (κ id i'):=by grind[upd]
 have kw:ZbM S w w:=fun _ _ _=>rfl
 have ne:id≠(st.ep,i,0):=fun e=>by simp_all
 obtain⟨S',hrep⟩:=h.stepG (i:=i) (t:=t) (e:={val:= .sl (st.ep,i,0) 0 l.length,new:=[(0,.arr k l false)],wr:=[(id,.own sz c k es lo (some i'))]}) (v:=v) (w':=w) ρ' hi ht (ZnJ _) (ZQ.refl _) (fun _ _ _=>rfl)
  (fun id1 o hm=>by simp_all) hρ
  (fun id1 hn=>by
   grind[upd]) (by simp)
  (fun k1 o hm=>by simp only[ZnF,ZnP]at hm;obtain⟨rfl,rfl⟩:=hm;refine⟨κ id i',hbox,fun b1 hb1=> ?_,fun S' hS _ _=>hro.mono kw hS (ρ':=ρ') (fun _ _ h=>by grind) fun _ _=>rfl⟩;have:=F.own _ _ _ _ _ _ b1 hk hb1;grind)
  (fun k1 o1 L1 k2 o2 L2 b1 hm _ _ _ hm2 _ _ _=>by simp_all)
  (fun id1 o L1 hm _ hL1 S' hS _=>by
   simp only[ZnF,ZnP]at hm;obtain⟨rfl,rfl⟩:=hm;obtain⟨L2,hL2,hro2⟩:=h.objs id1 _ hlk (by simp);rw[hL1]at hL2;obtain rfl:=ZnN hL2;have:=hro2.mono kw hS hρ fun _ _=>rfl
   exact this)
  (fun S' hS _ d _=>by
   cases hr with
   |sl _ _ _ cap ad Lk hLk hl hm hc ha=>
    cases hLk;exact .sl _ _ _ cap ad _ hbox hl hm hc ha)
  (fun S' hS hS' _=>by
   have hS0:∀b,S' b->S b:=fun b hb=>(hS' b hb).elim (fun h=>h) fun⟨_,_,_,hm,_⟩=>by simp_all
   have rold:∀id L,ρ id≠none->ρ' id=some L->ρ id=some L:=fun id L hn hL=>by
    cases hc:ρ id with
    |none=>simp_all
    |some L0=>simp_all
   generalize he:(st.app i t {val:= .sl (st.ep,i,0) 0 l.length,new:=[(0,.arr k l false)],wr:=[(id,.own sz c k es lo (some i'))]})=st2;have hob:∀id1 o,st2.objs id1=some o->(id1=(st.ep,i,0)/\o= .arr k l false)\/(id1=id/\o= .own sz c k es lo (some i'))\/(id1≠id/\st.objs id1=some o):=by
    intro id1 o ho;rw[<-he]at ho;rcases ZK st i t _ id1 o ho with ⟨k1,rfl,hm⟩ |hm |⟨hn,ho⟩
    all_goals simp_all
   have hf2:∀id1,st2.fz id1=st.fz id1:=fun id1=>by grind[ZbK]
   have ko:∀{id1 i1 sz1 c1 k1 l1},Kid st2.objs st2.fz id1 i1 sz1 c1 k1 l1->Kid st.objs st.fz id1 i1 sz1 c1 k1 l1/\¬(id=id1/\i'=i1):=by
    rintro id1 i1 sz1 c1 k1 l1 ⟨es1,lo1,out1,cs1,ho,hf,q1,q2,q0,q3⟩;rw[hf2]at hf;rcases hob _ _ ho with ⟨_,ho⟩ |⟨rfl,ho⟩ |⟨hne,ho⟩
    ·simp_all
    ·simp only[Obj.own.injEq]at ho;obtain⟨rfl,rfl,rfl,rfl,rfl,rfl⟩:=ho;exact⟨⟨es1,_,none,cs1,hlk,hf,q1,q2,q0,by simp⟩,fun⟨_,e⟩=>q3 (by rw[e])⟩
    ·exact⟨⟨es1,lo1,out1,cs1,ho,hf,q1,q2,q0,q3⟩,fun e=>hne e.1.symm⟩
   refine⟨κ,fun id1 i1 sz1 c1 k1 l1 L1 hk1 hL1=> ?_,fun id1 i1 sz1 c1 k1 l1 b1 hk1 hb1=> ?_,fun id1 i1 sz1 c1 k1 l1 id2 i2 sz2 c2 k2 l2 b1 h1 h2 h3 h4=>F.inj _ _ _ _ _ _ _ _ _ _ _ _ b1 (ko h1).1 (ko h2).1 h3 h4⟩
   ·obtain⟨hk0,_⟩:=ko hk1;have hk2:=hk0;obtain⟨es1,lo1,out1,cs1,ho,_⟩:=hk2;obtain⟨b1,v1,q1,q2,q3,q4⟩:=F.kid _ _ _ _ _ _ L1 hk0 (rold id1 L1 (h.known id1 (by grind)) hL1);exact⟨b1,v1,q1,q2,q3.mono kw hS (fun _ _ h=>h),q4.mono kw hS (fun _ _ h=>h) fun _ _=>rfl⟩
   ·obtain⟨hk0,hne⟩:=ko hk1;obtain⟨q1,q2,q3,q4⟩:=F.own _ _ _ _ _ _ b1 hk0 hb1;refine⟨q1,q2,fun hs=>q3 (hS0 _ hs),fun id2 o2 L2 ho2 hg2 hL2 hb2=> ?_⟩;rcases hob _ _ ho2 with ⟨rfl,ho⟩ |⟨rfl,ho⟩ |⟨_,ho⟩
    ·rw[hbox]at hL2;obtain rfl:=ZnN hL2;exact hne (F.inj _ _ _ _ _ _ _ _ _ _ _ _ b1 hk hk0 hb2 hb1)
    ·exact q4 id2 _ L2 hlk (by simp) (rold id2 L2 (h.known id2 (by simp[hlk])) hL2) hb2
    ·exact q4 id2 o2 L2 ho hg2 (rold id2 L2 (h.known id2 (by simp[ho])) hL2) hb2)
 grind
end
end Eng
namespace Eng
open Go
section
variable {C:Ctx} {X:Nat->Prop} {ρ:Id->Option Lay} {S:Nat->Prop} {st:St} {a:Act} {w:World} {i:Nat} {o:Oper} {e:Eff}
theorem Z8 (b o n:Nat):(⟨b,o,none⟩:Addr).add n=⟨b,o+n,none⟩:=by
 grind[Addr.add]
theorem Zl.struct {E:Env} (b:Zl E) {t:Nat} {ti:TI} {fs:List (Nat×Nat)} (d:E.ty t=some ti) (c:ti.d= .struct fs):
  ∃a:Array Field,E.prog.underlying t=some (.struct a)/\a.toList.map (fun f=>(f.offset,f.type))=fs:=by
 obtain⟨g,e,z,hi⟩:=b.is d;have:=hi.td;rw[c]at this;cases hds:e<;>rw[hds]at this<;>simp[Zat]at this;exact⟨_,by rw[<-hds];exact hi.und,this.1⟩
theorem Zl.slice {E:Env} (a:Zl E) {t:Nat} {ti:TI} {e:Nat} (c:E.ty t=some ti) (b:ti.d= .sl e):E.prog.underlying t=some (.slice e):=by obtain⟨f,d,z,hi⟩:=a.is c;have:=hi.td;rw[b]at this;cases hds:d<;>rw[hds]at this<;>simp[Zat]at this;subst this;rw[<-hds];exact hi.und
theorem Zl.array {E:Env} (a:Zl E) {t:Nat} {ti:TI} {m e:Nat} (c:E.ty t=some ti) (b:ti.d= .arr m e):E.prog.underlying t=some (.array m e):=by obtain⟨f,d,z,hi⟩:=a.is c;have:=hi.td;rw[b]at this;cases hds:d<;>rw[hds]at this<;>simp[Zat]at this;obtain⟨rfl,rfl⟩:=this;rw[<-hds];exact hi.und
theorem Zl.map {E:Env} (a:Zl E) {t:Nat} {ti:TI} {k e:Nat} (c:E.ty t=some ti) (b:ti.d= .map k e):E.prog.underlying t=some (.map k e):=by obtain⟨f,d,z,hi⟩:=a.is c;have:=hi.td;rw[b]at this;cases hds:d<;>rw[hds]at this<;>simp[Zat]at this;obtain⟨rfl,rfl⟩:=this;rw[<-hds];exact hi.und
theorem Zl.str {E:Env} (a:Zl E) {t:Nat} (b:E.td t=some .str):E.prog.underlying t=some .string:=by obtain⟨e,c,d⟩:=a.und b;grind[Zat]
theorem Zl.info {E:Env} (b:Zl E) {t:Nat} {ti:TI} (c:E.ty t=some ti):∃a,E.prog.info? t=some a/\a.size=ti.size/\a.bytes=ti.bytes:=by obtain⟨a,d,z,hi⟩:=b.is c;exact⟨a,hi.info,hi.size,hi.bytes⟩
variable (h:Rep C X ρ S st a.tmps w) (hi:¬X i) (ht:∀d,o.dst=some d->d < C.E.nt) (hlit:o.op.operands.all ZE=true) (hE:Zl C.E)
include h hi ht hlit
theorem Zkx {u:UnOp} {t:TypeId} {x:Operand} (ho:o.op= .unOp u t x) (hc:Zf C.E st.ep i o.op o.type st.slots st.objs=some e) (hcond:∀q∈e.cond,q=true):Zv C X st a w i o e:=by
 rw[ho]at hc hlit;simp[Op.operands]at hlit;have h1:=Zm h 0 hlit;simp only[Zf]at hc;split at hc;rotate_left;simp at hc;rename_i v hv;rw[hv]at h1;have h2:=h1.of_p;split at hc;rotate_left;simp at hc;rename_i z c hz;cases hc;unfold unop at hz;split at hz
 ·rename_i k n;obtain⟨e1,e2⟩:=h2.int_inv;split at hz
  ·obtain⟨rfl,rfl⟩:(ZaJ k (0 - n)).1=z/\(ZaJ k (0 - n)).2=c:=by simp_all
   exact Zv.quiet h hi ht (v:= .int k (k.wrap (0 - n))) (by simp_all[execOp,Op.unary,Op.intArith]) rfl rfl rfl (.p _ _ (ZaI k _ hcond))
  ·split at hz;rotate_left;simp at hz;rename_i m hm;simp only[ZnO,ZnP]at hz;obtain⟨rfl,rfl⟩:=hz;refine Zv.quiet h hi ht (v:= .int k m) ?_ rfl rfl rfl (.p _ _ (.int k m (ZdB hm).1 (ZdB hm).2));simp_all[ZfZ,execOp,Op.unary,Op.intBits]
  simp_all
 ·rename_i b;have e1:=h2.bool_inv;split at hz;rotate_left;simp at hz;simp only[ZnO,ZnP]at hz;obtain⟨rfl,rfl⟩:=hz;exact Zv.quiet h hi ht (v:= .bool !b) (by simp_all[execOp,Op.unary]) rfl rfl rfl (.p _ _ (.bool _))
 simp_all
include hE
theorem ZeK {t:TypeId} {x:Operand} {f:Nat} (J:o.op= .fieldAddr t x f) (d:Zf C.E st.ep i o.op o.type st.slots st.objs=some e):Zv C X st a w i o e:=by
 rw[J]at d hlit;simp[Op.operands]at hlit;have k:=Zm h 0 hlit;simp only[Zf]at d;split at d;rotate_left;simp at d;rename_i fs sz R Z D;split at d;rotate_left;simp at d;rename_i B S U;split at d;rotate_left;simp at d;rename_i V v;obtain⟨N,hu,O⟩:=hE.struct D rfl;obtain⟨Y,G,P,_⟩:=hE.info v;have H:∃g,N[f]? =some g/\g.offset=B/\g.type=S:=by grind
 obtain⟨g,H,rfl,rfl⟩:=H;split at d
 ·simp_all
 ·rename_i I;have m:∀b o',a.eval x= .pointer (some ⟨b,o',none⟩)->(execOp a.eval o).run C.E.prog w= .ok (.value (.pointer (some ⟨b,o'+g.offset,none⟩))) w:=by simp_all[execOp,Instr.fieldAt,Instr.sureAddr,fieldPlace,Z8,Za,Zao]
  split at d
  ·rename_i cs n;cases d;rw[n]at k;generalize hp:a.eval x=p at k;cases k with |p _ _ k=>cases k with |ptr b o' _ vs q F k W=>
   refine Zv.quiet h hi ht (m b o' hp) rfl rfl rfl (.p _ _ (.ptr b (o'+g.offset) _ (fun j=>vs (g.offset+j)) q (fun j c l=> ?_) (fun j c l=> ?_) (fun j c l=> ?_)))
   all_goals grind
  ·rename_i id i' j n;cases d;rw[n]at k;generalize hp:a.eval x=p at k;cases k with |ptr _ _ _ L b z s A=>
   refine Zv.quiet h hi ht (m b _ hp) rfl rfl rfl ?_;rw[ZnH];exact .ptr id i' (j+g.offset) L b z s A
  ·rename_i y id n;rw[n]at k;generalize hp:a.eval x=p at k;cases k with |rp _ _ b o' r u L q M T z A=>
   obtain⟨q1,K,Q⟩:=M y rfl;split at d
   ·rename_i E;cases d;refine Zv.quiet h hi ht (m b o' hp) rfl rfl rfl (.p _ _ (.ptr b (o'+g.offset) [y] (fun _=>u) q (fun j c l=> ?_) (fun j c l=> ?_) (fun j c l=> ?_)))
    all_goals
     match j,l with
     |0,l=>
      obtain rfl:=ZnN l
      first |(rw[E];exact q1) |exact K |exact Q
     |j+1,l=>simp at l
   ·rename_i E;cases d;refine Zv.quiet h hi ht (m b o' hp) rfl rfl rfl ?_;rw[E];exact .rp none id b (o'+1) r u L q (fun _ h=>by simp at h) T z A
   ·simp at d
  simp_all
omit h hi ht hlit in
theorem Zcg {t:TypeId} {ti:TI} (hty:C.E.ty t=some ti) (b o':Nat) (us:List Value) (hl:us.length=ti.size) (hcell:∀(j:Nat) u,us[j]? =some u->w.cell? ⟨b,o'+j,none⟩=some u):
  (loadVar t ⟨b,o',none⟩).run C.E.prog w= .ok (Zan ti us.toArray) w:=by
 obtain⟨ii,ds,z,hi⟩:=hE.is hty
 unfold loadVar Zan
 rw[Sem.run_bind,hi.isAgg w]
 cases hg:ti.isAgg with
 |true=>
  have hlc:=run_loadCells_list (P:=C.E.prog) w ⟨b,o',none⟩ us (fun j v hj=>by rw[Z8];exact hcell j v hj)
  simp[Zao hi.info,hi.size,<-hl,hlc]
 |false=>
  have h1:=(hi.flat hg).2
  have h2:=hi.zl
  match us,hl with
  | [u],_=>
   have:=hcell 0 u rfl
   simp at this
   simp[this]
  | [],hl=>simp at hl;omega
  |_::_::_,hl=>simp at hl;omega
omit h hi ht hlit hE in
theorem Zbz {ti:TI} {cs:List P} {x:P} (hx:Zdp ti cs=some x) (hg:ti.isAgg=false->ti.size=1):
  ti.size<=cs.length/\∀us:List Value,us.length=ti.size->(∀(j:Nat) u c,us[j]? =some u->cs[j]? =some c->RelP w S u c/\Zbp u)->RelP w S (Zan ti us.toArray) x:=by
 unfold Zdp at hx
 cases hag:ti.isAgg with
 |true=>
  simp only[hag,if_true]at hx
  split at hx
  rotate_left
  simp at hx
  rename_i hle
  cases hx
  refine⟨hle,fun us hl hr=> ?_⟩
  simp only[Zan,hag,if_true]
  refine .agg _ _ (by simp;omega) (fun j u hu=> ?_) (fun j u c hu hc=> ?_)
  ·have hlt:j < ti.size:=by have:=(Array.getElem?_eq_some_iff.1 hu).1;simpa[hl]using this
   have hu':us[j]? =some u:=by simpa using hu
   exact(hr j u cs[j] hu' (by simp)).2
  ·rw[List.getElem?_take]at hc
   split at hc
   rotate_left
   simp at hc
   exact(hr j u c (by simpa using hu) hc).1
 |false=>
  simp only[hag,Bool.false_eq_true,if_false]at hx
  have h1:=hg hag
  cases cs with
  |nil=>simp at hx
  |cons c cs=>
   simp only[List.head?_cons,Option.some.injEq]at hx;subst hx
   refine⟨by simp;omega,fun us hl hr=> ?_⟩
   match us,hl with
   | [u],_=>simp only[Zan,hag];simpa using (hr 0 u c rfl rfl).1
   | [],hl=>simp at hl;omega
   |_::_::_,hl=>simp at hl;omega
omit h hi ht hlit hE in
theorem TIs.one {p:Program} {t:Nat} {ti:TI} {i:TypeInfo} {d:TypeDesc} {z:Value} (h:TIs p t ti i d z) (hg:ti.isAgg=false):ti.size=1:=by
 have:=(h.flat hg).2;have:=h.zl;omega
omit h hi ht hlit hE in
theorem Zd1 {ti:TI} {cs:List D} {x:D} (hx:ZfK ti cs=some x) (hg:ti.isAgg=false->ti.size=1):
  ti.size<=cs.length/\∀us:List Value,us.length=ti.size->(∀(j:Nat) u c,us[j]? =some u->cs[j]? =some c->RelD w S ρ u c/\Zbp u)->RelD w S ρ (Zan ti us.toArray) x:=by
 unfold ZfK at hx
 cases hag:ti.isAgg with
 |true=>
  simp only[hag,if_true]at hx
  split at hx
  rotate_left
  simp at hx
  rename_i hle
  cases hx
  refine⟨hle,fun us hl hr=> ?_⟩
  simp only[Zan,hag,if_true]
  have ho:∀(j:Nat) u,us.toArray[j]? =some u->Zbp u:=fun j u hu=>by
   have hlt:j < ti.size:=by have:=(Array.getElem?_eq_some_iff.1 hu).1;simpa[hl]using this
   have hu':us[j]? =some u:=by simpa using hu
   exact(hr j u cs[j] hu' (by simp)).2
  have hh:∀(j:Nat) u c,us.toArray[j]? =some u->(cs.take ti.size)[j]? =some c->RelD w S ρ u c:=fun j u c hu hc=>by
   rw[List.getElem?_take]at hc
   split at hc
   rotate_left
   simp at hc
   exact(hr j u c (by simpa using hu) hc).1
  unfold D.mkAgg
  split
  ·rename_i ps hps
   have he:=Zx hps
   have hl':=congrArg List.length he
   simp at hl'
   refine .p _ _ (.agg _ _ (by simp;omega) ho fun j u c hu hc=>(hh j u (.p c) hu (by rw[he];simp[hc])).of_p)
  ·exact .agg _ _ (by simp;omega) ho hh
 |false=>
  simp only[hag,Bool.false_eq_true,if_false]at hx
  have h1:=hg hag
  cases cs with
  |nil=>simp at hx
  |cons c cs=>
   simp only[List.head?_cons,Option.some.injEq]at hx;subst hx
   refine⟨by simp;omega,fun us hl hr=> ?_⟩
   match us,hl with
   | [u],_=>simp only[Zan,hag];simpa using (hr 0 u c rfl rfl).1
   | [],hl=>simp at hl;omega
   |_::_::_,hl=>simp at hl;omega
theorem ZkB {t:TypeId} {x:Operand} (ho:o.op= .load t x) (hc:Zf C.E st.ep i o.op o.type st.slots st.objs=some e) (hw:Zdu st e=true):Zv C X st a w i o e:=by
 rw[ho]at hc hlit;simp[Op.operands]at hlit;have h1:=Zm h 0 hlit;simp only[Zf]at hc;split at hc;rotate_left;simp at hc;rename_i ti hty;obtain⟨ii,ds,z,hti⟩:=hE.is hty;have run:∀b o' (us:List Value),a.eval x= .pointer (some ⟨b,o',none⟩)->us.length=ti.size->(∀(j:Nat) u,us[j]? =some u->w.cell? ⟨b,o'+j,none⟩=some u)->
   (execOp a.eval o).run C.E.prog w= .ok (.value (Zan ti us.toArray)) w:=by
  intro b o' us hv hl hcell;simp[execOp,ho,hv,Instr.loadAt,Instr.sureAddr,Zcg hE hty b o' us hl hcell]
 split at hc
 ·rename_i cs hv;split at hc;rotate_left;simp at hc;rename_i y hy;cases hc;rw[hv]at h1;generalize hp:a.eval x=p at h1;cases h1 with |p _ _ h1=>cases h1 with |ptr b o' _ vs hS hcell h1 hr=>
  obtain⟨hle,hrel⟩:=Zbz (w:=w) (S:=S) hy hti.one;have get:∀(j:Nat) u,((List.range ti.size).map vs)[j]? =some u->j < ti.size/\u=vs j:=by
   grind
  refine Zv.quiet h hi ht (run b o' ((List.range ti.size).map vs) hp (by simp) fun j u hu=> ?_) rfl rfl rfl (.p _ _ (hrel _ (by simp) fun j u c hu hc=> ?_))
  all_goals grind
 ·rename_i id i' j hv;rw[hv]at h1;generalize hp:a.eval x=p at h1;cases h1 with |ptr _ _ _ L b hL hil hb=>
  split at hc
  ·
   rename_i cs hlk;split at hc;rotate_left;simp at hc;rename_i hi0;subst hi0;split at hc;rotate_left;simp at hc;rename_i d hd;cases hc;obtain⟨hle,hrel⟩:=Zd1 (w:=w) (S:=S) (ρ:=ρ) hd hti.one;obtain⟨L',hL',b',hb',hsz,hln,hcs⟩:=h.objs id _ hlk (by simp);rw[hL]at hL';obtain rfl:=ZnN hL';rw[hb]at hb';obtain rfl:=ZnN hb';have get:∀k,k < ti.size->∃u,w.cell? ⟨b,L.base+0*L.sz+j+k,none⟩=some u/\Zbp u/\∀c,(cs.drop j)[k]? =some c->RelD w S ρ u c:=by intro k hk;simp at hle;obtain⟨u,hu,_,h1,hr⟩:=hcs (j+k) cs[j+k] (by simp);grind
   have gets:∀(k:Nat) u,((List.range ti.size).map fun k=>(w.cell? ⟨b,L.base+0*L.sz+j+k,none⟩).getD default)[k]? =some u->
     w.cell? ⟨b,L.base+0*L.sz+j+k,none⟩=some u/\Zbp u/\∀c,(cs.drop j)[k]? =some c->RelD w S ρ u c:=by
    intro k u hu;have hlt:k < ti.size:=by grind
    grind[List.getElem?_range]
   exact Zv.quiet h hi ht (run b _ _ hp (by simp) fun k u hu=>(gets k u hu).1) rfl rfl rfl (hrel _ (by simp) fun k u c hu hc=>⟨(gets k u hu).2.2 c hc,(gets k u hu).2.1⟩)
  ·
   rename_i sz es fix hlk;split at hc;rotate_left;simp at hc;rename_i y hy;cases hc;obtain⟨L',hL',hsz,hel,hlc,hlm,hbn,hcells,evs,hev,hcell,hrel⟩:=h.objs id _ hlk (by simp);rw[hL]at hL';obtain rfl:=ZnN hL';obtain⟨hle,hre⟩:=Zbz (w:=w) (S:=S) hy hti.one;have hie:i' < es.length:=by omega
   have hge:es.getD i' default=es[i']:=by simp[hie]
   rw[hge]at hle hre;have hri:=hrel i' es[i'] (by simp[hie]);have get:∀(k:Nat) u,(((evs i').cells.toList.drop j).take ti.size)[k]? =some u->k < ti.size/\(evs i').cells[j+k]? =some u:=by intro k u hu;rw[ZnC]at hu;split at hu;rotate_left;simp at hu;rename_i hk;rw[Znz]at hu;exact⟨hk,by simpa using hu⟩
   have hcl:=hri.size;refine Zv.quiet h hi ht (run b _ (((evs i').cells.toList.drop j).take ti.size) hp (by simp at hle|-;omega) fun k u hu=> ?_) rfl rfl rfl (.p _ _ (hre _ (by simp at hle|-;omega) fun k u c hu hc=> ?_))
   ·have:=hcell b hb i' (j+k) u hil (get k u hu).2;rw[hsz,<-this];congr 2;omega
   ·rw[Znz]at hc;exact hri.cell (get k u hu).2 hc
  ·
   rename_i sz c k es lo out hlk;split at hc;rotate_left;simp at hc;rename_i cs hes;split at hc
   ·
    rename_i hlo;split at hc;rotate_left;simp at hc;rename_i y hy;cases hc;obtain⟨L',hL',hsz,hel,hlc,hlm,hcz,hbn,hcells,hrel⟩:=h.objs id _ hlk (by simp);rw[hL]at hL';obtain rfl:=ZnN hL';subst hsz;obtain⟨hle,hre⟩:=Zbz (w:=w) (S:=S) hy hti.one;obtain⟨cs0,l0,q1,q2,q3,q4⟩:=hrel i' _ hes;simp only[P.agg.injEq]at q1;subst q1;simp at hle;have hmul:(i'+1)*L.sz<=L.cap*L.sz:=ZnK _ (by omega);rw[ZnI,Nat.one_mul]at hmul;have get:∀m,m < ti.size->∃u,w.cell? ⟨b,L.base+i'*L.sz+j+m,none⟩=some u/\Zbp u/\∀x,(cs.drop j)[m]? =some x->RelP w S u x:=by
     intro m hm;obtain⟨⟨u,hu⟩,_⟩:=hcells b hb (i'*L.sz+(j+m)) (by omega);rw[<-ZnH]at hu;have hx:cs[j+m]? =some (cs[j+m]'(by omega)):=by simp
     have r:=q4 b hb (j+m) _ u hx hu;refine⟨u,by rw[<-hu];congr 2;omega,r.1,fun x hx'=> ?_⟩;rw[Znz,hx]at hx';obtain rfl:=ZnN hx';exact r.2 (.inr hlo)
    have gets:∀(m:Nat) u,((List.range ti.size).map fun m=>(w.cell? ⟨b,L.base+i'*L.sz+j+m,none⟩).getD default)[m]? =some u->
      w.cell? ⟨b,L.base+i'*L.sz+j+m,none⟩=some u/\Zbp u/\∀x,(cs.drop j)[m]? =some x->RelP w S u x:=by
     intro m u hu;have hlt:m < ti.size:=by have:=(ZnA.1 hu).1;simpa using this
     obtain⟨u',hu',h1,h2⟩:=get m hlt;simp only[ZnB,List.getElem?_range hlt,Option.map_some,hu',ZnL,ZnO]at hu;subst hu;exact⟨hu',h1,h2⟩
    exact Zv.quiet h hi ht (run b _ _ hp (by simp) fun m u hu=>(gets m u hu).1) rfl rfl rfl (.p _ _ (hre _ (by simp) fun m u x hu hx=>⟨(gets m u hu).2.2 x hx,(gets m u hu).2.1⟩))
   rename_i hlo;split at hc;rotate_left;simp at hc;rename_i k' l hcs;split at hc;rotate_left;simp at hc;rename_i hcnd;obtain⟨rfl,rfl,hs1,hag⟩:=hcnd;cases hc;have hfz:st.fz id=false:=by simpa[Zdu]using hw
   obtain⟨L',hL',hsz,hel,hlc,hlm,hcz,hbn,hcells,hrel⟩:=h.objs id _ hlk (by simp);rw[hL]at hL';obtain rfl:=ZnN hL';subst hsz;have hmul:(i'+1)*L.sz<=L.cap*L.sz:=ZnK _ (by omega);rw[ZnI,Nat.one_mul]at hmul;obtain⟨⟨v,hv'⟩,_⟩:=hcells b hb (i'*L.sz+j) (by omega);rw[<-ZnH]at hv';obtain⟨ρ',S',hrep⟩:=h.takeOut (t:=o.dst) hi ht hlk (by omega) hfz hes hcs hL hb hv';refine⟨_,v,w, ?_,.inl rfl,ρ',S',hrep⟩;have:=run b _ [v] hp (by simp[hs1]) fun m u hu=>by
    cases m with
    |zero=>simp only[Zny,ZnO]at hu;subst hu;exact hv'
    |succ m=>simp at hu
   rw[this];simp[Zan,hag]
  simp_all
 ·rename_i id hv;split at hc;rotate_left;simp at hc;rename_i hs;cases hc;rw[hv]at h1;generalize hp:a.eval x=p at h1;cases h1 with |rp _ _ b o' r u L hS hx hm hL hb=>
  have hr:=run b o' [.map (some r)] hp (by simp[hs.1]) fun m v hv=>by
   cases m with
   |zero=>simp only[Zny,ZnO]at hv;subst hv;exact hm
   |succ m=>simp at hv
  refine Zv.quiet h hi ht hr rfl rfl rfl ?_;simp only[Zan,hs.2];exact .map id L r hL hb
 simp_all
end
end Eng
namespace Eng
open Go
section
variable {C:Ctx} {X:Nat->Prop} {ρ:Id->Option Lay} {S:Nat->Prop} {st:St} {a:Act} {w:World} {i:Nat} {o:Oper} {e:Eff}
theorem Zba (l:List UInt8):(ByteArray.mk l.toArray).size=l.length:=by simp[ByteArray.size]
theorem ZN {E:Env} (b:Zl E) {t:Nat} {ti:TI} (d:E.ty t=some ti) (w:World):(Go.sizeOf t).run E.prog w= .ok ti.size w:=by obtain⟨e,a,c,_⟩:=b.info d;grind[Zao]
theorem ZbX {v:Value} {k:IntKind} {n:Int} (h:RelD w S ρ v (.p (.int k n))):v= .int k n/\k.min<=n/\n<=k.max:=h.of_p.int_inv
variable (h:Rep C X ρ S st a.tmps w) (hi:¬X i) (ht:∀d,o.dst=some d->d < C.E.nt) (hlit:o.op.operands.all ZE=true) (hE:Zl C.E)
include h hi ht hlit hE
theorem Zje {t:TypeId} {x:Operand} {f:Nat} (K:o.op= .field t x f) (b:Zf C.E st.ep i o.op o.type st.slots st.objs=some e):Zv C X st a w i o e:=by
 rw[K]at b hlit;simp[Op.operands]at hlit;have m:=Zm h 0 hlit;simp only[Zf]at b;split at b;rotate_left;simp at b;rename_i fs sz O R F;split at b;rotate_left;simp at b;rename_i G P T;obtain⟨L,n,M⟩:=hE.struct F rfl;have H:∃g,L[f]? =some g/\g.offset=G/\g.type=P:=by grind
 obtain⟨g,H,rfl,rfl⟩:=H;have s:∀(us:Array Value) d,C.E.ty g.type=some d->a.eval x= .agg us->g.offset+d.size<=us.size->
   (execOp a.eval o).run C.E.prog w= .ok (.value (Zan d (us.extract g.offset (g.offset+d.size)))) w:=by
  simp_all[execOp,Instr.field,asAgg,Za,Zbd]
 generalize hp:a.eval x=p at m;split at b
 ·rename_i d cs l B;split at b
  ·simp_all
  rename_i E;simp only[ZnM]at b;obtain⟨y,D,rfl⟩:=b;rw[B]at m;cases m with |p _ _ m=>cases m with |agg us _ J v I=>
  obtain⟨N,Q,z,q⟩:=hE.is l;obtain⟨r,k⟩:=Zbz (w:=w) (S:=S) D q.one;simp at r;have A:g.offset+d.size<=us.size:=by omega
  refine Zv.quiet h hi ht (s us d l hp A) rfl rfl rfl (.p _ _ ?_);have:=k (us.extract g.offset (g.offset+d.size)).toList (by simp_all) (fun j u c n b=> ?_)
  ·omega
  grind
 ·rename_i d cs l B;split at b
  ·simp at b
  rename_i E;simp only[ZnM]at b;obtain⟨y,D,rfl⟩:=b;rw[B]at m;cases m with |agg us _ J v I=>
  obtain⟨N,Q,z,q⟩:=hE.is l;obtain⟨r,k⟩:=Zd1 (w:=w) (S:=S) (ρ:=ρ) D q.one;simp at r;have A:g.offset+d.size<=us.size:=by omega
  refine Zv.quiet h hi ht (s us d l hp A) rfl rfl rfl ?_;have:=k (us.extract g.offset (g.offset+d.size)).toList (by simp;omega) (fun j u c n b=> ?_)
  ·rwa [Array.toArray_toList]at this
  ·simp only[Array.getElem?_toList,Znr]at n;split at n;rotate_left;simp at n;rw[Znz]at b;exact⟨I _ u c n b,v _ u n⟩
 simp_all
theorem ZeJ {t:TypeId} {x ix:Operand} (M:o.op= .indexAddr t x ix) (d:Zf C.E st.ep i o.op o.type st.slots st.objs=some e) (f:∀q∈e.cond,q=true):Zv C X st a w i o e:=by
 rw[M]at d hlit;simp[Op.operands]at hlit;have g:=Zm h 0 hlit.1;have h2:=Zm h 0 hlit.2;simp only[Zf]at d;split at d;rotate_left;simp at d;rename_i k n hn;rw[hn]at h2;obtain⟨T,_⟩:=ZbX h2;generalize hp:a.eval x=p at g;split at d
 ·rename_i el sz Y ze J;have E:=hE.slice J rfl;split at d;rotate_left;simp at d;rename_i te A;split at d
  ·rename_i R es B;split at d;rotate_left;simp at d;rename_i D;cases d;obtain⟨P,c1⟩:=of_decide_eq_true (f _ ZnE);rw[B]at g;cases g with |p _ _ g=>cases g with |sl p len cap _ _ evs hl hm Q ac r G=>
   obtain⟨m,rfl⟩:=Znw P;have s:m < len:=by omega
   have ag:m < es.length:=by omega
   obtain⟨b,o',rfl,V,af⟩:=r m s;have Z:es.getD m default=es[m]:=by grind
   refine Zv.quiet h hi ht (v:= .pointer (some ⟨b,o'+m*te.size,none⟩)) ?_ rfl rfl rfl ?_
   ·simp[execOp,M,hp,T,Instr.indexAt,asIntOf,Za E,s,ZN hE A,Z8]
   ·simp only[Znx,Z];have F:=G m es[m] (by grind);have ae:=F.size;refine .p _ _ (.ptr b _ _ (fun j=>(evs m).cells.getD j undef) V (fun j c u=> ?_) (fun j c u=> ?_) (fun j c u=> ?_))
    all_goals
     have aa:j < (evs m).cells.size:=by grind
     have E:(evs m).cells[j]? =some (evs m).cells[j]:=by grind
     have K:(evs m).cells.getD j undef=(evs m).cells[j]:=by simp[Znp aa]
    ·simp_all
    ·rw[K];exact(F.cell E u).2
    ·rw[K];exact(F.cell E u).1
  ·rename_i id l len B;split at d
   ·rename_i R es fix I;split at d;rotate_left;simp at d;rename_i D;cases d;obtain⟨P,c1⟩:=of_decide_eq_true (f _ ZnE);rw[B]at g;cases g with |sl _ _ _ cap p L H hl ab Q N=>
    obtain⟨m,rfl⟩:=Znw P;have s:m < len:=by omega
    obtain⟨L',y,z,_⟩:=h.objs id _ I (by simp);rw[H]at y;obtain rfl:=ZnN y;rcases N with N |⟨b,O,rfl,_⟩
    ·omega
    ·refine Zv.quiet h hi ht (v:= .pointer (some ⟨b,L.base+l*L.sz+m*te.size,none⟩)) ?_ rfl rfl rfl ?_
     ·simp[execOp,M,hp,T,Instr.indexAt,asIntOf,Za E,s,ZN hE A,Z8]
     ·have:L.base+l*L.sz+m*te.size=L.base+(l+m)*L.sz+0:=by rw[ZnI,z,D];omega
      simp only[Znx,this];exact .ptr id (l+m) 0 L b H (by omega) O
   ·rename_i R _ _ _ _ _ I;split at d;rotate_left;simp at d;rename_i D;cases d;obtain⟨P,c1⟩:=of_decide_eq_true (f _ ZnE);rw[B]at g;cases g with |sl _ _ _ cap p L H hl ab Q N=>
    obtain⟨m,rfl⟩:=Znw P;have s:m < len:=by omega
    obtain⟨L',y,z,_⟩:=h.objs id _ I (by simp);rw[H]at y;obtain rfl:=ZnN y;rcases N with N |⟨b,O,rfl,_⟩
    ·omega
    ·refine Zv.quiet h hi ht (v:= .pointer (some ⟨b,L.base+l*L.sz+m*te.size,none⟩)) ?_ rfl rfl rfl ?_
     ·simp[execOp,M,hp,T,Instr.indexAt,asIntOf,Za E,s,ZN hE A,Z8]
     ·have:L.base+l*L.sz+m*te.size=L.base+(l+m)*L.sz+0:=by rw[ZnI,z,D];omega
      simp only[Znx,this];exact .ptr id (l+m) 0 L b H (by omega) O
   simp_all
  simp_all
 ·rename_i m el sz Y ze J;have E:=hE.array J rfl;split at d;rotate_left;simp at d;rename_i te A;have S:∀b o',p= .pointer (some ⟨b,o',none⟩)->0<=n/\n < m->(execOp a.eval o).run C.E.prog w= .ok (.value (.pointer (some ⟨b,o'+n.toNat*te.size,none⟩))) w:=by intro b o' B G;subst B;simp[execOp,M,hp,T,Instr.indexAt,asIntOf,Za E,Instr.sureAddr,G,ZN hE A,Z8]
  split at d
  ·rename_i cs B;cases d;have G:=of_decide_eq_true (f _ ZnE);rw[B]at g;cases g with |p _ _ g=>cases g with |ptr b o' _ vs V r g W=>
   refine Zv.quiet h hi ht (S b o' rfl G) rfl rfl rfl (.p _ _ (.ptr b _ _ (fun j=>vs (n.toNat*te.size+j)) V (fun j c u=> ?_) (fun j c u=> ?_) (fun j c u=> ?_)))
   ·rw[Znz]at u;rw[<-r _ c u,ZnH]
   ·rw[Znz]at u;exact g _ c u
   ·rw[Znz]at u;exact W _ c u
  ·rename_i id i' j B;cases d;have G:=of_decide_eq_true (f _ ZnE);rw[B]at g;cases g with |ptr _ _ _ L b H U O=>
   refine Zv.quiet h hi ht (S b _ rfl G) rfl rfl rfl ?_;rw[ZnH];exact .ptr id i' _ L b H U O
  ·simp at d
 simp_all
theorem Zjd {t:TypeId} {x l:Operand} (B:o.op= .index t x l) (b:Zf C.E st.ep i o.op o.type st.slots st.objs=some e) (c:∀q∈e.cond,q=true):Zv C X st a w i o e:=by
 rw[B]at b hlit;simp[Op.operands]at hlit;have g:=Zm h 0 hlit.1;have j:=Zm h 0 hlit.2;simp only[Zf]at b;split at b;rotate_left;simp at b;rename_i k n A;rw[A]at j;obtain⟨D,_⟩:=ZbX j;generalize hp:a.eval x=p at g;split at b;rotate_left;simp at b;rename_i s r;split at b;rotate_left;simp at b;rename_i f;cases b;obtain⟨y,E⟩:=of_decide_eq_true (c _ ZnE);rw[r]at g;obtain⟨rfl,_⟩:=g.of_p.str_inv;obtain⟨m,rfl⟩:=Znw y;have d:m < s.length:=by omega
 have F:=hE.str f;refine Zv.quiet h hi ht (v:= .int .u8 (s[m]).toNat) ?_ rfl rfl rfl ?_
 ·have:(ByteArray.mk s.toArray)[m]? =some s[m]:=by
   have z:m < (ByteArray.mk s.toArray).size:=by grind[Zba]
   rw[getElem?_pos _ m z];congr 1
  simp_all[execOp,Instr.index,asIntOf,Za]
 ·have u:=(s[m]).toNat_lt;simp only[Znx,List.getD_eq_getElem?_getD,List.getElem?_eq_getElem d,ZnL];exact .p _ _ (.int _ _ (by grind[IntKind.min]) (by grind[IntKind.max,IntKind.signed,IntKind.bits]))
end
end Eng
namespace Eng
open Go
section
variable {C:Ctx} {X:Nat->Prop} {ρ:Id->Option Lay} {S:Nat->Prop} {st:St} {a:Act} {w:World} {i:Nat} {o:Oper} {e:Eff}
def Zme:Option Value->Option Int->Prop
 |none,none=>True
 |some v,some n=>∃k,v= .int k n
 |_,_=>False
theorem Zme.cases {v:Option Value} {A:Option Int} (h:Zme v A):(v=none/\A=none)\/∃k n,v=some (.int k n)/\A=some n:=by
 unfold Zme at h;grind
theorem ZkI {P:Program} (k:IntKind) (n:Int) (y:Nat) (a:BoundsCode) (h:0<=n/\n<=y) (w:World):(Instr.sliceBound (.int k n) y a).run P w= .ok n.toNat w:=by simp[Instr.sliceBound,asIntOf,h]
theorem Zff {P:Program} (i:Bool) (len cap:Nat) {d e c:Option Value} {A B M:Option Int} (l:Zme d A) (f:Zme e B) (j:Zme c M)
  (x:M.isSome->B.isSome) (o:0<=A.getD 0) (u:A.getD 0<=B.getD len) (v:B.getD len<=M.getD cap) (h:M.getD cap<=cap) (t:len<=cap) (w:World):
  (Instr.sliceBounds i len cap d e c).run P w= .ok ((A.getD 0).toNat,(B.getD len).toNat,(M.getD cap).toNat) w:=by
 have F:∀(k:IntKind) (n:Int) (y:Nat) (a:BoundsCode),0<=n->n<=y->(Instr.sliceBound (.int k n) y a).run P w= .ok n.toNat w:=fun k n y a q r=>ZkI k n y a ⟨q,r⟩ w
 rcases l.cases with ⟨rfl,rfl⟩ |⟨s,n,rfl,rfl⟩<;>rcases f.cases with ⟨rfl,rfl⟩ |⟨g,b,rfl,rfl⟩<;>rcases j.cases with ⟨rfl,rfl⟩ |⟨p,m,rfl,rfl⟩<;>simp only[Option.getD_none,ZnL]at o u v h
 ·simp[Instr.sliceBounds]
 ·simp_all
 ·simp_all[Instr.sliceBounds]
 ·simp[Instr.sliceBounds,F p m cap _ (by omega) h,F g b m.toNat _ u (by omega)]
 ·simp_all[Instr.sliceBounds]
 ·simp_all
 ·simp[Instr.sliceBounds,F g b cap _ (by omega) v,F s n b.toNat _ o (by omega)]
 ·simp[Instr.sliceBounds,F p m cap _ (by omega) h,F g b m.toNat _ (by omega) (by omega),F s n b.toNat _ o (by omega)]
theorem ZcU (h:Rep C X ρ S st a.tmps w) {lo:Option Operand} {A:Option Int} (d:∀x,lo=some x->ZE x=true) (b:Zb1 C.E st.slots lo=some A):Zme (lo.map a.eval) A:=by
 unfold Zb1 at b;split at b
 ·cases b;trivial
 ·rename_i x;split at b;rotate_left;simp at b;rename_i k n e;cases b;have c:=Zm h 0 (d x rfl);rw[e]at c;exact⟨k,c.of_p.int_inv.1⟩
variable (h:Rep C X ρ S st a.tmps w) (hi:¬X i) (ht:∀d,o.dst=some d->d < C.E.nt) (hlit:o.op.operands.all ZE=true) (hE:Zl C.E)
include h hi ht hlit hE
theorem Zjb {t:TypeId} {x:Operand} {lo ac mx:Option Operand} (ho:o.op= .slice t x lo ac mx) (d:Zf C.E st.ep i o.op o.type st.slots st.objs=some e) (c:∀q∈e.cond,q=true):Zv C X st a w i o e:=by
 rw[ho]at d hlit;have R:ZE x=true/\(∀y,lo=some y->ZE y=true)/\(∀y,ac=some y->ZE y=true)/\(∀y,mx=some y->ZE y=true):=by grind[Op.operands]
 have F:=Zm h 0 R.1;simp only[Zf]at d;split at d;rotate_left;simp at d;rename_i sz A B M as hA hB hM;have oA:=ZcU h R.2.1 hA;have oB:=ZcU h R.2.2.1 hB;have oM:=ZcU h R.2.2.2 hM;generalize hp:a.eval x=p at F;unfold ZaV at d;have J:∀z te (ad:Option Addr) (len cap:Nat),C.E.td t=some (.sl z)->C.E.ty z=some te->p= .slice ad len cap->(M.isSome->B.isSome)->0<=A.getD 0->A.getD 0<=B.getD len->B.getD len<=M.getD cap->M.getD cap<=cap->len<=cap->
   (execOp a.eval o).run C.E.prog w= .ok (.value (.slice (if (M.getD cap).toNat=(A.getD 0).toNat then ad else ad.map (·.add ((A.getD 0).toNat*te.size))) ((B.getD len).toNat - (A.getD 0).toNat) ((M.getD cap).toNat - (A.getD 0).toNat))) w:=by
  intro z te ad len cap f g D hx q0 q1 q2 q3 ag;obtain⟨ds,N,hk⟩:=hE.und f;cases ds<;>simp[Zat]at hk;subst hk D;simp only[execOp,ho,hp,Instr.sliceAt,Instr.slice,Sem.run_bind,Za N,Result.andThen_ok,Zff true len cap oA oB oM hx q0 q1 q2 q3 ag,ZN hE g,Sem.run_pure]
 have K:∀n,sz=some n->∃z te,C.E.td t=some (.sl z)/\C.E.ty z=some te/\te.size=n:=by
  grind
 split at d
 ·
  rename_i s D;split at d
  ·simp_all
  ·cases d;obtain⟨H,E,c2⟩:=of_decide_eq_true (c _ ZnE);rw[D]at F;obtain⟨rfl,ap⟩:=F.of_p.str_inv;have ak:C.E.td t=some .str:=by
    grind
   have N:=hE.str ak;have ai:mx=none:=by
    match mx,oM with
    |none,_=>rfl
   subst ai;have Y:=Zff (P:=C.E.prog) false (ByteArray.mk s.toArray).size (ByteArray.mk s.toArray).size oA oB (show Zme none none from trivial) (by simp) H (by grind[Zba]) (by grind[Zba]) (by simp) (ZnJ _) w;refine Zv.quiet h hi ht (v:= .string ⟨((s.take (B.getD s.length).toNat).drop (A.getD 0).toNat).toArray⟩) ?_ rfl rfl rfl (.p _ _ (.str _ (by grind)));simp only[execOp,ho,hp,Instr.sliceAt,Instr.slice,Sem.run_bind,Za N,Result.andThen_ok,Option.map_none,Option.isSome_none,Znv,if_false,Y,Sem.run_pure];grind[Lib.extract_eq,Zba,List.drop_take]
 ·
  rename_i n U es D;obtain⟨z,te,f,g,hn⟩:=K n rfl;split at d;rotate_left;simp at d;rename_i O;rw[D]at F;cases F with |p _ _ F=>cases F with |sl ad len cap _ _ evs hl hm I ab r hr=>
  have ae:∀(A' H' G:Nat) (V:Option Addr),A'<=H'->H'<=len->H' - A'<=G->(H' - A'=0\/V=ad.map (·.add (A'*te.size)))->RelP w S (.slice V (H' - A') G) (.sl U ((es.take H').drop A')):=by
   intro A' H' G V l1 l2 l3 l4;refine .sl _ _ _ _ _ (fun j=>evs (A'+j)) (by grind) (by omega) l3 (fun j hj=>ab _ (by omega)) (fun j hj=> ?_) (fun j u N=> ?_)
   ·obtain⟨b,o',rfl,hS,aj⟩:=r (A'+j) (by omega);rcases l4 with l4 |l4
    ·omega
    ·subst l4;refine⟨b,o'+A'*te.size,by simp[Z8],hS,fun k v D=> ?_⟩;have:=aj k v D;rw[ZnI]at this;rw[<-this,hn,<-O];congr 2;omega
   grind
  split at d
  ·
   cases d;obtain⟨H,E,c2⟩:=of_decide_eq_true (c _ ZnE);have ao:A.getD 0<=B.getD len:=by rw[<-hl];exact E
   have ar:B.getD len<=len:=by rw[<-hl];exact c2
   have l:=J z te ad len cap f g rfl (by simp) H ao (by simp;omega) (by simp) I;refine Zv.quiet h hi ht l rfl rfl rfl (.p _ _ ?_);rw[hl];refine ae _ _ _ _ (by omega) (by omega) (by simp;omega) ?_;simp only[Option.getD_none,Znx];split
   ·exact .inl (by omega)
   ·exact .inr rfl
  ·
   rename_i m hh;cases d;obtain⟨H,E,c2,rfl⟩:=of_decide_eq_true (c _ ZnE);have l:=J z te ad len cap f g rfl (by simp) H E (by simp) (by simp;omega) I;refine Zv.quiet h hi ht l rfl rfl rfl ?_;simp only[ZnL];refine .clip _ _ _ _ (ae _ _ _ _ (by omega) (by omega) (by omega) ?_);split
   ·exact .inl (by omega)
   ·exact .inr rfl
  grind
 ·
  rename_i n id W len D;obtain⟨z,te,f,g,hn⟩:=K n rfl;split at d;rotate_left;simp at d;rename_i U es fix aa;split at d;rotate_left;simp at d;rename_i O;rw[D]at F;cases F with |sl _ _ _ cap ad L hL hl aw I ha=>
  have Q:=h.objs id _ aa (by simp);obtain⟨L',Q,T,au,ag,aq,av,ah,evs,an,r,Z⟩:=Q;rw[hL]at Q;obtain rfl:=ZnN Q;split at d
  ·cases d;obtain⟨H,E,c2⟩:=of_decide_eq_true (c _ ZnE);have l:=J z te ad len cap f g rfl (by simp) H E (by simp;omega) (by simp) I;refine Zv.quiet h hi ht l rfl rfl rfl ?_;simp only[Option.getD_none,Znx];refine .sl id _ _ _ _ L hL (by omega) (by omega) (by omega) ?_;rcases ha with ha |⟨b,Y,rfl,af⟩
   ·exact .inl (by omega)
   ·by_cases hq:cap=(A.getD 0).toNat
    ·exact .inl (by omega)
    ·refine .inr ⟨b,Y, ?_,by omega⟩;rw[if_neg hq];simp only[Option.map_some,Z8,T,O,hn,ZnI];congr 2;omega
  ·rename_i m hh;cases d;obtain⟨H,E,c2,rfl⟩:=of_decide_eq_true (c _ ZnE);have l:=J z te ad len cap f g rfl (by simp) H E (by simp) (by simp;omega) I;refine Zv.frz h hi ht l rfl rfl (by simp[hL]) fun S' al am=> ?_
   simp only[ZnL];refine .clip _ _ _ _ ?_;refine .sl _ _ _ _ _ (fun j=>evs (W+(A.getD 0).toNat+j)) (by simp;omega) (by omega) (ZnJ _) (fun j hj=>an _ (by omega)) (fun j hj=> ?_) (fun j u N=> ?_)
   ·rcases ha with ha |⟨b,Y,rfl,af⟩
    ·omega
    ·rw[if_neg (by omega)];refine⟨b,L.base+W*L.sz+(A.getD 0).toNat*te.size,by simp[Z8],am id (by simp) _ L b aa (by simp) hL Y,fun k v D=> ?_⟩;have:=r b Y (W+(A.getD 0).toNat+j) k v (by omega) D;rw[<-this,T,O,hn];congr 2;simp only[ZnI];omega
   ·rw[ZnC]at N;split at N;rotate_left;simp at N;rw[Znz]at N;exact(Z _ u N).mono (fun _ _ _=>rfl) al
  ·simp at d
 ·
  rename_i n U D;obtain⟨z,te,f,g,hn⟩:=K n rfl;split at d;rotate_left;simp at d;cases d;obtain⟨H,E⟩:=of_decide_eq_true (c _ ZnE);rw[D]at F;cases F;have cB:B.getD (0:Nat)=0:=E;have l:=J z te none 0 0 f g rfl (by simp) (by omega) (by omega) (by simp;omega) (by simp) (ZnJ _);refine Zv.quiet h hi ht l rfl rfl rfl ?_;simp[H,E];exact .nils _
 simp_all
end
end Eng
namespace Eng
open Go
section
variable {C:Ctx} {X:Nat->Prop} {ρ:Id->Option Lay} {S:Nat->Prop} {st:St} {a:Act} {w:World} {i:Nat} {o:Oper} {e:Eff}
theorem ZF {P:Program} {b:Builtin} {args:Array Operand} {c:Array TypeId} (d:o.op= .call {callee:= .builtin b,args,argTypes:=c}):
  ∃cs,(execOp a.eval o).run P w=(builtin b c o.type cs (args.map a.eval)).run P w:=by
 refine⟨args.map fun | .const _=>true |_=>false, ?_⟩;grind[execOp,resolve,invoke]
theorem Zgk {P:Program} {s:Sem Value} {r:Value} {w':World} (h:s.run P w= .ok r w'):(do pure (Next.value (<-s)):Sem Next).run P w= .ok (.value r) w':=by simp[h]
theorem ZdV {n:Nat} (h:n<=Zr):IntKind.i64.min<=(n:Int)/\(n:Int)<=IntKind.i64.max:=by
 have a:IntKind.i64.min= -9223372036854775808:=by decide
 have b:IntKind.i64.max=9223372036854775807:=by decide
 grind[Zr]
theorem Zlp {lk:Id->Option Obj} (F:Objs w S ρ lk) {v:Value} {d:D} {n:Nat} {c:List Bool} {td:TD} (g:RelD w S ρ v d) (f:Zf4 lk td d=some (n,c)) (e:∀q∈c,q=true) {E:Env} (M:Zl E) {t:Nat} (z:E.td t=some td)
  (x:Array TypeId) (h:x[0]? =some t) (ty:TypeId):(Builtin.len_ x ty #[v]).run E.prog w= .ok (.int .i64 n) w/\n<=Zr:=by
 obtain⟨i,m,a⟩:=M.und z;have I:Z9<=Zr:=by decide
 unfold Zf4 at f;split at f<;>(try simp only[ZnO,ZnP,reduceCtorEq]at f)
 ·obtain⟨rfl,rfl⟩:=f;cases i<;>simp[Zat]at a;obtain⟨rfl,rfl⟩:=a;exact⟨by simp_all[Builtin.len_,goInt,Za],of_decide_eq_true (e _ ZnE)⟩
 ·obtain⟨rfl,rfl⟩:=f;obtain⟨rfl,l⟩:=g.of_p.str_inv;cases i<;>simp[Zat]at a;simp_all[Builtin.len_,goInt,Zba,Za]
 ·obtain⟨rfl,rfl⟩:=f;cases i<;>simp[Zat]at a;cases g with |p _ _ g=>cases g with |sl ad len cap _ _ evs l P y u j K=>
  exact⟨by simp_all[Builtin.len_,goInt,Za],by omega⟩
 ·obtain⟨rfl,rfl⟩:=f;cases i<;>simp[Zat]at a;cases g with |clip ad len _ _ g=>cases g with |sl ad len cap _ _ evs l P y u j K=>
  exact⟨by simp[Builtin.len_,h,Za m,goInt,l],by omega⟩
 ·obtain⟨rfl,rfl⟩:=f;cases i<;>simp[Zat]at a;cases g;exact⟨by simp[Builtin.len_,h,Za m,goInt],by simp⟩
 ·obtain⟨rfl,rfl⟩:=f;cases i<;>simp[Zat]at a;cases g with |sl _ _ _ cap p L H l Q y V=>
  exact⟨by simp[Builtin.len_,h,Za m,goInt],by omega⟩
 ·obtain⟨rfl,rfl⟩:=f;cases i<;>simp[Zat]at a;cases g with |p _ _ g=>cases g with
  |nilmap=>exact⟨by simp[Builtin.len_,h,Za m,goInt],by simp⟩
  |map _ r es k _ A U C R l _ _ _ _ G O=>
   exact⟨by simp[Builtin.len_,h,Za m,goInt,getObj,Sem.run,C,l,R.length_eq],of_decide_eq_true (e _ ZnE)⟩
 ·rename_i id;split at f;rotate_left;simp at f;rename_i W B;simp only[ZnO,ZnP]at f;obtain⟨rfl,rfl⟩:=f;cases i<;>simp[Zat]at a;cases g with |map _ L b H C=>
  obtain⟨L',s,b',o,es,k,A,N,J,T,_⟩:=F id _ B (by simp);rw[H]at s;obtain rfl:=ZnN s;rw[C]at o;obtain rfl:=ZnN o;exact⟨by simp[Builtin.len_,h,Za m,goInt,getObj,Sem.run,N,T,J.length_eq],of_decide_eq_true (e _ ZnE)⟩
variable (h:Rep C X ρ S st a.tmps w) (hi:¬X i) (ht:∀d,o.dst=some d->d < C.E.nt) (hlit:o.op.operands.all ZE=true) (hE:Zl C.E)
include h hi ht hlit
theorem ZhI {x:Operand} (l:o.op= .assign x) (c:Zf C.E st.ep i o.op o.type st.slots st.objs=some e):Zv C X st a w i o e:=by
 rw[l]at c hlit;have f:=Zm h o.type (by grind[Op.operands]:ZE x=true);have b:(execOp a.eval o).run C.E.prog w= .ok (.value (a.eval x)) w:=by simp[execOp,l]
 simp only[Zf]at c;split at c
 ·
  rename_i sz m;cases c;rw[m]at f;generalize hp:a.eval x=p at f;cases f;rw[hp]at b;let L:Lay:=⟨none,0,sz,0,0⟩;have g:ρ (st.ep,i,0)=none:=by
   cases c:ρ (st.ep,i,0)with
   |none=>rfl
   |some L=>have:=h.young (st.ep,i,0) (by grind);simp_all
  refine⟨_,_,w,b,.inl rfl,upd ρ (st.ep,i,0) (some L),h.step _ hi ht (ZnJ _) (ZQ.refl _) (fun _ _ _=>rfl) (by simp) ?_ ?_ (by simp) ?_ ?_ (by simp) ?_⟩
  ·grind[upd]
  ·grind[upd]
  ·intro k o' j;simp only[ZnF,ZnP]at j;obtain⟨rfl,rfl⟩:=j;exact⟨L,by simp[upd],by grind,fun S' _ _ _=>⟨rfl,rfl,by grind,by grind,by grind,by grind,fun _=>default,by grind,by grind,by simp⟩⟩
  ·simp_all
  ·intro S' _ _ d _;exact .sl _ 0 0 0 none L (by simp[upd]) (by omega) (by simp) (by simp) (.inl rfl)
 grind[Zv.quiet]
omit hi ht hlit in
theorem Zaj:∀(xs:List Operand) (ts:List Nat),(∀x∈xs,ZE x=true)->(ZY C.E st.slots xs ts).length=xs.length/\
  ∀(j:Nat) v d,(xs.map a.eval)[j]? =some v->(ZY C.E st.slots xs ts)[j]? =some d->RelD w S ρ v d
 | [],_,_=>⟨rfl,by simp⟩
 |x::xs,[],hx=>by
  obtain⟨l,r⟩:=Zaj xs [] (fun y hy=>hx y (by simp[hy]))
  refine⟨by simp[ZY,l],fun j v d hv hd=> ?_⟩
  cases j with
  |zero=>simp[ZY]at hv hd;subst hv hd;exact Zm h _ (hx x (by simp))
  |succ j=>simp[ZY]at hv hd;exact r j v d (by simpa using hv) hd
 |x::xs,t::ts,hx=>by
  obtain⟨l,r⟩:=Zaj xs ts (fun y hy=>hx y (by simp[hy]))
  refine⟨by simp[ZY,l],fun j v d hv hd=> ?_⟩
  cases j with
  |zero=>simp[ZY]at hv hd;subst hv hd;exact Zm h _ (hx x (by simp))
  |succ j=>simp[ZY]at hv hd;exact r j v d (by simpa using hv) hd
omit h hi ht hlit in
theorem Zlm {ds:List D} {z:P} (hz:maxP ds=some z) {vs:List Value} (hl:vs.length=ds.length) (hr:∀(j:Nat) v d,vs[j]? =some v->ds[j]? =some d->RelD w S ρ v d) (P:Program) (ats:Array TypeId) (ty:TypeId):
  ∃r,(Builtin.max_ ats ty vs.toArray).run P w= .ok r w/\RelP w S r z:=by
 unfold maxP at hz
 split at hz
 ·rename_i k x k' y
  by_cases hk:k=k'
  ·rw[if_pos hk]at hz
   subst hk
   cases hz
   match vs,hl with
   | [u,v],_=>
    obtain⟨rfl,r1,r2⟩:=ZbX (hr 0 _ _ rfl rfl)
    obtain⟨rfl,r3,r4⟩:=ZbX (hr 1 _ _ rfl rfl)
    refine⟨_,by simp[Builtin.max_,Builtin.max2],.int _ _ ?_ ?_⟩<;>split<;>assumption
  ·rw[if_neg hk]at hz;simp at hz
 ·rename_i k x k' y k'' z'
  by_cases hk:k=k'/\k=k''
  ·rw[if_pos hk]at hz
   obtain⟨rfl,rfl⟩:=hk
   cases hz
   match vs,hl with
   | [u,v,q],_=>
    obtain⟨rfl,r1,r2⟩:=ZbX (hr 0 _ _ rfl rfl)
    obtain⟨rfl,r3,r4⟩:=ZbX (hr 1 _ _ rfl rfl)
    obtain⟨rfl,r5,r6⟩:=ZbX (hr 2 _ _ rfl rfl)
    have g:∀b:Int,k.min<=b->b<=k.max->RelP w S (.int k b) (.int k b):=fun b p q=> .int k b p q
    refine⟨_,by simp[Builtin.max_,Builtin.max2];rfl, ?_⟩
    refine .int k _ ?_ ?_<;>split<;>(first |assumption |(split<;>first |assumption |(split<;>assumption)))
  ·rw[if_neg hk]at hz;simp at hz
 ·simp at hz
omit h hi ht hlit in
theorem Zll {ds:List D} {z:P} (hz:minP ds=some z) {vs:List Value} (hl:vs.length=ds.length) (hr:∀(j:Nat) v d,vs[j]? =some v->ds[j]? =some d->RelD w S ρ v d) (P:Program) (ats:Array TypeId) (ty:TypeId):
  ∃r,(Builtin.min_ ats ty vs.toArray).run P w= .ok r w/\RelP w S r z:=by
 unfold minP at hz
 split at hz
 ·rename_i k x k' y
  by_cases hk:k=k'
  ·rw[if_pos hk]at hz
   subst hk
   cases hz
   match vs,hl with
   | [u,v],_=>
    obtain⟨rfl,r1,r2⟩:=ZbX (hr 0 _ _ rfl rfl)
    obtain⟨rfl,r3,r4⟩:=ZbX (hr 1 _ _ rfl rfl)
    refine⟨_,by simp[Builtin.min_,Builtin.min2],.int _ _ ?_ ?_⟩<;>split<;>assumption
  ·rw[if_neg hk]at hz;simp at hz
 ·rename_i k x k' y k'' z'
  by_cases hk:k=k'/\k=k''
  ·rw[if_pos hk]at hz
   obtain⟨rfl,rfl⟩:=hk
   cases hz
   match vs,hl with
   | [u,v,q],_=>
    obtain⟨rfl,r1,r2⟩:=ZbX (hr 0 _ _ rfl rfl)
    obtain⟨rfl,r3,r4⟩:=ZbX (hr 1 _ _ rfl rfl)
    obtain⟨rfl,r5,r6⟩:=ZbX (hr 2 _ _ rfl rfl)
    have g:∀b:Int,k.min<=b->b<=k.max->RelP w S (.int k b) (.int k b):=fun b p q=> .int k b p q
    refine⟨_,by simp[Builtin.min_,Builtin.min2];rfl, ?_⟩
    refine .int k _ ?_ ?_<;>split<;>(first |assumption |(split<;>first |assumption |(split<;>assumption)))
  ·rw[if_neg hk]at hz;simp at hz
 ·simp at hz
include hE
theorem Zlz {args:Array Operand} {ats:Array TypeId} (ho:o.op= .call {callee:= .builtin .len,args,argTypes:=ats}) (hc:Zf C.E st.ep i o.op o.type st.slots st.objs=some e) (hcond:∀q∈e.cond,q=true):Zv C X st a w i o e:=by
 rw[ho]at hc hlit;simp only[Zf,ZO]at hc;unfold Zii at hc;split at hc<;>(try simp only[reduceCtorEq]at hc);rename_i t d hds hlen;split at hc;rotate_left;simp at hc;rename_i td htd;split at hc;rotate_left;simp at hc;rename_i n c hn;cases hc;obtain⟨hl,hr⟩:=Zaj h args.toList ats.toList (fun x hx=>by grind[Op.operands,Call.operands,Zns])
 rw[hlen]at hl hr;obtain⟨cs,hrun⟩:=ZF (a:=a) (w:=w) (P:=C.E.prog) ho
 match hx:args.toList,hl with
 | [x],_=>
  rw[hx]at hr;have hrel:=hr 0 (a.eval x) d rfl rfl;have hargs:args.map a.eval= #[a.eval x]:=by grind
  have h0:ats[0]? =some t:=by rw[<-Array.getElem?_toList,hds];rfl
  obtain⟨h1,h2⟩:=Zlp h.objs hrel hn hcond hE htd ats h0 o.type;refine Zv.quiet h hi ht (v:= .int .i64 n) (by simp_all[builtin]) rfl rfl rfl (.p _ _ (.int _ _ (ZdV h2).1 (ZdV h2).2))
omit hE in
theorem Zly {args:Array Operand} {ats:Array TypeId} (ho:o.op= .call {callee:= .builtin .max,args,argTypes:=ats}) (hc:Zf C.E st.ep i o.op o.type st.slots st.objs=some e):Zv C X st a w i o e:=by
 rw[ho]at hc hlit
 simp only[Zf,ZO]at hc
 split at hc<;>simp only[Option.some.injEq,reduceCtorEq]at hc
 rename_i z hz
 subst hc
 obtain⟨hl,hr⟩:=Zaj h args.toList ats.toList (fun x hx=>by
  simp[Op.operands,Call.operands]at hlit
  obtain⟨j,hj,rfl⟩:=Array.mem_iff_getElem.1 (Array.mem_toList_iff.1 hx);exact hlit j hj)
 obtain⟨cs,hrun⟩:=ZF (a:=a) (w:=w) (P:=C.E.prog) ho
 obtain⟨r,h1,h2⟩:=Zlm hz (by simp[hl]) hr C.E.prog ats o.type
 have hargs:args.map a.eval=(args.toList.map a.eval).toArray:=by apply Array.ext';simp
 exact Zv.quiet h hi ht (v:=r) (by rw[hrun,hargs];simp only[builtin,Sem.run_bind,h1,Result.andThen_ok,Sem.run_pure]) rfl rfl rfl (.p _ _ h2)
omit hE in
theorem Zlx {args:Array Operand} {ats:Array TypeId} (ho:o.op= .call {callee:= .builtin .min,args,argTypes:=ats}) (hc:Zf C.E st.ep i o.op o.type st.slots st.objs=some e):Zv C X st a w i o e:=by
 rw[ho]at hc hlit
 simp only[Zf,ZO]at hc
 split at hc<;>simp only[Option.some.injEq,reduceCtorEq]at hc
 rename_i z hz
 subst hc
 obtain⟨hl,hr⟩:=Zaj h args.toList ats.toList (fun x hx=>by
  simp[Op.operands,Call.operands]at hlit
  obtain⟨j,hj,rfl⟩:=Array.mem_iff_getElem.1 (Array.mem_toList_iff.1 hx);exact hlit j hj)
 obtain⟨cs,hrun⟩:=ZF (a:=a) (w:=w) (P:=C.E.prog) ho
 obtain⟨r,h1,h2⟩:=Zll hz (by simp[hl]) hr C.E.prog ats o.type
 have hargs:args.map a.eval=(args.toList.map a.eval).toArray:=by apply Array.ext';simp
 exact Zv.quiet h hi ht (v:=r) (by rw[hrun,hargs];simp only[builtin,Sem.run_bind,h1,Result.andThen_ok,Sem.run_pure]) rfl rfl rfl (.p _ _ h2)
end
end Eng
namespace Eng
open Go
section
variable {C:Ctx} {X:Nat->Prop} {ρ:Id->Option Lay} {S:Nat->Prop} {st:St} {a:Act} {w:World} {i:Nat} {o:Oper} {e:Eff}
theorem Zdv (ep i:Nat):∀(a:List D) (k:Nat),(ZeO ep i k a).length=a.length
 | [],_=>rfl
 |d::r,k=>by cases d<;>simp[ZeO,Zdv ep i r (k+1)]
theorem ZhY (ep i:Nat):∀(a:List D) (k j:Nat) (d:D),a[j]? =some d->
  (ZeO ep i k a)[j]? =some (match d with | .nils _=> .sl (ep,i,k+j) 0 0 |d=>d)
 | [],_,_,_,h=>by grind
 |x::r,k,0,d,h=>by grind[ZeO]
 |x::r,k,j+1,d,h=>by
  have:=ZhY ep i r (k+1) j d (by simp_all);have e:k+1+j=k+(j+1):=by omega
  rw[e]at this;cases x<;>simpa[ZeO]using this
theorem ZaK:∀(a:List D) (k m:Nat) (o:Obj),(m,o)∈ZU k a->k<=m/\∃sz,a[m - k]? =some (.nils sz)/\o= .arr sz [] false
 | [],_,_,_,h=>by grind[ZU]
 |d::r,k,m,o,h=>by
  have rest:(m,o)∈ZU (k+1) r->k<=m/\∃sz,(d::r)[m - k]? =some (.nils sz)/\o= .arr sz [] false:=fun h=>by obtain⟨c,sz,e,b⟩:=ZaK r (k+1) m o h;grind
  cases d<;>simp only[ZU]at h<;>first |exact rest h |skip
  grind
theorem Zem {v:Value} {d:D} (h:RelD w S ρ v d) (A:d.okv=true):v.cells.size=d.cells.length/\
  ∀(j:Nat) u c,v.cells[j]? =some u->d.cells[j]? =some c->RelD w S ρ u c/\Zbp u:=by
 have e:∀(v:Value) (d:D),v.cells= #[v]->d.cells=[d]->Zbp v->RelD w S ρ v d->v.cells.size=d.cells.length/\∀(j:Nat) u c,v.cells[j]? =some u->d.cells[j]? =some c->RelD w S ρ u c/\Zbp u:=by
  grind
 cases h with
 |p v x h=>
  have K:=h.size
  by_cases s:∃cs,x= .agg cs
  ·obtain⟨cs,rfl⟩:=s;refine⟨by grind[D.cells,P.cells],fun j u c m k=> ?_⟩;simp only[D.cells,ZnB,ZnM]at k;obtain⟨y,H,rfl⟩:=k;have:=h.cell m (by simpa[P.cells]using H);exact⟨.p _ _ this.1,this.2⟩
  ·have B:v.cells= #[v]/\Zbp v:=by cases h<;>first |exact⟨rfl,rfl⟩ |simp_all
   have A:(D.p x).cells=[.p x]:=by cases x<;>first |rfl |simp_all
   exact e v _ B.1 A B.2 (.p _ _ h)
 |dead v=>grind[D.okv]
 |val v=>grind[D.okv]
 |undef=>grind[D.okv]
 |anyb b=>exact e _ _ rfl rfl rfl (.anyb b)
 |nils sz=>exact e _ _ rfl rfl rfl (.nils sz)
 |clip a n sz es h=>exact e _ _ rfl rfl rfl (.clip a n sz es h)
 |agg vs cs q G h=>exact⟨q,fun j u c m k=>⟨h j u c m k,G j u m⟩⟩
 |tup vs cs=>grind[D.okv]
 |sl id z len cap a L g q t k F=>exact e _ _ rfl rfl rfl (.sl id z len cap a L g q t k F)
 |ptr id i j L b g hi l=>exact e _ _ rfl rfl rfl (.ptr id i j L b g hi l)
 |map id L b g l=>exact e _ _ rfl rfl rfl (.map id L b g l)
 |it id L b g l=>exact e _ _ rfl rfl rfl (.it id L b g l)
 |fn f fs cs a b C k h J=>exact e _ _ rfl rfl rfl (.fn f fs cs a b C k h J)
 |rp x id b o r u L E s I g l=>exact e _ _ rfl rfl rfl (.rp x id b o r u L E s I g l)
def ZjB (a:List D) (k0 k:Nat):Option Lay:=
 match a[k - k0]? with
 |some (.nils sz)=>if k0<=k then some ⟨none,0,sz,0,0⟩else none
 |_=>none
theorem ZhX {w':World} {S':Nat->Prop} {ρ':Id->Option Lay} {ep:Nat} {a:List D} {k0 j:Nat} {v:Value} {d:D} (l:ZbM S w w') (m:∀b,S b->S' b) (c:∀id L,ρ id=some L->ρ' id=some L)
  (f:∀k L,ZjB a k0 k=some L->ρ' (ep,i,k)=some L) (g:a[j]? =some d) (h:RelD w S ρ v d):∃e,(ZeO ep i k0 a)[j]? =some e/\RelD w' S' ρ' v e:=by
 refine⟨_,ZhY ep i a k0 j d g, ?_⟩;cases d with
 |nils sz=>
  cases h;have:ZjB a k0 (k0+j)=some ⟨none,0,sz,0,0⟩:=by grind[ZjB]
  exact .sl _ 0 0 0 none _ (f _ _ this) (by simp) (by simp) (by simp) (.inl rfl)
 |_=>exact h.mono l m c
theorem Zau {w:World} {S:Nat->Prop} {ρ:Id->Option Lay} (sz:Nat) (fix:Bool):Zp w S ρ ⟨none,0,sz,0,0⟩ (.arr sz [] fix):=
 ⟨rfl,rfl,by simp,by simp,by simp,by simp,fun _=>default,by simp,by simp,by simp⟩
theorem Z3 {w w':World} {x:Go.Obj} (hw:w'.heap=w.heap.push x):w'.heap[w.heap.size]? =some x:=by simp_all
theorem Zaq {w w':World} {x:Go.Obj} (hw:w'.heap=w.heap.push x) {b:Nat} (a:b < w.heap.size):w'.heap[b]? =w.heap[b]? :=by grind
section
variable (h:Rep C X ρ S st a.tmps w) (hi:¬X i) (ht:∀d,o.dst=some d->d < C.E.nt) (hlit:o.op.operands.all ZE=true) (hE:Zl C.E)
include h hi
theorem Rep.fresh (k:Nat):ρ (st.ep,i,k)=none:=by
 cases hc:ρ (st.ep,i,k)with
 |none=>rfl
 |some L=>have:=h.young (st.ep,i,k) (by grind);simp_all
include ht
theorem Zv.box {us:Array Value} {t:TypeId} {ds:List D} {w':World} (hw:w'.heap=w.heap.push (.cells us t)) (hqu:ZQ w w') (hrun:(execOp a.eval o).run C.E.prog w= .ok (.value (.pointer (some ⟨w.heap.size,0,none⟩))) w')
  (hl:us.size=ds.length) (hrel:∀(j:Nat) u d,us[j]? =some u->ds[j]? =some d->RelD w S ρ u d/\Zbp u)
  (he:e={val:= .ptr (st.ep,i,0) 0 0,new:=(0,.box (ZeO st.ep i 1 ds))::ZU 1 ds}):Zv C X st a w i o e:=by
 subst he;let L:Lay:=⟨some w.heap.size,0,ds.length,1,1⟩;let ρ':Id->Option Lay:=fun id=>if id.1=st.ep/\id.2.1=i then (if id.2.2=0 then some L else ZjB ds 1 id.2.2)else ρ id
 have f:=h.fresh hi;have hρ:∀id L,ρ id=some L->ρ' id=some L:=by
  grind
 have hv:∀k L,ZjB ds 1 k=some L->ρ' (st.ep,i,k)=some L:=by
  grind[ZjB]
 have hbox:ρ' (st.ep,i,0)=some L:=by grind
 have kp:∀b,b < w.heap.size->w'.heap[b]? =w.heap[b]? :=fun b hb=>Zaq hw hb
 have kS:ZbM S w w':=fun b hb _=>kp b (h.sIn b hb)
 have hsz:w'.heap.size=w.heap.size+1:=by simp_all
 have hcell:∀j,w'.cell? ⟨w.heap.size,j,none⟩=us[j]? :=fun j=>by grind[World.cell?]
 have hfz:∀j,w'.frozen? ⟨w.heap.size,j,none⟩=false:=fun j=>by grind[World.frozen?]
 refine⟨_,_,w',hrun,.inl rfl,ρ',h.step ρ' hi ht (by omega) hqu (fun b hb _=>kp b hb) (by simp) hρ ?_ (by simp) ?_ ?_ (by simp) ?_
  (fun k o hm=>(ZnD.1 hm).elim (fun h=>by simp_all) (ZdG _ _ k o))⟩
 ·grind
 ·intro k o' hm;rcases ZnD.1 hm with hm |hm
  ·simp only[ZnP]at hm;obtain⟨rfl,rfl⟩:=hm;refine⟨L,hbox,fun b hb=> ?_,fun S' hS _ _=>⟨w.heap.size,rfl,by simp[L,Zdv],rfl,fun j d hd=> ?_⟩⟩
   ·grind
   ·have hjl:j < ds.length:=by grind[Zdv]
    have hju:j < us.size:=by omega
    obtain⟨r1,r2⟩:=hrel j us[j] ds[j] (by grind) (by grind);obtain⟨d',hd',hr⟩:=ZhX (i:=i) (ep:=st.ep) (k0:=1) kS hS hρ hv (by grind:ds[j]? =some ds[j]) r1;grind
  ·obtain⟨h1,sz,h2,rfl⟩:=ZaK _ _ _ _ hm;simp_all[ZjB,Zau]
 ·intro k o1 L1 k' o2 L2 b hm _ hL hb hm' _ hL' hb';grind[ZjB,ZnP]
 ·intro S' _ _ d _;have:=RelD.ptr (w:=w') (S:=S') (ρ:=ρ') (st.ep,i,0) 0 0 L w.heap.size hbox (by simp[L]) rfl;simpa[L]using this
theorem Zv.arr {cells:Array Value} {t:TypeId} {fr:Nat×Nat} {sz len cap:Nat} {es:List P} {fs:List Id} {c:List Bool} {evs:Nat->Value} {w':World} (hw:w'.heap=w.heap.push (.cells cells t fr)) (u:ZQ w w') (H:∀j,j < cells.size->¬(fr.1<=j/\j < fr.2))
  (q:(execOp a.eval o).run C.E.prog w= .ok (.value (.slice (some ⟨w.heap.size,0,none⟩) len cap)) w')
  (n:es.length=len) (r:len<=cap) (p:len<=Z9/\cap<=Zr) (G:cells.size=cap*sz) (y:∀j,j < len->(evs j).cells.size=sz)
  (A:∀(j k:Nat) v,j < len->(evs j).cells[k]? =some v->cells[j*sz+k]? =some v)
  (s:∀id,id∈fs->ρ id≠none)
  (m:∀S',(∀b,S b->S' b)->(∀id,id∈fs->∀o L b,st.objs id=some o->o≠ .gone->ρ id=some L->L.blk=some b->S' b)->∀(j:Nat) x,es[j]? =some x->RelP w S' (evs j) x)
  (I:e={val:= .sl (st.ep,i,0) 0 len,new:=[(0,.arr sz es false)],frz:=fs,cond:=c}):Zv C X st a w i o e:=by
 subst I;let L:Lay:=⟨some w.heap.size,0,sz,len,cap⟩;let ρ':Id->Option Lay:=upd ρ (st.ep,i,0) (some L);have f:=h.fresh hi;have B:∀id L,ρ id=some L->ρ' id=some L:=by
  grind[upd]
 have l:ρ' (st.ep,i,0)=some L:=by grind[upd]
 have E:∀b,b < w.heap.size->w'.heap[b]? =w.heap[b]? :=fun b g=>Zaq hw g
 have N:w'.heap.size=w.heap.size+1:=by simp_all
 have R:∀j,w'.cell? ⟨w.heap.size,j,none⟩=cells[j]? :=fun j=>by grind[World.cell?]
 have O:∀j,j < cells.size->w'.frozen? ⟨w.heap.size,j,none⟩=false:=fun j D=>by grind[World.frozen?]
 refine⟨_,_,w',q,.inl rfl,ρ',h.step ρ' hi ht (by omega) u (fun b g _=>E b g) (by simp) B ?_ (fun id z=>⟨s id z,by simp⟩) ?_ ?_ (by simp) ?_⟩
 ·grind[upd]
 ·intro k o' F;simp only[ZnF,ZnP]at F;obtain⟨rfl,rfl⟩:=F;refine⟨L,l,fun b g=> ?_,fun S' J M _=>⟨rfl,n,r,p.1,by grind,fun b g j D=> ?_,evs,y,fun b g j k v D Q=> ?_,fun j x K=> ?_⟩⟩
  ·grind
  ·grind
  ·grind
  ·have:=m S' J M j x K;exact this.mono (fun b _ g=>E b g) fun _ h=>h
 ·simp_all
 ·intro S' _ _ d _;exact .sl _ 0 len cap _ L l (by simp[L]) p r (.inr ⟨w.heap.size,rfl,by simp[L],by simp[L]⟩)
include hE
omit h hi ht in
theorem Zf5 {t:Nat} {ti:TI} (hty:C.E.ty t=some ti):∃z,(∀w,(zeroValue t).run C.E.prog w= .ok z w)/\z.cells.size=(ti.zero.map Z.toD).length/\z.cells.size=ti.size/\
  ∀(j:Nat) u d,z.cells[j]? =some u->(ti.zero.map Z.toD)[j]? =some d->RelD w S ρ u d/\Zbp u:=by
 obtain⟨ii,ds,z,hti⟩:=hE.is hty
 obtain⟨hl,hz⟩:=Zco hti.zs
 simp at hl
 refine⟨z,fun w=>Z0 hti.info hti.zero w,by simp[hl],by rw[hl];exact hti.zl,fun j u d hu hd=> ?_⟩
 rw[List.getElem?_map,Option.map_eq_some_iff]at hd
 obtain⟨y,hy,rfl⟩:=hd
 exact Zmh (hz j u y (by simpa using hu) hy)
theorem Zji {t:TypeId} (ho:o.op= .alloc t) (hc:Zf C.E st.ep i o.op o.type st.slots st.objs=some e):Zv C X st a w i o e:=by rw[ho]at hc;simp only[Zf]at hc;split at hc;rotate_left;simp at hc;rename_i ti hty;simp only[ZnO]at hc;obtain⟨z,hz,hl,_,hrel⟩:=Zf5 (ρ:=ρ) (S:=S) (w:=w) hE hty;refine Zv.box h hi ht (us:=z.cells) (t:=t) (w':=w.alloc (.cells z.cells t)) rfl ⟨rfl,rfl⟩ ?_ hl hrel hc.symm;simp_all[execOp,Instr.alloc,newVar,newRow]
include hlit
theorem ZlA {t:TypeId} {x:Operand} (k:o.op= .box t x) (b:Zf C.E st.ep i o.op o.type st.slots st.objs=some e):Zv C X st a w i o e:=by
 rw[k]at b hlit;simp[Op.operands]at hlit;have l:=Zm h t hlit;simp only[Zf]at b;split at b;rotate_left;simp at b;rename_i ti m;split at b;rotate_left;simp at b;rename_i c;obtain⟨c,g⟩:=c;simp only[ZnO]at b;have f:(execOp a.eval o).run C.E.prog w= .ok (.value (.pointer (some ⟨w.heap.size,0,none⟩))) (w.alloc (.cells (a.eval x).cells t)):=by simp[execOp,k,Instr.box,newVar,newRow]
 have cells:(a.eval x).cells.size=(ev C.E st.slots t x).cells.length/\∀(j:Nat) u d,(a.eval x).cells[j]? =some u->(ev C.E st.slots t x).cells[j]? =some d->RelD w S ρ u d/\Zbp u:=Zem l g;exact Zv.box h hi ht (w':=w.alloc (.cells (a.eval x).cells t)) rfl ⟨rfl,rfl⟩ f cells.1 cells.2 b.symm
end
end
end Eng
namespace Eng
open Go
section
variable {C:Ctx} {X:Nat->Prop} {ρ:Id->Option Lay} {S:Nat->Prop} {st:St} {a:Act} {w:World} {i:Nat} {o:Oper} {e:Eff}
section
variable (h:Rep C X ρ S st a.tmps w) (hi:¬X i) (ht:∀d,o.dst=some d->d < C.E.nt) (hlit:o.op.operands.all ZE=true) (hE:Zl C.E)
include h hi ht
theorem Zv.new1 {x:Go.Obj} {L:Lay} {m:Obj} {fs:List Id} {c:List Bool} {v:Value} {d:D} {w':World} (hw:w'.heap=w.heap.push x) (n:ZQ w w')
  (g:(execOp a.eval o).run C.E.prog w= .ok (.value v) w') (t:L.blk=some w.heap.size) (j:∀id,id∈fs->ρ id≠none)
  (s:∀S' ρ',(∀b,S b->S' b)->(∀id,id∈fs->∀o L b,st.objs id=some o->o≠ .gone->ρ id=some L->L.blk=some b->S' b)->(∀id L,ρ id=some L->ρ' id=some L)->ρ' (st.ep,i,0)=some L->Zp w' S' ρ' L m)
  (q:∀S' ρ',(∀b,S b->S' b)->(∀id L,ρ id=some L->ρ' id=some L)->ρ' (st.ep,i,0)=some L->RelD w' S' ρ' v d)
  (A:e={val:=d,new:=[(0,m)],frz:=fs,cond:=c}) (z:m.isOwn=false:=by rfl):Zv C X st a w i o e:=by
 subst A;let ρ':Id->Option Lay:=upd ρ (st.ep,i,0) (some L);have f:=h.fresh hi;have l:∀id L,ρ id=some L->ρ' id=some L:=by
  grind[upd]
 have r:ρ' (st.ep,i,0)=some L:=by grind[upd]
 have y:∀b,b < w.heap.size->w'.heap[b]? =w.heap[b]? :=fun b p=>Zaq hw p
 have u:w'.heap.size=w.heap.size+1:=by simp_all
 refine⟨_,_,w',g,.inl rfl,ρ',h.step ρ' hi ht (by omega) n (fun b p _=>y b p) (by simp) l ?_ (fun id k=>⟨j id k,by simp⟩) ?_ ?_ (by simp) ?_ (by simp_all)⟩
 all_goals grind[upd]
theorem ZgR {t:TypeId} (c:o.op= .makeMap t none) (b:Zf C.E st.ep i o.op o.type st.slots st.objs=some e):Zv C X st a w i o e:=by
 rw[c]at b;simp only[Zf,ZnO]at b;refine Zv.new1 h hi ht (x:= .map #[] 0) (L:=⟨some w.heap.size,0,0,0,0⟩) (w':=w.alloc (.map #[] 0)) (v:= .map (some w.heap.size)) rfl ⟨rfl,rfl⟩ (by simp[execOp,c,Instr.makeMap]) rfl (fs:=[]) (by simp) ?_ ?_ b.symm
 ·intro S' ρ' _ _ _ _;exact⟨_,rfl, #[],0,[],Z3 rfl,.refl _,rfl,by simp,by simp,by simp,by simp,by simp⟩
 ·intro S' ρ' _ _ d;exact .map _ _ _ d rfl
include hlit hE
theorem Zjc {t:TypeId} {x:Operand} (g:o.op= .range t x) (b:Zf C.E st.ep i o.op o.type st.slots st.objs=some e):Zv C X st a w i o e:=by
 rw[g]at b hlit;simp[Op.operands]at hlit;have j:=Zm h 0 hlit;simp only[Zf]at b;split at b;rotate_left;simp at b
 
 rename_i s c q;rw[q]at j;obtain⟨p,l⟩:=j.of_p.str_inv;simp only[ZnO]at b;obtain⟨d,n,m⟩:=hE.und c;have f:d= .string:=by cases d<;>simp[Zat]at m<;>rfl
 subst f;refine Zv.new1 h hi ht (x:= .stringIter ⟨s.toArray⟩ 0) (L:=⟨some w.heap.size,0,0,0,0⟩) (w':=w.alloc (.stringIter ⟨s.toArray⟩ 0)) (v:= .pointer (some ⟨w.heap.size,0,none⟩)) rfl ⟨rfl,rfl⟩
  (by simp[execOp,g,Instr.range,p,Za n]) rfl (fs:=[]) (by simp) ?_ ?_ b.symm
 ·intro S' ρ' _ _ _ _;exact⟨_,rfl,Z3 rfl,l⟩
 ·intro S' ρ' _ _ k;exact .it _ _ _ k rfl
omit h hi ht hlit in
theorem Zbs {t:Nat} {ti:TI} (hty:C.E.ty t=some ti):∃z,(∀w,(zeroValue t).run C.E.prog w= .ok z w)/\z.cells.size=ti.size/\RelP w S z ti.zeroP:=by
 obtain⟨ii,ds,z,hti⟩:=hE.is hty
 obtain⟨hl,hz⟩:=Zco hti.zs
 simp at hl
 have leaf:∀v z',zOk v z'=true->RelP w S v z'.toP/\Zbp v:=by
  intro v z' hz
  unfold zOk at hz
  split at hz
  ·exact⟨.bool false,rfl⟩
  ·rename_i k n k' m
   simp only[Bool.and_eq_true,beq_iff_eq]at hz
   obtain⟨⟨rfl,rfl⟩,rfl⟩:=hz
   refine⟨.int _ _ ?_ ?_,rfl⟩<;>cases k<;>decide
  ·rename_i s
   obtain⟨⟨l⟩⟩:=s
   simp at hz
   subst hz
   exact⟨.str [] (by simp),rfl⟩
  ·exact⟨.sl none 0 0 _ [] (fun _=>default) rfl (by simp) (by simp) (by simp) (by simp) (by simp),rfl⟩
  ·exact⟨.nilp,rfl⟩
  ·exact⟨.nilmap _,rfl⟩
  ·exact⟨.nilfn,rfl⟩
  ·simp at hz
 refine⟨z,fun w=>Z0 hti.info hti.zero w,by rw[hl];exact hti.zl, ?_⟩
 unfold TI.zeroP
 cases hg:ti.isAgg with
 |true=>
  obtain⟨cs,rfl⟩:=hti.agg hg
  simp only[if_true]
  simp only[Value.cells]at hl hz
  refine .agg cs _ (by simp[hl]) (fun j v hv=> ?_) (fun j v c hv hc=> ?_)
  ·have hj:j < ti.zero.length:=by have:=(Array.getElem?_eq_some_iff.1 hv).1;omega
   exact(leaf v ti.zero[j] (hz j v _ (by simpa using hv) (by simp[hj]))).2
  ·rw[List.getElem?_map,Option.map_eq_some_iff]at hc
   obtain⟨y,hy,rfl⟩:=hc
   exact(leaf v y (hz j v y (by simpa using hv) hy)).1
 |false=>
  obtain⟨hc1,hl1⟩:=hti.flat hg
  simp only[Bool.false_eq_true,if_false]
  obtain⟨y,hy⟩:∃y,ti.zero=[y]:=by
   match hq:ti.zero,hl1 with
   | [y],_=>exact⟨y,rfl⟩
  rw[hy]
  simp only[List.map_cons,List.map_nil,List.headD_cons]
  exact(leaf z y (hz 0 z y (by rw[hc1];rfl) (by rw[hy];rfl))).1
omit hlit in
theorem ZgQ {t:TypeId} {l c:Operand} {te:TI} {k1 k2:IntKind} {n1 n2:Int} {c' k:Nat} (ho:o.op= .makeSlice t l c) (e1:a.eval l= .int k1 n1) (e2:a.eval c= .int k2 n2) (hel:C.E.elem t=some te)
  (hc:(if te.isAgg=true/\c' < te.size then match te.zero[c']? with
     |some (.nils k')=>if k'=k then some ({val:= .sl (st.ep,i,0) 0 n1.toNat,new:=[(0,.own te.size c' k (List.replicate n1.toNat te.zeroP) n1.toNat none)],cond:=[decide (0<=n1/\n1<=n2/\n2*te.bytes<=ZD/\n2<=ZD)]}:Eff)else none
     |_=>none
    else none)=some e) (hcond:∀q∈e.cond,q=true):Zv C X st a w i o e:=by
 split at hc
 case isFalse=>simp at hc
 rename_i hag
 split at hc
 case h_2=>simp at hc
 rename_i k' hzc
 split at hc
 case isFalse=>simp at hc
 rename_i hkk
 subst hkk
 cases hc
 obtain⟨g0,g1,g2,g3⟩:=of_decide_eq_true (hcond _ List.mem_cons_self)
 have hel0:=hel
 unfold Env.elem at hel
 split at hel
 case h_2=>simp at hel
 rename_i el sz by_ ze hty
 have hu:=hE.slice hty rfl
 obtain⟨z,hz,hzs,hzr⟩:=Zbs (w:=w) (S:=S) hE hel
 obtain⟨ii,ds,z',hti⟩:=hE.is hel
 have hzz:z'=z:=by
  have h1:=hz w
  rw[Z0 hti.info hti.zero w]at h1
  simpa using h1
 subst hzz
 unfold ZD at g2 g3
 have hr:=run_make (P:=C.E.prog) w t el ii z' hu hti.info hti.zero k1 k2 n1 n2 g0 g1 (by rw[hti.bytes,Int.mul_comm];omega) (by omega)
 rw[hti.size]at hr
 have hcs:(madeCells z'.cells (n2.toNat*te.size)).size=n2.toNat*te.size:=size_madeCells _ _
 have hcell:∀j,j < n2.toNat*te.size->(madeCells z'.cells (n2.toNat*te.size))[j]? =some (z'.cells[j % te.size]!):=fun j hj=>by simp[madeCells,hj,hzs]
 obtain⟨hl,hz2⟩:=Zco hti.zs
 simp at hl
 have hzl:te.zero.length=te.size:=by rw[<-hzs];simpa using hl.symm
 have hnil:z'.cells[c']? =some (.slice none 0 0):=by
  have hlt:c' < z'.cells.size:=by rw[hzs];exact hag.2
  have h1:=hz2 c' (z'.cells[c']) (.nils k') (by simp[hlt]) hzc
  have:z'.cells[c']= .slice none 0 0:=by
   generalize z'.cells[c']=u at h1
   unfold zOk at h1
   split at h1<;>simp_all
  rw[<-this];simp[hlt]
 have hzP:te.zeroP= .agg (te.zero.map Z.toP):=by unfold TI.zeroP;rw[hag.1];rfl
 generalize hcc:madeCells z'.cells (n2.toNat*te.size)=cells at hr hcs hcell
 let L:Lay:=⟨some w.heap.size,0,te.size,n1.toNat,n2.toNat⟩
 let w':=w.alloc (.cells cells el)
 have hw':w'.heap=w.heap.push (.cells cells el):=rfl
 have hsz:w'.heap.size=w.heap.size+1:=by rw[hw'];simp
 let ρ':Id->Option Lay:=upd ρ (st.ep,i,0) (some L)
 have f:=h.fresh hi
 have hρ:∀id L,ρ id=some L->ρ' id=some L:=by
  intro id L' hL
  simp only[ρ',upd]
  split
  ·rename_i hc;subst hc;rw[f]at hL;simp at hL
  ·exact hL
 have hbox:ρ' (st.ep,i,0)=some L:=by simp[ρ',upd]
 have kp:∀b,b < w.heap.size->w'.heap[b]? =w.heap[b]? :=fun b hb=>Zaq hw' hb
 have cellAt:∀j,j < n2.toNat*te.size->w'.cell? ⟨w.heap.size,j,none⟩=some (z'.cells[j % te.size]!):=fun j hj=>by
  have:w'.cell? ⟨w.heap.size,j,none⟩=cells[j]? :=by simp[World.cell?,Z3 hw']
  rw[this];exact hcell j hj
 have modj:∀m j,j < te.size->(m*te.size+j) % te.size=j:=fun m j hj=>by rw[Nat.mul_comm,Nat.mul_add_mod];exact Nat.mod_eq_of_lt hj
 have inb:∀m j,m < n1.toNat->j < te.size->m*te.size+j < n2.toNat*te.size:=fun m j hm hj=>by
  have:(m+1)*te.size<=n2.toNat*te.size:=Nat.mul_le_mul_right _ (by omega)
  rw[Nat.add_mul]at this;omega
 have rp:∀m y,(List.replicate n1.toNat te.zeroP)[m]? =some y->m < n1.toNat/\y= .agg (te.zero.map Z.toP):=fun m y hy=>by
  rw[List.getElem?_replicate]at hy
  split at hy
  rotate_left
  simp at hy
  rename_i hm;simp only[Option.some.injEq]at hy;exact⟨hm,by rw[<-hy,hzP]⟩
 have hzc2:(te.zero.map Z.toP)[c']? =some (.sl k' []):=by rw[List.getElem?_map,hzc];rfl
 refine⟨_,.slice (some ⟨w.heap.size,0,none⟩) n1.toNat n2.toNat,w',by simp only[execOp,ho,e1,e2,Sem.run_bind,hr,Result.andThen_ok,Sem.run_pure];rfl,.inl rfl,ρ',h.stepG (i:=i) (t:=o.dst) ρ' hi ht (by omega) ⟨rfl,rfl⟩ (fun b hb _=>kp b hb) (by simp) hρ ?_ (by simp) ?_ ?_ (by simp) ?_ ?_⟩
 ·intro id hn
  simp only[ρ',upd]at hn
  split at hn
  ·rename_i hc;subst hc;exact .inr ⟨rfl,rfl⟩
  ·exact .inl hn
 ·intro k o' hm
  simp only[List.mem_singleton,Prod.mk.injEq]at hm
  obtain⟨rfl,rfl⟩:=hm
  refine⟨L,hbox,fun b hb=> ?_,fun S' hS _ _=> ?_⟩
  ·simp only[L,Option.some.injEq]at hb;subst hb;exact⟨.inl (Nat.le_refl _),by omega⟩
  refine⟨rfl,by simp[L],by simp only[L];omega,by simp only[L];unfold Z9;omega,hag.2,by simp[L],fun b hb j hj=> ?_,fun m y hy=> ?_⟩
  ·simp only[L,Option.some.injEq]at hb;subst hb
   simp only[L,Nat.zero_add]at hj|-
   refine⟨⟨_,cellAt j hj⟩, ?_⟩
   simp only[World.frozen?,Z3 hw']
   simp
  ·obtain⟨hm,rfl⟩:=rp m y hy
   refine⟨_,[],rfl,by simp[hzl],hzc2,fun b hb j x v hx hv=> ?_⟩
   simp only[L,Option.some.injEq]at hb;subst hb
   have hj:j < te.size:=by have:=(List.getElem?_eq_some_iff.1 hx).1;simp at this;omega
   simp only[L,Nat.zero_add]at hv
   rw[cellAt _ (inb m j hm hj),modj m j hj]at hv
   rw[hzP]at hzr
   have hu':z'.cells[j]? =some v:=by
    have hlt:j < z'.cells.size:=by rw[hzs];exact hj
    simp only[getElem!_def,Array.getElem?_eq_getElem hlt,Option.some.injEq]at hv
    rw[<-hv];simp[hlt]
   have r:=hzr.cell (j:=j) (u:=v) (c:=x) hu' hx
   exact⟨r.2,fun _=>r.1.mono (fun b hb _=>kp b (h.sIn b hb)) hS⟩
 ·intro k o1 L1 k' o2 L2 b hm _ hL hb hm' _ hL' hb'
  simp only[List.mem_singleton,Prod.mk.injEq]at hm hm'
  rw[hm.1,hm'.1]
 ·intro S' hS _ d _
  exact .sl _ _ _ _ _ L hbox (by simp[L]) (by unfold Z9 Zr;omega) (by omega) (.inr ⟨_,rfl,by simp[L],by simp[L]⟩)
 ·intro S' hSS hS' hkp
  have hS0:∀b,S' b->S b:=fun b hb=>(hS' b hb).elim (fun h=>h) fun⟨_,_,_,hm,_⟩=>by simp at hm
  obtain⟨κ,F⟩:=h.fam
  generalize he:(st.app i o.dst {val:= .sl (st.ep,i,0) 0 n1.toNat,new:=[(0,.own te.size c' k' (List.replicate n1.toNat te.zeroP) n1.toNat none)],cond:=[decide (0<=n1/\n1<=n2/\n2*te.bytes<=ZD/\n2<=ZD)]})=st2
  have hob:∀id1 ob,st2.objs id1=some ob->(id1=(st.ep,i,0)/\ob= .own te.size c' k' (List.replicate n1.toNat te.zeroP) n1.toNat none)\/st.objs id1=some ob:=by
   intro id1 ob hob
   rw[<-he]at hob
   rcases ZK st i _ _ id1 ob hob with ⟨k1,rfl,hm⟩ |hm |⟨_,hob⟩
   ·simp only[List.mem_singleton,Prod.mk.injEq]at hm
    exact .inl ⟨by rw[hm.1],hm.2⟩
   ·simp at hm
   ·exact .inr hob
  have hf2:∀id1,st2.fz id1=st.fz id1:=fun id1=>by rw[<-he,ZbK];simp
  have rold:∀id L,ρ id≠none->ρ' id=some L->ρ id=some L:=fun id L hn hL=>by
   cases hc:ρ id with
   |none=>exact absurd hc hn
   |some L0=>have:=hρ id L0 hc;rw[hL]at this;rw[this]
  have ko:∀{id1 i1 sz1 c1 k1 l1},Kid st2.objs st2.fz id1 i1 sz1 c1 k1 l1->(id1=(st.ep,i,0)/\i1 < n1.toNat/\sz1=te.size/\c1=c'/\k1=k'/\l1=[])\/(id1≠(st.ep,i,0)/\Kid st.objs st.fz id1 i1 sz1 c1 k1 l1):=by
   rintro id1 i1 sz1 c1 k1 l1 ⟨es1,lo1,out1,cs1,ho1,hf,q1,q2,q0,q3⟩
   rw[hf2]at hf
   rcases hob _ _ ho1 with ⟨rfl,ho2⟩ |ho1
   ·simp only[Obj.own.injEq]at ho2
    obtain⟨rfl,rfl,rfl,rfl,rfl,rfl⟩:=ho2
    obtain⟨_,hy⟩:=rp _ _ q1
    simp only[P.agg.injEq]at hy;subst hy
    rw[hzc2]at q2
    simp only[Option.some.injEq,P.sl.injEq]at q2
    exact .inl ⟨rfl,q0,rfl,rfl,rfl,q2.2.symm⟩
   ·refine .inr ⟨fun e=> ?_,⟨es1,lo1,out1,cs1,ho1,hf,q1,q2,q0,q3⟩⟩
    have:=h.known id1 (by simp[ho1])
    rw[e,f]at this;exact this rfl
  refine⟨fun id1 i1=>if id1=(st.ep,i,0)then ⟨none,0,k',0,0⟩else κ id1 i1,fun id1 i1 sz1 c1 k1 l1 L1 hk1 hL1=> ?_,fun id1 i1 sz1 c1 k1 l1 b1 hk1 hb1=> ?_,fun id1 i1 sz1 c1 k1 l1 id2 i2 sz2 c2 k2 l2 b1 h1 h2 h3 h4=> ?_⟩
  ·rcases ko hk1 with ⟨rfl,hlt,rfl,rfl,rfl,rfl⟩ |⟨hne,hk0⟩
   ·simp only[if_true]
    rw[hbox]at hL1;obtain rfl:=Option.some.inj hL1
    refine⟨w.heap.size,.slice none 0 0,rfl, ?_,.sl _ _ _ 0 none _ rfl (by simp) (by simp[Z9,Zr]) (by simp) (.inl rfl),Zau _ _⟩
    simp only[L,Nat.zero_add]
    rw[cellAt _ (inb i1 _ hlt hag.2),modj i1 _ hag.2,getElem!_def,hnil]
   ·simp only[if_neg hne]
    have hk2:=hk0
    obtain⟨es1,lo1,out1,cs1,ho1,_⟩:=hk2
    have hL0:=rold id1 L1 (h.known id1 (by simp[ho1])) hL1
    obtain⟨b1,v1,q1,q2,q3,q4⟩:=F.kid _ _ _ _ _ _ L1 hk0 hL0
    have hb1:=(h.own id1 _ L1 b1 ho1 (by simp) hL0 q1).1
    exact⟨b1,v1,q1,by rw[ZS (kp b1 hb1)];exact q2,q3.mono hkp hSS (fun _ _ h=>h),q4.mono hkp hSS (fun _ _ h=>h) fun b2 hb2=>kp b2 (F.own _ _ _ _ _ _ b2 hk0 hb2).1⟩
  ·rcases ko hk1 with ⟨rfl,hlt,rfl,rfl,rfl,rfl⟩ |⟨hne,hk0⟩
   ·simp at hb1
   ·simp only[if_neg hne]at hb1
    obtain⟨q1,q2,q3,q4⟩:=F.own _ _ _ _ _ _ b1 hk0 hb1
    refine⟨by omega,q2,fun hs=>q3 (hS0 _ hs),fun id2 o2 L2 ho2 hg2 hL2 hb2=> ?_⟩
    rcases hob _ _ ho2 with ⟨rfl,rfl⟩ |ho2
    ·rw[hbox]at hL2;obtain rfl:=Option.some.inj hL2
     simp only[L,Option.some.injEq]at hb2;omega
    ·exact q4 id2 o2 L2 ho2 hg2 (rold id2 L2 (h.known id2 (by simp[ho2])) hL2) hb2
  ·rcases ko h1 with ⟨rfl,_,_⟩ |⟨hne1,hk1⟩
   ·simp at h3
   ·rcases ko h2 with ⟨rfl,_,_⟩ |⟨hne2,hk2⟩
    ·simp at h4
    ·simp only[if_neg hne1]at h3
     simp only[if_neg hne2]at h4
     exact F.inj _ _ _ _ _ _ _ _ _ _ _ _ b1 hk1 hk2 h3 h4
theorem ZeI {t:TypeId} {l c:Operand} (ho:o.op= .makeSlice t l c) (hc:Zf C.E st.ep i o.op o.type st.slots st.objs=some e) (hcond:∀q∈e.cond,q=true):Zv C X st a w i o e:=by
 rw[ho]at hc hlit;simp[Op.operands]at hlit;have h1:=Zm h 0 hlit.1;have h2:=Zm h 0 hlit.2;simp only[Zf]at hc;split at hc;rotate_left;simp at hc;rename_i te k1 n1 k2 n2 hel hn1 hn2;rw[hn1]at h1;rw[hn2]at h2;obtain⟨e1,_,_⟩:=ZbX h1;obtain⟨e2,_,_⟩:=ZbX h2;split at hc
 ·exact ZgQ h hi ht hE ho e1 e2 hel hc hcond
 cases hc;obtain⟨g0,g1,g2,g3⟩:=of_decide_eq_true (hcond _ ZnE);unfold Env.elem at hel;split at hel;rotate_left;simp at hel;rename_i el sz by_ ze hty;have hu:=hE.slice hty rfl;obtain⟨z,hz,hzs,hzr⟩:=Zbs (w:=w) (S:=S) hE hel;obtain⟨ii,ds,z',hti⟩:=hE.is hel;have hzz:z'=z:=by have h1:=hz w;rw[Z0 hti.info hti.zero w]at h1;simp_all
 subst hzz;unfold ZD at g2 g3;have hr:=run_make (P:=C.E.prog) w t el ii z' hu hti.info hti.zero k1 k2 n1 n2 g0 g1 (by rw[hti.bytes,Int.mul_comm];omega) (by omega);rw[hti.size]at hr;have hcs:(madeCells z'.cells (n2.toNat*te.size)).size=n2.toNat*te.size:=size_madeCells _ _;have hcell:∀j,j < n2.toNat*te.size->(madeCells z'.cells (n2.toNat*te.size))[j]? =some (z'.cells[j % te.size]!):=fun j hj=>by grind[madeCells]
 generalize hcc:madeCells z'.cells (n2.toNat*te.size)=cells at hr hcs hcell;refine Zv.arr h hi ht (cells:=cells) (t:=el) (sz:=te.size) (len:=n1.toNat) (cap:=n2.toNat) (es:=ZnG n1.toNat te.zeroP) (evs:=fun _=>z') (w':=w.alloc (.cells cells el)) rfl ⟨rfl,rfl⟩ (by simp) ?_
  (by simp) (by omega) (by grind[Z9,Zr]) hcs (fun _ _=>hzs) ?_ (fs:=[]) (by simp) ?_ rfl
 ·grind[execOp,Sem.run_bind,Result.andThen_ok,Sem.run_pure]
 ·intro j k v hj hv;have hk:k < te.size:=by grind
  have hlt:j*te.size+k < n2.toNat*te.size:=by have:(j+1)*te.size<=n2.toNat*te.size:=ZnK _ (by omega);grind
  grind[Nat.mul_comm,Nat.mul_add_mod,Nat.mod_eq_of_lt]
 ·intro S' hS _ j x hx;rw[List.getElem?_replicate]at hx;split at hx;rotate_left;simp at hx;cases hx;exact hzr.mono (fun _ _ _=>rfl) hS
end
end
end Eng
namespace Eng
open Go
section
variable {C:Ctx} {X:Nat->Prop} {ρ:Id->Option Lay} {S:Nat->Prop} {st:St} {a:Act} {w:World} {i:Nat} {o:Oper} {e:Eff}
theorem ZhR {evs:Nat->Value} {es:List P} (c:es.all P.isU8=true) (b:∀(j:Nat) x,es[j]? =some x->RelP w S (evs j) x):
  ∃xs:List Int,xs.length=es.length/\(∀j,j < es.length->evs j= .int .u8 (xs.getD j 0))/\strOfNums xs=⟨(es.map P.byte).toArray⟩:=by
 let f:P->Int:=fun | .int _ n=>n |_=>0
 have key:∀x∈es,x= .int .u8 (f x):=by intro x d;have:=List.all_eq_true.1 c x d;cases x<;>simp[P.isU8]at this;grind
 refine⟨es.map f,by simp,fun j e=> ?_, ?_⟩
 ·have a:=b j es[j] (by grind);rw[key es[j] (List.getElem_mem _)]at a;rw[a.int_inv.1];grind
 grind[P.byte,List.map_congr_left,strOfNums]
section
variable (h:Rep C X ρ S st a.tmps w) (hi:¬X i) (ht:∀d,o.dst=some d->d < C.E.nt) (hlit:o.op.operands.all ZE=true) (hE:Zl C.E)
include h hi ht hlit hE
theorem ZgT {s t:TypeId} {x:Operand} (Y:o.op= .convert s t x) (r:Zf C.E st.ep i o.op o.type st.slots st.objs=some e) (z:∀q∈e.cond,q=true):Zv C X st a w i o e:=by
 rw[Y]at r hlit;simp[Op.operands]at hlit;have G:=Zm h 0 hlit;simp only[Zf,ZaD]at r;split at r
 ·
  rename_i k V ah n J m B;rw[B]at G;obtain⟨S,_,_⟩:=ZbX G;cases r;obtain⟨d,E,U⟩:=hE.und J;obtain⟨D,g,y⟩:=hE.und m;have T:D= .int V:=by cases D<;>simp[Zat]at y;grind
  subst T;refine Zv.quiet h hi ht (v:= .int V (V.wrap n)) ?_ rfl rfl rfl (.p _ _ (.int _ _ (Za9 _ _).1 (Za9 _ _).2));cases d<;>simp[execOp,Y,S,convert,Za E,Za g,Conv.intToInt]<;>rfl
 ·
  rename_i c J m B;rw[B]at G;obtain⟨S,T⟩:=G.of_p.str_inv;cases r;obtain⟨d,E,U⟩:=hE.und J;obtain⟨D,g,y⟩:=hE.und m;have R:d= .string:=by grind[Zat]
  have N:D= .string:=by grind[Zat]
  subst R N;exact Zv.quiet h hi ht (v:= .string ⟨c.toArray⟩) (by simp[execOp,Y,S,convert,Za E,Za g]) rfl rfl rfl (.p _ _ (.str _ T))
 ·
  rename_i f c J m B;split at r;rotate_left;simp at r;rename_i H;rw[B]at G;obtain⟨S,T⟩:=G.of_p.str_inv;simp only[ZnO]at r;obtain⟨d,E,U⟩:=hE.und J;obtain⟨D,g,y⟩:=hE.und m;obtain⟨A,l,u⟩:=hE.und H;have R:d= .string:=by grind[Zat]
  have N:D= .slice f:=by cases D<;>simp[Zat]at y;grind
  have e5:A= .int .u8:=by cases A<;>simp[Zat]at u;simp_all
  subst R N e5;have Z:=run_bytes_of_string (P:=C.E.prog) w s t f ⟨c.toArray⟩ E g l;have F:=grownCap_ge w (ByteArray.size ⟨c.toArray⟩) 0 f;have ab:ByteArray.size ⟨c.toArray⟩=c.length:=Zba c;rw[ab]at Z F;have O:(bytesRow ⟨c.toArray⟩ (grownCap w c.length 0 f)).size=grownCap w c.length 0 f:=by grind[bytesRow]
  by_cases hbig:c.length<=Z9
  ·refine Zv.arr h hi ht (cells:=bytesRow ⟨c.toArray⟩ (grownCap w c.length 0 f)) (t:=f) (fr:=((bytesRow ⟨c.toArray⟩ (grownCap w c.length 0 f)).size,(bytesRow ⟨c.toArray⟩ (grownCap w c.length 0 f)).size+1)) (w':=w.drew.alloc (.cells (bytesRow ⟨c.toArray⟩ (grownCap w c.length 0 f)) f ((bytesRow ⟨c.toArray⟩ (grownCap w c.length 0 f)).size,(bytesRow ⟨c.toArray⟩ (grownCap w c.length 0 f)).size+1))) (sz:=1) (len:=c.length) (cap:=grownCap w c.length 0 f) (es:=ZaR c)
    (evs:=fun j=> .int .u8 (c.getD j 0).toNat) rfl ⟨rfl,rfl⟩ (fun j M=>by omega) (by grind[execOp,Sem.run_bind,Result.andThen_ok,Sem.run_pure])
    (by simp[ZaR]) F ⟨hbig,grownCap_le_maxLen w c.length 0 f (by grind[Z9,maxLen])⟩ (by omega) (fun _ _=>rfl) ?_ (fs:=[]) (by simp) ?_ r.symm
   ·grind[Value.cells,bytesRow]
   ·intro S' _ _ j x B;have M:j < c.length:=by grind[ZaR]
    simp[ZaR,M]at B;subst B;have:(c.getD j 0)=c[j]:=by grind
    rw[this];have hb:=c[j].toNat_lt;refine .int .u8 _ ?_ ?_<;>simp[IntKind.min,IntKind.max,IntKind.signed,IntKind.bits]<;>omega
  ·exact absurd (of_decide_eq_true (z _ (by rw[<-r];exact ZnE))) hbig
 ·
  rename_i _ f J m;split at r;rotate_left;simp at r;rename_i sz es H B;simp only[ZnO]at r;have W:es.all P.isU8=true:=z _ (by grind);obtain⟨d,E,U⟩:=hE.und J;obtain⟨D,g,y⟩:=hE.und m;obtain⟨A,l,u⟩:=hE.und H;have R:d= .slice f:=by cases d<;>simp[Zat]at U;grind
  have N:D= .string:=by grind[Zat]
  have e5:A= .int .u8:=by cases A<;>simp[Zat]at u;simp_all
  subst R N e5;have hp:=Zaf (S':=fun _=>True) h.objs (fun _ _=>trivial) 1 _ _ _ G B (fun _ _ _ _ _ _=>trivial);subst r;generalize hv:a.eval x=v at hp;cases hp with
  |sl ad len cap sz es evs hl hm aj O p Z=>
   obtain⟨xs,ag,ac,ae⟩:=ZhR W Z;refine Zv.quiet h hi ht (v:= .string ⟨(es.map P.byte).toArray⟩) ?_ rfl rfl rfl (.p _ _ (.str _ (by grind[Z9,Zr])));have af:(convert s t (.slice ad len cap)).run C.E.prog w= .ok (.string ⟨(es.map P.byte).toArray⟩) w:=by
    cases ad with
    |none=>
     have h0:len=0:=by
      cases len with
      |zero=>rfl
      |succ n=>obtain⟨b,o',hb,_⟩:=p 0 (by omega);simp_all
     subst h0;have I:es=[]:=List.eq_nil_of_length_eq_zero hl;subst I;rw[run_convert_bytes_nil w s f E l 0 cap t g];rfl
    |some ad=>
     by_cases h0:len=0
     ·subst h0;have I:es=[]:=List.eq_nil_of_length_eq_zero hl;subst I;rw[run_convert_bytes_string w s t f (some ad) 0 cap E l g,run_bytesToString w ad 0 cap [] (by simpa using run_loadCells_list (P:=C.E.prog) w ad [] (by simp))];rfl
     ·obtain⟨b,o',hb,_⟩:=p 0 (by omega);cases hb;rw[run_convert_bytes_arg w s f E l b o' len cap xs (by omega) (fun j M=>by obtain⟨b',ai,K,_,aa⟩:=p j M;simp only[ZnO,Addr.mk.injEq]at K;obtain⟨rfl,rfl,_⟩:=K;have Q:=ac j (by omega);have L:=O j M;rw[Q]at L;simp[Value.cells]at L;have:=aa 0 (.int .u8 (xs.getD j 0)) (by rw[Q];rfl);grind) t g,ae]
   grind[execOp,Sem.run_bind,Result.andThen_ok,Sem.run_pure]
 simp_all
end
end
end Eng
namespace Eng
open Go
theorem Ziq (a:Nat):∀(l:List Value) (k:Nat) (cs:Array Value),
  ((l.zipIdx k).foldl (fun cs (c,j)=>cs.setIfInBounds (a+j) c) cs).size=cs.size/\
  ∀m,((l.zipIdx k).foldl (fun cs (c,j)=>cs.setIfInBounds (a+j) c) cs)[m]? =if a+k<=m/\m < a+k+l.length/\m < cs.size then l[m - (a+k)]? else cs[m]?
 | [],k,cs=>⟨rfl,fun m=>by simp;omega⟩
 |x::l,k,cs=>by
  obtain⟨b,d⟩:=Ziq a l (k+1) (cs.setIfInBounds (a+k) x);grind[List.zipIdx_cons]
theorem Zeb (a:Nat) (v cs:Array Value):
  (v.zipIdx.foldl (fun cs (c,j)=>cs.setIfInBounds (a+j) c) cs).size=cs.size/\
  ∀m,(v.zipIdx.foldl (fun cs (c,j)=>cs.setIfInBounds (a+j) c) cs)[m]? =if a<=m/\m < a+v.size/\m < cs.size then v[m - a]? else cs[m]? :=by
 have:=Ziq a v.toList 0 cs;grind[Array.toList_zipIdx]
theorem ZbN {a:Type} (xs:List a) (j:Nat) (b:List a) (h:j+b.length<=xs.length):(ZT xs j b).length=xs.length:=by grind[ZT]
theorem ZbO {b:Type} (xs:List b) (j:Nat) (a:List b) (h:j+a.length<=xs.length) (m:Nat):
  (ZT xs j a)[m]? =if j<=m/\m < j+a.length then a[m - j]? else xs[m]? :=by
 unfold ZT;have c:(xs.take j).length=j:=by simp;omega
 by_cases h1:m < j
 ·rw[if_neg (by omega),List.append_assoc,List.getElem?_append_left (by omega),ZnC,if_pos h1]
 ·by_cases h2:m < j+a.length
  ·rw[if_pos (by omega),List.append_assoc,List.getElem?_append_right (by omega),c,List.getElem?_append_left (by omega)]
  ·rw[if_neg (by omega),List.getElem?_append_right (by simp;omega),Znz];congr 1;simp;omega
theorem ZaY {lk:Id->Option Obj}:∀(n:Nat) (d:D) (x:P),d.toP lk n=some x->∀id,id∈d.ids lk n->∃o,lk id=some o/\o≠ .gone:=by
 have base:∀(n:Nat) (d:D) (x:P),(∀cs,d≠ .agg cs)->(∀id i j,d≠ .ptr id i j)->(∀f a b,d≠ .fn f a b)->d.toP lk n=some x->∀id,id∈d.ids lk n->∃o,lk id=some o/\o≠ .gone:=by
  intro n d x C E z g id hi;cases d with
  |sl q B len=>
   simp only[ids_sl,ZnF]at hi;subst hi;rw[Zbm]at g;split at g;rotate_left;simp at g;rename_i sz es fix h;exact⟨_,h,by simp⟩
  |map q=>
   simp only[ZmO,ZnF]at hi;subst hi;rw[Zbu]at g;split at g;rotate_left;simp at g;rename_i h;exact⟨_,h,by simp⟩
  |agg cs=>exact absurd rfl (C cs)
  |ptr id i j=>exact absurd rfl (E id i j)
  |fn f a b=>exact absurd rfl (z f a b)
  |it id=>cases n<;>simp[D.toP]at g
  |tup vs=>cases n<;>simp[D.toP]at g
  |rp y q=>cases n<;>simp[D.toP]at g
  |_=>cases n<;>simp[D.ids]at hi
 intro n
 induction n with
 |zero=>
  intro d x g;refine base 0 d x ?_ ?_ ?_ g
  all_goals (intros;intro s;subst s;simp[D.toP]at g)
 |succ n v=>
  have l:∀(cs:List D) p,Zj (D.toP lk n) cs=some p->∀id,id∈cs.flatMap (D.ids lk n)->∃o,lk id=some o/\o≠ .gone:=by intro cs p m id e;obtain⟨w,hi⟩:=Zh m;obtain⟨c,s,e⟩:=Zob.1 e;obtain⟨k,u,rfl⟩:=List.mem_iff_getElem.1 s;exact v _ _ (hi k cs[k] p[k] (by simp[u]) (by simp[w,u])) id e
  intro d x g id e;cases d with
  |agg cs=>
   simp only[D.toP,ZnM]at g;obtain⟨p,m,rfl⟩:=g;exact l cs p m id (by simpa[D.ids]using e)
  |ptr q i j=>
   simp only[D.toP]at g;simp only[D.ids,ZnD]at e;split at g
   ·rename_i cs h;rcases e with rfl |e
    ·exact⟨_,h,by simp⟩
    ·rw[h]at e;split at g;rotate_left;simp at g;simp only[ZnM]at g;obtain⟨p,m,rfl⟩:=g;exact l _ p m id e
   ·rename_i sz es fix h;rcases e with rfl |e
    ·exact⟨_,h,by simp⟩
    ·rw[h]at e;simp at e
   ·simp at g
  |fn f a b=>
   simp only[D.toP]at g;simp only[D.ids,Zn7]at e;split at g;rotate_left;simp at g;rename_i pa A r t;rcases e with e |e
   ·exact l a pa r id e
   ·exact l b A t id e
  |_=>exact base (n+1) _ x (by simp) (by simp) (by simp) g id e
section
variable {C:Ctx} {X:Nat->Prop} {ρ:Id->Option Lay} {S:Nat->Prop} {st:St} {a:Act} {w:World} {i:Nat} {o:Oper} {e:Eff}
theorem Zgw {us:Array Value} {cs:List D} (f:us.size=cs.length) (h:∀(j:Nat) u d,us[j]? =some u->cs[j]? =some d->RelD w S ρ u d/\Zbp u):RelD w S ρ (.agg us) (.mkAgg cs):=by
 unfold D.mkAgg;split
 ·rename_i g i;have:=Zx i;subst this;refine .p _ _ (.agg us g (by simpa using f) (fun j v a=> ?_) (fun j v c a e=> ?_))
  ·have b:j < (g.map D.p).length:=by have:=(Znq.1 a).1;omega
   exact(h j v _ a (List.getElem?_eq_getElem b)).2
  ·exact(h j v (.p c) a (by simp[e])).1.of_p
 ·refine .agg us cs f (fun j v a=> ?_) (fun j v c a e=>(h j v c a e).1);have b:j < cs.length:=by have:=(Znq.1 a).1;omega
  exact(h j v _ a (List.getElem?_eq_getElem b)).2
section
variable (h:Rep C X ρ S st a.tmps w) (hi:¬X i) (ht:∀d,o.dst=some d->d < C.E.nt) (hlit:o.op.operands.all ZE=true) (hE:Zl C.E)
include h
theorem Ze8 {ti:TI} {place:Nat->Option (Nat×Nat)} (hp:∀i off t tp,ti.part C.E i=some (off,t)->C.E.ty t=some tp->place i=some (off,tp.size)):
  ∀(parts:List (Nat×Operand)),(∀p∈parts,ZE p.2=true)->∀(us:Array Value) (cs cs':List D),us.size=cs.length->(∀(j:Nat) u d,us[j]? =some u->cs[j]? =some d->RelD w S ρ u d/\Zbp u)->
   Zb4 C.E st.slots ti parts cs=some cs'->
   ∃us',Instr.fill place us (parts.map fun p=>(p.1,a.eval p.2))=some us'/\us'.size=cs'.length/\∀(j:Nat) u d,us'[j]? =some u->cs'[j]? =some d->RelD w S ρ u d/\Zbp u:=by
 intro parts
 induction parts with
 |nil=>intro _ us cs cs' hl hr hf;simp only[Zb4,ZnO]at hf;subst hf;exact⟨us,rfl,hl,hr⟩
 |cons p parts ih=>
  intro hlp us cs cs' hl hr hf;obtain⟨k,x⟩:=p;simp only[Zb4]at hf;split at hf;rotate_left;simp at hf;rename_i off t hpt;split at hf;rotate_left;simp at hf;rename_i tp hty;split at hf;rotate_left;simp at hf;rename_i hsz;obtain⟨h1,h2,h3⟩:=hsz;have hx:=Zm h t (x:=x) (hlp (k,x) (by simp));obtain⟨hc1,hc2⟩:=Zem hx h3;obtain⟨g1,g2⟩:=Zeb off (a.eval x).cells us;obtain⟨us',e1,e2,e3⟩:=ih (fun p hp=>hlp p (by grind)) ((a.eval x).cells.zipIdx.foldl (fun cs (c,j)=>cs.setIfInBounds (off+j) c) us) _ cs' (by grind[ZbN]) (by
   intro j u d hu hd;rw[g2]at hu;grind[ZbO]) hf
  grind[Instr.fill]
include hi ht hE hlit
theorem Zjg {t:TypeId} {c:Array (Nat×Operand)} (Z:o.op= .build t c) (E:Zf C.E st.ep i o.op o.type st.slots st.objs=some e):Zv C X st a w i o e:=by
 rw[Z]at E;have V:∀p∈c.toList,ZE p.2=true:=by intro p F;rw[Z]at hlit;simp only[Op.operands,Array.all_eq_true_iff_forall_mem]at hlit;exact hlit p.2 (by simp;exact⟨p.1,by simpa using F⟩)
 simp only[Zf]at E;split at E;rotate_left;simp at E;rename_i ti W;split at E;rotate_left;simp at E;rename_i aa;split at E;rotate_left;simp at E;rename_i cs N;simp only[ZnO]at E;obtain⟨ii,ds,z,g⟩:=hE.is W;obtain⟨z',hz,T,ag,G⟩:=Zf5 (ρ:=ρ) (S:=S) (w:=w) hE W;have ab:z'=z:=by have h1:=hz w;rw[Z0 g.info g.zero w]at h1;simpa using h1.symm
 subst ab;have af:∃r,C.E.prog.built t (c.map fun p=>(p.1,a.eval p.2)).toList=some r/\r.size=cs.length/\∀(j:Nat) u d,r[j]? =some u->cs[j]? =some d->RelD w S ρ u d/\Zbp u:=by
  cases M:ti.d with
  |struct fs=>
   have x:=g.td;have y:=g.eq;rw[M]at x y;cases ds<;>simp[Zat]at x;rename_i gs;simp only[Znu,List.all_eq_true]at y;have D:∃b,gs.toList.mapM (fun f=>(C.E.prog.info? f.type).map fun i=>(f.offset,i.size))=some b/\
     ∀(k:Nat) m A B,fs[k]? =some (m,A)->C.E.ty A=some B->b.toArray[k]? =some (m,B.size):=by
    have ac:∀(l:List Field),(∀f∈l,(C.E.prog.info? f.type).isSome=true)->∃b,l.mapM (fun f=>(C.E.prog.info? f.type).map fun i=>(f.offset,i.size))=some b/\
      ∀(k:Nat) m A B,(l.map fun f=>(f.offset,f.type))[k]? =some (m,A)->C.E.ty A=some B->b.toArray[k]? =some (m,B.size):=by
     intro l
     induction l with
     |nil=>intro _;exact⟨[],rfl,by simp⟩
     |cons f l ih=>
      intro H;obtain⟨p1,q1,R⟩:=ih fun f hf=>H f (by simp[hf])
      obtain⟨ae,J⟩:=Option.isSome_iff_exists.1 (H f (by simp));refine⟨(f.offset,ae.size)::p1,by simp[List.mapM_cons,J,q1],fun k m A B L s=> ?_⟩;cases k with
      |zero=>
       simp only[Zn6,Zny,ZnO,ZnP]at L;obtain⟨rfl,rfl⟩:=L;obtain⟨O,q,K,_⟩:=hE.info s;rw[J]at q;obtain rfl:=ZnN q;simp[K]
      |succ k=>
       simp only[Zn6,List.getElem?_cons_succ]at L;have:=R k m A B L s;simpa using this
    obtain⟨p1,q1,R⟩:=ac gs.toList (fun f hf=>by have:=y.2 (f.offset,f.type) (by rw[<-x.1];exact List.mem_map.2 ⟨f,hf,rfl⟩);simpa using this)
    exact⟨p1,q1,fun k m A B L s=>R k m A B (by rw[x.1];exact L) s⟩
   obtain⟨b,q1,R⟩:=D;obtain⟨r,Q,U,Y⟩:=Ze8 h (ti:=ti) (place:=(b.toArray[·]?)) (fun k m A B F s=>by simp only[TI.part,M]at F;exact R k m A B F s) c.toList V z'.cells _ cs (by simpa using T) G N
   refine⟨r, ?_,U,Y⟩;simp only[Program.built,g.info,g.und,g.zero,q1];simpa using Q
  |arr n el=>
   have x:=g.td;rw[M]at x;cases ds<;>simp[Zat]at x;obtain⟨rfl,rfl⟩:=x;rename_i n el;have y:=g.eq;rw[M]at y;cases hte:C.E.prog.info? el with
   |none=>simp[hte]at y
   |some ie=>
    obtain⟨r,Q,U,Y⟩:=Ze8 h (ti:=ti) (place:=fun k=>some (k*ie.size,ie.size)) (fun k m A B F s=>by
     simp only[TI.part,M]at F;split at F
     ·rename_i te I;simp only[ZnO,ZnP]at F;obtain⟨rfl,rfl⟩:=F;rw[I]at s;obtain rfl:=ZnN s;obtain⟨O,q,K,_⟩:=hE.info I;rw[hte]at q;obtain rfl:=ZnN q;rw[K]
     ·simp at F) c.toList V z'.cells _ cs (by simpa using T) G N
    refine⟨r, ?_,U,Y⟩;simp only[Program.built,g.info,g.und,g.zero,hte];simpa using Q
  |_=>simp[TI.isAgg,M]at aa
 obtain⟨r,Q,U,Y⟩:=af;subst E;refine Zv.quiet h hi ht (v:= .agg r) ?_ rfl rfl rfl (Zgw U Y);have:=run_build (P:=C.E.prog) w t (c.map fun p=>(p.1,a.eval p.2)) r Q;simp only[execOp,Z,Sem.run_bind,this,Result.andThen_ok,Sem.run_pure]
def Zjy (w:World) (S:Nat->Prop) (sz:Nat) (us:Array Value) (es:List P):Prop:=
 us.size=es.length*sz/\∃evs:Nat->Value,(∀j,j < es.length->(evs j).cells.size=sz/\∀(k:Nat) v,(evs j).cells[k]? =some v->us[j*sz+k]? =some v)/\∀(j:Nat) x,es[j]? =some x->RelP w S (evs j) x
omit h hi ht hlit hE in
theorem Zjy.set {sz:Nat} {us:Array Value} {es:List P} (hr:Zjy w S sz us es) {k:Nat} {v:Value} {y:P} (hk:k < es.length) (hv:v.cells.size=sz) (hy:RelP w S v y):
  Zjy w S sz (v.cells.zipIdx.foldl (fun cs (c,j)=>cs.setIfInBounds (k*sz+j) c) us) (es.set k y):=by
 obtain⟨h1,evs,h2,h3⟩:=hr
 obtain⟨g1,g2⟩:=Zeb (k*sz) v.cells us
 have hks:(k+1)*sz<=es.length*sz:=Nat.mul_le_mul_right _ hk
 rw[Nat.add_mul,Nat.one_mul]at hks
 refine⟨by rw[g1,h1];simp,fun j=>if j=k then v else evs j,fun j hj=> ?_,fun j x hx=> ?_⟩
 ·simp only[List.length_set]at hj
  by_cases hjk:j=k
  ·subst hjk
   simp only[if_true]
   refine⟨hv,fun m u hu=> ?_⟩
   have hm:m < sz:=by have:=(Array.getElem?_eq_some_iff.1 hu).1;omega
   rw[g2,if_pos (by omega),show j*sz+m - j*sz=m by omega]
   exact hu
  ·simp only[hjk,if_false]
   refine⟨(h2 j hj).1,fun m u hu=> ?_⟩
   have hm:m < sz:=by have:=(Array.getElem?_eq_some_iff.1 hu).1;have:=(h2 j hj).1;omega
   rw[g2,if_neg]
   ·exact(h2 j hj).2 m u hu
   ·rintro⟨q1,q2,_⟩
    rcases Nat.lt_or_gt_of_ne hjk with hlt |hgt
    ·have:(j+1)*sz<=k*sz:=Nat.mul_le_mul_right _ hlt
     rw[Nat.add_mul,Nat.one_mul]at this;omega
    ·have:(k+1)*sz<=j*sz:=Nat.mul_le_mul_right _ hgt
     rw[Nat.add_mul,Nat.one_mul]at this;omega
 ·by_cases hjk:j=k
  ·subst hjk
   rw[List.getElem?_set_self hk]at hx
   cases hx
   simpa using hy
  ·rw[List.getElem?_set_ne (Ne.symm hjk)]at hx
   simpa[hjk]using h3 j x hx
omit hi ht hlit hE in
theorem ZfP {t:Nat} {te:TI} {S':Nat->Prop} (hS:∀b,S b->S' b):
  ∀(parts:List (Nat×Operand)),(∀p∈parts,ZE p.2=true)->(∀id,id∈Zc4 C.E st.slots st.objs t parts->∀L b,ρ id=some L->L.blk=some b->S' b)->∀(us:Array Value) (es es':List P),Zjy w S' te.size us es->
   ZH C.E st.slots st.objs t te parts es=some es'->
   ∃us',Instr.fill (fun i=>some (i*te.size,te.size)) us (parts.map fun p=>(p.1,a.eval p.2))=some us'/\Zjy w S' te.size us' es':=by
 intro parts
 induction parts with
 |nil=>intro _ _ us es es' hr hf;simp only[ZH,Option.some.injEq]at hf;subst hf;exact⟨us,rfl,hr⟩
 |cons p parts ih=>
  intro hlp hids us es es' hr hf
  obtain⟨k,x⟩:=p
  simp only[ZH]at hf
  split at hf
  rotate_left
  simp at hf
  rename_i y hy
  split at hf
  rotate_left
  simp at hf
  rename_i hsz
  obtain⟨h1,h2⟩:=hsz
  have hx:=Zm h t (x:=x) (hlp (k,x) (by simp))
  have hp:=Zaf (S':=S') h.objs hS depth _ _ _ hx hy (fun id hid=>hids id (by
   simp only[Zc4,List.flatMap_cons,List.mem_append];exact .inl hid))
  have hsv:(a.eval x).cells.size=te.size:=by rw[hp.size];exact h1
  obtain⟨us',e1,e2⟩:=ih (fun p hp=>hlp p (by simp[hp])) (fun id hid=>hids id (by
   simp only[Zc4,List.flatMap_cons,List.mem_append];exact .inr hid)) _ _ es' (hr.set h2 hsv hp) hf
  refine⟨us', ?_,e2⟩
  simp only[List.map_cons,Instr.fill]
  have hks:(k+1)*te.size<=es.length*te.size:=Nat.mul_le_mul_right _ h2
  rw[Nat.add_mul,Nat.one_mul]at hks
  rw[if_neg (by simp[hr.1];omega)]
  exact e1
theorem Zej {t:TypeId} {n:Nat} {c:Array (Nat×Operand)} (T:o.op= .buildSlice t n c) (m:Zf C.E st.ep i o.op o.type st.slots st.objs=some e):Zv C X st a w i o e:=by
 rw[T]at m;have Z:∀p∈c.toList,ZE p.2=true:=by intro p hp;rw[T]at hlit;simp only[Op.operands,Array.all_eq_true_iff_forall_mem]at hlit;exact hlit p.2 (by simp;exact⟨p.1,by simpa using hp⟩)
 simp only[Zf]at m;split at m;rotate_left;simp at m;rename_i A sz ae ze aa;split at m;rotate_left;simp at m;rename_i te N;split at m;rotate_left;simp at m;rename_i es u;split at m;rotate_left;simp at m;rename_i D;obtain⟨D,af⟩:=D;simp only[ZnO]at m;have hu:=hE.slice aa rfl;obtain⟨z,hz,P,ab⟩:=Zbs (w:=w) (S:=S) hE N;have I:∀w,(Go.sizeOf A).run C.E.prog w= .ok te.size w:=ZN hE N;have H:∀(c:List (Nat×Operand)) es g,ZH C.E st.slots st.objs A te c es=some g->g.length=es.length:=by
  intro c
  induction c with
  |nil=>intro es g f;simp only[ZH,ZnO]at f;subst f;rfl
  |cons p c ih=>
   intro es g f;obtain⟨k,x⟩:=p;simp only[ZH]at f;split at f;rotate_left;simp at f;split at f;rotate_left;simp at f;rw[ih _ _ f];simp
 have K:es.length=n:=by rw[H _ _ _ u];simp
 obtain⟨s,l,M⟩:∃s:Array Value,(Array.range (n*te.size)).map (z.cells[· % z.cells.size]!)=s/\Zjy w S te.size s (ZnG n te.zeroP):=by
  refine⟨(Array.range (n*te.size)).map (z.cells[· % z.cells.size]!),rfl,by simp,fun _=>z,fun j R=>⟨P,fun k v Q=> ?_⟩,fun j x B=> ?_⟩
  ·have hk:k < te.size:=by have:k < z.cells.size:=(Znq.1 Q).1;omega
   simp only[List.length_replicate]at R;have ac:j*te.size+k < n*te.size:=by have:(j+1)*te.size<=n*te.size:=ZnK _ R;rw[ZnI]at this;omega
   have:(j*te.size+k) % te.size=k:=by rw[Nat.mul_comm,Nat.mul_add_mod];exact Nat.mod_eq_of_lt hk
   simp only[Array.getElem?_map,P];rw[Array.getElem?_range,if_pos ac];simp only[Option.map_some,this,getElem!_def,Q]
  ·rw[List.getElem?_replicate]at B;split at B;rotate_left;simp at B;cases B;exact ab
 have E:∀(c:List (Nat×Operand)) es g,ZH C.E st.slots st.objs A te c es=some g->∀id,id∈Zc4 C.E st.slots st.objs A c->∃o,st.objs id=some o/\o≠ .gone:=by
  intro c
  induction c with
  |nil=>intro _ _ _ id d;simp[Zc4]at d
  |cons p c ih=>
   intro es g f id d;obtain⟨k,x⟩:=p;simp only[ZH]at f;simp only[Zc4,List.flatMap_cons,Zn7]at d;split at f;rotate_left;simp at f;rename_i y hy;split at f;rotate_left;simp at f;rcases d with d |d
   ·exact ZaY depth _ _ hy id d
   ·exact ih _ _ f id d
 let FS:Nat->Prop:=fun b=>S b\/∃id o L,id∈Zc4 C.E st.slots st.objs A c.toList/\st.objs id=some o/\o≠ .gone/\ρ id=some L/\L.blk=some b
 obtain⟨us,q,J,evs,O,G⟩:=ZfP (a:=a) h (t:=A) (te:=te) (S':=FS) (fun b r=> .inl r) c.toList Z (fun id d L b V r=>by
  obtain⟨o',W,Y⟩:=E _ _ _ u id d;exact .inr ⟨id,o',L,d,W,Y,V,r⟩) s _ es (⟨M.1,by obtain⟨evs,q1,U⟩:=M.2;exact⟨evs,q1,fun j x B=>(U j x B).mono (fun _ _ _=>rfl) fun b r=> .inl r⟩⟩) u
 refine Zv.arr h hi ht (cells:=us) (t:=A) (sz:=te.size) (len:=n) (cap:=n) (es:=es) (evs:=evs) (w':=w.alloc (.cells us A)) rfl ⟨rfl,rfl⟩ (by simp) ?_ K (ZnJ _) ?_ (by rw[J,K]) (fun j R=>(O j (by omega)).1)
  (fun j k v R Q=>(O j (by omega)).2 k v Q) (fs:=Zc4 C.E st.slots st.objs A c.toList) (fun id d=> ?_) (fun S' hS hF j x B=> ?_) m.symm
 ·have F:¬(n*te.size > 2 ^ 24):=by omega
  simp only[execOp,T,Instr.buildSlice,Sem.run_bind,Za hu,Result.andThen_ok,I,F,if_false,Sem.run_pure]
  by_cases h0:n*te.size=0
  ·rw[h0]at l;simp only[Array.range_zero',Array.map_empty]at l;subst l;simp[h0,Array.range_zero',q,newRow]
  ·simp only[h0,if_false];simp[hz,l,q,newRow]
 ·unfold Z9 Zr;omega
 ·obtain⟨o',W,Y⟩:=E _ _ _ u id d;obtain⟨L,V,_⟩:=h.objs id o' W Y;simp[V]
 ·refine(G j x B).mono (fun _ _ _=>rfl) fun b r=> ?_
  rcases r with r |⟨id,o',L,q1,U,q3,q4,q5⟩
  ·exact hS b r
  ·exact hF id q1 o' L b U q3 q4 q5
end
end
end Eng
