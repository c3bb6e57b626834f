/- The engine, text 1: an abstract evaluator of Go code over pure data, proved sound. -/
import Derived.Orders
import Derived.Laws.Sem
import Derived.Laws.World
import Derived.Laws.Cells
import Derived.Laws.IdiomCopy
import Derived.Laws.Entries
import Derived.Laws.Slices
import Derived.Laws.StructEq
import Derived.Lib.Strings
import Derived.Laws.MakeOwn
import Derived.Laws.IdiomStrings
import Derived.Laws.BytesArg
import Derived.Laws.Tables
set_option linter.all false
open Array renaming getElem?_eq_some_iff->Zmy, getElem?_extract->Zmz, mem_iff_getElem->ZmA, mem_toList_iff->ZmB
open Bool renaming and_eq_true->ZmC, false_eq_true->ZmD
open Int renaming eq_ofNat_of_zero_le->ZmE, toNat_natCast->ZmF
open List renaming getElem?_drop->ZmG, getElem?_eq_getElem->ZmH, getElem?_eq_some_iff->ZmI, getElem?_map->ZmJ, getElem?_take->ZmK, map_cons->ZmL, mem_append->ZmM, mem_cons->ZmN, mem_cons_self->ZmO, mem_flatMap->ZmP, mem_singleton->ZmQ
open Nat renaming add_assoc->ZmR, add_mul->ZmS, le_refl->ZmT, mul_le_mul_right->ZmU, one_mul->ZmV
open Option renaming getD_some->ZmW, map_eq_some_iff->ZmX, some.inj->ZmY, some.injEq->ZmZ
open Prod renaming mk.injEq->Zm0
namespace Eng
open Go
inductive TD where
 |bool |int (k:IntKind) |str
 |sl (e:Nat) |arr (n e:Nat) |ptr (e:Nat) |map (k e:Nat)
 |struct (fs:List (Nat×Nat))
 |func |tup |other
 deriving Inhabited
inductive P where
 |bool (b:Bool)
 |int (k:IntKind) (n:Int)
 |str (s:List UInt8)
 |agg (cs:List P)
 |sl (sz:Nat) (es:List P)
 |nilp
 |ptr (cs:List P)
 |map (td:TD) (kv:List (P×P))
 |fn (f:Nat) (first caps:List P)
 |nilfn
 deriving Inhabited
def P.cells:P->List P
 | .agg cs=>cs
 |x=>[x]
abbrev Id:=Nat×Nat×Nat
inductive D where
 |p (x:P)
 |dead
 |undef
 |anyb
 |nils (sz:Nat)
 |clip (sz:Nat) (es:List P)
 |agg (cs:List D)
 |tup (vs:List D)
 |sl (id:Id) (off len:Nat)
 |ptr (id:Id) (i j:Nat)
 |map (id:Id)
 |it (id:Id)
 |fn (f:Nat) (first caps:List D)
 |val (v:Value)
 deriving Inhabited
def D.cells:D->List D
 | .agg cs=>cs
 | .p (.agg cs)=>cs.map .p
 |d=>[d]
def D.okv:D->Bool
 | .dead | .undef | .tup _ | .val _=>false
 |_=>true
inductive Obj where
 |box (cs:List D)
 |arr (sz:Nat) (es:List P) (fix:Bool)
 |map (td:TD) (kv:List (P×P))
 |sit (s:List UInt8) (pos:Nat)
 |mit (rest:List (P×P)) (cur:Option (P×P))
 |gone
 deriving Inhabited
structure St where
 slots:Nat->D
 objs:Id->Option Obj
 fz:Id->Bool
 ep:Nat
def upd {c β:Type} [DecidableEq c] (f:c->β) (a:c) (b:β):c->β:=fun x=>if x=a then b else f x
def St.set (a:St) (t:Nat) (d:D):St:={a with slots:=upd a.slots t d}
def St.setO (a:St):Option Nat->D->St
 |some t,d=>a.set t d
 |none,_=>a
def St.obj (a:St) (id:Id) (o:Obj):St:={a with objs:=upd a.objs id (some o)}
def St.freeze (a:St) (id:Id):St:={a with fz:=upd a.fz id true}
def St.objL (a:St):List (Id×Obj)->St
 | []=>a
 |(id,o)::r=>(a.obj id o).objL r
def St.freezeL (a:St):List Id->St
 | []=>a
 |id::r=>(a.freeze id).freezeL r
def St.next (a:St):St:={a with ep:=a.ep+1}
inductive Z where
 |p (x:P)
 |nils (sz:Nat)
 deriving Inhabited
def Z.toD:Z->D
 | .p x=> .p x
 | .nils sz=> .nils sz
def Z.toP:Z->P
 | .p x=>x
 | .nils sz=> .sl sz []
structure TI where
 d:TD
 size:Nat
 bytes:Nat
 zero:List Z
 deriving Inhabited
def TI.isAgg (i:TI):Bool:=match i.d with | .struct _ | .arr _ _=>true |_=>false
structure Env where
 prog:Program
 tys:List (Option TI)
 globs:List (Nat×List P)
 nt:Nat
def Env.ty (E:Env) (t:Nat):Option TI:=match E.tys[t]? with |some (some i)=>some i |_=>none
def Env.td (E:Env) (t:Nat):Option TD:=match E.ty t with |some i=>some i.d |none=>none
def Env.elem (E:Env) (t:Nat):Option TI:=
 match E.ty t with
 |some {d:= .sl e, .. }=>E.ty e
 |_=>none
def Env.elemSize (E:Env) (t:Nat):Nat:=match E.elem t with |some te=>te.size |none=>0
def Env.keyTD (E:Env) (t:Nat):TD:=
 match E.ty t with
 |some {d:= .map k _, .. }=>(match E.td k with |some d=>d |none=> .other)
 |_=> .other
def D.ofV (sz:Nat) (td:TD):Value->D
 | .bool b=> .p (.bool b)
 | .int k n=> .p (.int k n)
 | .string s=> .p (.str s.data.toList)
 | .slice none 0 0=> .nils sz
 | .pointer none=> .p .nilp
 | .map none=> .p (.map td [])
 | .nilFunc=> .p .nilfn
 |_=> .dead
def Env.glob (E:Env) (g:Nat):D:=match E.globs.find? (·.1 == g)with |some x=> .p (.ptr x.2) |none=> .dead
def ev (E:Env) (sl:Nat->D) (t:Nat):Operand->D
 | .tmp s=>sl s
 | .const v=> .ofV (E.elemSize t) (E.keyTD t) v
 | .global g=>E.glob g
 | .func f=> .p (.fn f [] [])
def Zh {a β:Type} (f:a->Option β):List a->Option (List β)
 | []=>some []
 |x::xs=>match f x,Zh f xs with
  |some y,some ys=>some (y::ys)
  |_,_=>none
def D.pure?:D->Option P
 | .p x=>some x
 |_=>none
def D.mkAgg (cs:List D):D:=match Zh D.pure? cs with |some a=> .p (.agg a) |none=> .agg cs
def D.toP (lk:Id->Option Obj):Nat->D->Option P
 |_,.p x=>some x
 |_,.nils sz=>some (.sl sz [])
 |_,.clip sz es=>some (.sl sz es)
 |_,.sl id off len=>match lk id with
  |some (.arr sz es _)=>some (.sl sz ((es.drop off).take len))
  |_=>none
 |_,.map id=>match lk id with
  |some (.map td kv)=>some (.map td kv)
  |_=>none
 |n+1,.agg cs=>(Zh (D.toP lk n) cs).map .agg
 |n+1,.ptr id i j=>match lk id with
  |some (.box cs)=>if i=0 then (Zh (D.toP lk n) (cs.drop j)).map .ptr else none
  |some (.arr _ es _)=>some (.ptr ((es.getD i default).cells.drop j))
  |_=>none
 |n+1,.fn f first caps=>match Zh (D.toP lk n) first,Zh (D.toP lk n) caps with
  |some a,some b=>some (.fn f a b)
  |_,_=>none
 |_,_=>none
def D.ids (lk:Id->Option Obj):Nat->D->List Id
 |_,.sl id _ _=>[id]
 |_,.map id=>[id]
 |_,.it id=>[id]
 |n+1,.agg cs=>cs.flatMap (D.ids lk n)
 |n+1,.tup vs=>vs.flatMap (D.ids lk n)
 |n+1,.ptr id _ j=>id::(match lk id with
  |some (.box cs)=>(cs.drop j).flatMap (D.ids lk n)
  |_=>[])
 |n+1,.fn _ first caps=>first.flatMap (D.ids lk n)++caps.flatMap (D.ids lk n)
 |0,.ptr id _ _=>[id]
 |_,_=>[]
def depth:Nat:=8
def ZfH (c:BinOp) (k:IntKind) (x y:Int):Option Int:=
 let a:=BitVec.ofInt k.bits x
 let b:=BitVec.ofInt k.bits y
 match c with
 | .and=>some (k.wrap (a&&& b).toNat)
 | .or=>some (k.wrap (a|||b).toNat)
 | .xor=>some (k.wrap (a ^^^ b).toNat)
 | .andNot=>some (k.wrap (a&&& ~~~b).toNat)
 |_=>none
def Zay (k:IntKind) (n:Int):P×List Bool:=
 match k with
 | .i64=>(.int .i64 n,[decide (IntKind.i64.min<=n/\n<=IntKind.i64.max)])
 |k=>(.int k (k.wrap n),[])
def ZlZ (op:BinOp) (k:IntKind) (x y:Int):Option (P×List Bool):=
 match op with
 | .add=>some (Zay k (x+y))
 | .sub=>some (Zay k (x - y))
 | .mul=>some (Zay k (x*y))
 | .quo=>some ((Zay k (x.tdiv y)).1,decide (y≠0)::(Zay k (x.tdiv y)).2)
 | .rem=>some (.int k (x.tmod y),[decide (y≠0)])
 | .eql=>some (.bool (x == y),[])
 | .neq=>some (.bool (x != y),[])
 | .lss=>some (.bool (x < y),[])
 | .leq=>some (.bool (x<=y),[])
 | .gtr=>some (.bool (x > y),[])
 | .geq=>some (.bool (x>=y),[])
 |op=>match ZfH op k x y with
  |some n=>some (.int k n,[])
  |none=>none
def ZgS (a:BinOp) (k:IntKind) (x y:Int):Option (P×List Bool):=
 match a with
 | .shl=>some (.int k (k.wrap (x*2 ^ (min y.toNat k.bits))),[decide (0<=y)])
 | .shr=>some (.int k (x.fdiv (2 ^ (min y.toNat k.bits))),[decide (0<=y)])
 |_=>none
def Zq:Nat:=9223372036854775807
def Zlw (a:BinOp) (x y:List UInt8):Option (P×List Bool):=
 match a with
 | .add=>some (.str (x++y),[decide (x.length+y.length<=Zq)])
 | .eql=>some (.bool (x == y),[])
 | .neq=>some (.bool !(x == y),[])
 | .lss=>some (.bool (Op.bytesLess x y),[])
 | .leq=>some (.bool (Op.bytesLess x y||x == y),[])
 | .gtr=>some (.bool !(Op.bytesLess x y||x == y),[])
 | .geq=>some (.bool !(Op.bytesLess x y),[])
 |_=>none
def P.eqc:P->P->Option Bool
 | .bool a,.bool b=>some (a == b)
 | .int k a,.int k' b=>if k=k' then some (a == b)else none
 | .str a,.str b=>some (a == b)
 |_,_=>none
def P.eqcs:List P->List P->Option Bool
 | [],[]=>some true
 |x::xs,y::ys=>match P.eqc x y,P.eqcs xs ys with
  |some a,some b=>some (a&&b)
  |_,_=>none
 |_,_=>none
def P.eqv:P->P->Option Bool
 | .agg as,.agg bs=>P.eqcs as bs
 |x,y=>P.eqc x y
def Zmc (op:BinOp):P->P->Option (P×List Bool)
 | .int k a,.int k' b=>
  match op with
  | .shl | .shr=>ZgS op k a b
  |op=>if k=k' then ZlZ op k a b else none
 | .str a,.str b=>Zlw op a b
 |_,_=>none
def Zc3:TD->Operand->D->Option D
 | .ptr _,.const (.pointer none),d=>match d with
  | .p .nilp=>some (.p (.bool true))
  | .p (.ptr _) | .ptr _ _ _=>some (.p (.bool false))
  |_=>none
 | .func,.const .nilFunc,d=>match d with
  | .p .nilfn=>some (.p (.bool true))
  | .p (.fn _ _ _) | .fn _ _ _=>some (.p (.bool false))
  |_=>none
 | .sl _,.const (.slice none 0 0),d=>match d with
  | .nils _=>some (.p (.bool true))
  | .p (.sl _ es)=>some (if es.isEmpty then .anyb else .p (.bool false))
  | .sl _ _ len=>some (if len=0 then .anyb else .p (.bool false))
  |_=>none
 |_,_,_=>none
def Operand.isNil:Operand->Bool
 | .const (.pointer none) | .const (.slice none 0 0) | .const .nilFunc=>true
 |_=>false
def D.notb:D->Option D
 | .p (.bool b)=>some (.p (.bool !b))
 | .anyb=>some .anyb
 |_=>none
def Zj8 (c:BinOp) (a b:Bool):Option P:=
 match c with
 | .eql=>some (.bool (a == b))
 | .neq=>some (.bool !(a == b))
 |_=>none
def unop (a:UnOp):P->Option (P×List Bool)
 | .int k n=>match a with
  | .neg=>some (Zay k (0 - n))
  | .xor=>match ZfH .xor k (if k.signed then -1 else k.max) n with
   |some m=>some (.int k m,[])
   |none=>none
  |_=>none
 | .bool b=>match a with
  | .not=>some (.bool !b,[])
  |_=>none
 |_=>none
def P.key (x y:P):Bool:=(P.eqv x y).getD false
def Zbq (a:List (P×P)) (k:P):Option P:=(a.find? fun e=>P.key k e.1).map (·.2)
def Zi7 (a:List (P×P)) (k v:P):List (P×P):=
 if a.any (fun e=>P.key k e.1)then a.map fun e=>if P.key k e.1 then (e.1,v)else e else a++[(k,v)]
def Zkl (a:List (P×P)) (k:P):List (P×P):=a.filter fun e=> !P.key k e.1
def Zn:TD->P->Bool
 | .bool,.bool _=>true
 | .int k,.int k' _=>k == k'
 | .str,.str _=>true
 |_,_=>false
def TD.same:TD->TD->Bool
 | .bool,.bool=>true
 | .int k,.int k'=>k == k'
 | .str,.str=>true
 |_,_=>false
end Eng
namespace Eng
open Go
structure Eff where
 val:D
 new:List (Nat×Obj):=[]
 wr:List (Id×Obj):=[]
 frz:List Id:=[]
 cond:List Bool:=[]
def ZP {a:Type} (xs:List a) (j:Nat) (b:List a):List a:=xs.take j++b++xs.drop (j+b.length)
def ZeA (ep i:Nat):Nat->List D->List D
 |_,[]=>[]
 |k,.nils _::r=> .sl (ep,i,k) 0 0::ZeA ep i (k+1) r
 |k,d::r=>d::ZeA ep i (k+1) r
def ZZ:Nat->List D->List (Nat×Obj)
 |_,[]=>[]
 |k,.nils sz::r=>(k,.arr sz [] false)::ZZ (k+1) r
 |k,_::r=>ZZ (k+1) r
def D.int?:D->Option Int
 | .p (.int _ n)=>some n
 |_=>none
def ZaN (E:Env) (f:Nat->Option (List TD)) (c:Nat):Nat->List (Nat×Nat)->Option (List TD)
 |off,[]=>if off=c then some []else none
 |off,(o,t)::r=>if o=off then match f t,E.ty t with
   |some a,some ti=>if a.length=ti.size then match ZaN E f c (off+ti.size) r with
    |some b=>some (a++b)
    |none=>none
    else none
   |_,_=>none
  else none
def Za4 (E:Env):Nat->Nat->Option (List TD)
 |0,_=>none
 |n+1,t=>match E.ty t with
  |some ti=>match ti.d with
   | .bool=>some [.bool]
   | .int k=>some [.int k]
   | .str=>some [.str]
   | .struct fs=>ZaN E (Za4 E n) ti.size 0 fs
   |_=>none
  |none=>none
def eqt:List TD->List P->List P->Option Bool
 | [],[],[]=>some true
 |td::r,x::xs,y::ys=>if Zn td x&&Zn td y then match P.eqc x y,eqt r xs ys with
   |some a,some b=>some (a&&b)
   |_,_=>none
  else none
 |_,_,_=>none
def Zmi (E:Env) (a:BinOp) (t:Nat) (u v:List P):Option P:=
 match E.td t,Za4 E depth t with
 |some (.struct _),some tds=>match a,eqt tds u v with
  | .eql,some b=>some (.bool b)
  | .neq,some b=>some (.bool !b)
  |_,_=>none
 |_,_=>none
def TI.part (E:Env) (ti:TI) (i:Nat):Option (Nat×Nat):=
 match ti.d with
 | .struct fs=>fs[i]?
 | .arr _ e=>match E.ty e with |some te=>some (i*te.size,e) |none=>none
 |_=>none
def ZbS (E:Env) (sl:Nat->D) (ti:TI):List (Nat×Operand)->List D->Option (List D)
 | [],cs=>some cs
 |(i,x)::r,cs=>match ti.part E i with
  |some (off,t)=>match E.ty t with
   |some b=>let a:=(ev E sl t x).cells
    if a.length=b.size/\off+a.length<=cs.length/\(ev E sl t x).okv=true then ZbS E sl ti r (ZP cs off a)else none
   |none=>none
  |none=>none
def ZD (E:Env) (sl:Nat->D) (lk:Id->Option Obj) (t:Nat) (te:TI):List (Nat×Operand)->List P->Option (List P)
 | [],es=>some es
 |(i,x)::r,es=>match (ev E sl t x).toP lk depth with
  |some y=>if y.cells.length=te.size/\i < es.length then ZD E sl lk t te r (es.set i y)else none
  |none=>none
def TI.zeroP (ti:TI):P:=if ti.isAgg then .agg (ti.zero.map Z.toP)else (ti.zero.map Z.toP).headD default
def ZcP (E:Env) (sl:Nat->D) (lk:Id->Option Obj) (t:Nat) (xs:List (Nat×Operand)):List Id:=xs.flatMap fun x=>(ev E sl t x.2).ids lk depth
def ZdK (ti:TI) (cs:List P):Option P:=
 if ti.isAgg then (if ti.size<=cs.length then some (.agg (cs.take ti.size))else none)
 else cs.head?
def Zft (ti:TI) (cs:List D):Option D:=
 if ti.isAgg then (if ti.size<=cs.length then some (.mkAgg (cs.take ti.size))else none)
 else cs.head?
def P.put (e:P) (sz j:Nat) (x:P):P:=
 if j=0/\x.cells.length=sz then x
 else match e with
  | .agg cs=> .agg (ZP cs j x.cells)
  |_=>x
def ZaL (lk:Id->Option Obj) (sz:Option Nat) (x:D) (lo hi mx:Option Int):Option Eff:=
 match sz,x with
 |none,.p (.str s)=>match mx with
  |some _=>none
  |none=>some {val:= .p (.str ((s.take (hi.getD s.length).toNat).drop (lo.getD 0).toNat)),cond:=[decide (0<=lo.getD 0/\lo.getD 0<=hi.getD s.length/\hi.getD s.length<=s.length)]}
 |some sz',.p (.sl sz es)=>if sz=sz' then match mx,hi with
  |none,_=>some {val:= .p (.sl sz ((es.take (hi.getD es.length).toNat).drop (lo.getD 0).toNat)),cond:=[decide (0<=lo.getD 0/\lo.getD 0<=hi.getD es.length/\hi.getD es.length<=es.length)]}
  |some m,some h=>some {val:= .clip sz ((es.take h.toNat).drop (lo.getD 0).toNat),cond:=[decide (0<=lo.getD 0/\lo.getD 0<=h/\h<=es.length/\m=h)]}
  |_,_=>none
  else none
 |some sz',.sl id off len=>match lk id with
  |some (.arr sz es _)=>if sz=sz' then match mx,hi with
   |none,_=>some {val:= .sl id (off+(lo.getD 0).toNat) ((hi.getD len).toNat - (lo.getD 0).toNat),cond:=[decide (0<=lo.getD 0/\lo.getD 0<=hi.getD len/\hi.getD len<=len)]}
   |some m,some h=>some {val:= .clip sz ((es.drop (off+(lo.getD 0).toNat)).take (h.toNat - (lo.getD 0).toNat)),frz:=[id],cond:=[decide (0<=lo.getD 0/\lo.getD 0<=h/\h<=len/\m=h)]}
   |_,_=>none
   else none
  |_=>none
 |some _,.nils sz=>match mx with
  |none=>some {val:= .nils sz,cond:=[decide (lo.getD 0=0/\hi.getD 0=0)]}
  |some _=>none
 |_,_=>none
def ZbO (E:Env) (sl:Nat->D):Option Operand->Option (Option Int)
 |none=>some none
 |some x=>match ev E sl 0 x with
  | .p (.int _ n)=>some (some n)
  |_=>none
def Zgf (lk:Id->Option Obj):TD->D->Option (Nat×List Bool)
 | .arr n _,_=>some (n,[n<=Zq])
 | .str,.p (.str s)=>some (s.length,[])
 | .sl _,.p (.sl _ es)=>some (es.length,[])
 | .sl _,.clip _ es=>some (es.length,[])
 | .sl _,.nils _=>some (0,[])
 | .sl _,.sl _ _ len=>some (len,[])
 | .map _ _,.p (.map _ a)=>some (a.length,[decide (a.length<=Zq)])
 | .map _ _,.map id=>match lk id with |some (.map _ a)=>some (a.length,[decide (a.length<=Zq)]) |_=>none
 |_,_=>none
def Zfr (lk:Id->Option Obj):D->Option (TD×List (P×P))
 | .p (.map td a)=>some (td,a)
 | .map id=>match lk id with |some (.map td a)=>some (td,a) |_=>none
 |_=>none
def ZO:Nat:=140737488355328
def ZaH (s:List UInt8):List P:=s.map fun b=> .int .u8 b.toNat
def ZcA (lk:Id->Option Obj) (sz:Nat) (x:D):Option (List P):=
 match x with
 | .p (.str s)=>if sz=1 then some (ZaH s)else none
 |x=>match x.toP lk 1 with
  |some (.sl sz' es)=>if sz'=sz then some es else none
  |_=>none
def Z6 (lk:Id->Option Obj) (ep i:Nat) (te:TI) (s:D) (xs:List P):Option Eff:=
 match s with
 | .nils _=>some {val:= .sl (ep,i,0) 0 xs.length,new:=[(0,.arr te.size xs false)],cond:=[decide (xs.length*max te.bytes 1<=ZO)]}
 | .clip sz es=>if sz=te.size then
   some {val:= .sl (ep,i,0) 0 (es.length+xs.length),new:=[(0,.arr te.size (es++xs) false)],cond:=[decide (xs.isEmpty=false/\(es.length+xs.length)*max te.bytes 1<=ZO)]}else none
 | .sl id 0 len=>match lk id with
  |some (.arr sz es false)=>if sz=te.size then
    some {val:= .sl (ep,i,0) 0 (len+xs.length),new:=[(0,.arr te.size (es.take len++xs) false)],wr:=[(id,.gone)],cond:=[decide ((len+xs.length)*max te.bytes 1<=ZO)]}else none
  |_=>none
 |_=>none
def ZaJ (lk:Id->Option Obj) (ep i:Nat) (te:TI) (s x:D):Option Eff:=
 match ZcA lk te.size x with
 |none=>none
 |some xs=>Z6 lk ep i te s xs
def ZfE (lk:Id->Option Obj) (te:TI) (d s:D):Option Eff:=
 match d with
 | .sl id a len=>match lk id with
  |some (.arr sz es fix)=>match ZcA lk sz s with
   |some xs=>if sz=te.size then
     some {val:= .p (.int .i64 (min xs.length len:Nat)),wr:=[(id,.arr sz (ZP es a (xs.take (min xs.length len))) fix)]}else none
   |none=>none
  |_=>none
 |_=>none
def maxP:List D->Option P
 | [.p (.int k a),.p (.int k' b)]=>if k=k' then some (.int k (if b > a then b else a))else none
 | [.p (.int k a),.p (.int k' b),.p (.int k'' c)]=>if k=k'/\k=k'' then some (.int k (if c > (if b > a then b else a)then c else (if b > a then b else a)))else none
 |_=>none
def minP:List D->Option P
 | [.p (.int k a),.p (.int k' b)]=>if k=k' then some (.int k (if b < a then b else a))else none
 | [.p (.int k a),.p (.int k' b),.p (.int k'' c)]=>if k=k'/\k=k'' then some (.int k (if c < (if b < a then b else a)then c else (if b < a then b else a)))else none
 |_=>none
def ZT (E:Env) (sl:Nat->D):List Operand->List Nat->List D
 | [],_=>[]
 |x::xs,[]=>ev E sl 0 x::ZT E sl xs []
 |x::xs,t::ts=>ev E sl t x::ZT E sl xs ts
def Ziy (E:Env) (lk:Id->Option Obj):List Nat->List D->Option Eff
 | [t],[d]=>match E.td t with
  |some td=>match Zgf lk td d with
   |some (n,c)=>some {val:= .p (.int .i64 n),cond:=c}
   |none=>none
  |none=>none
 |_,_=>none
def Zb7 (E:Env) (ep i:Nat) (lk:Id->Option Obj):List Nat->List D->Option Eff
 | [t,u],[s,x]=>match E.elem t,E.td u with
  |some te,some (.sl _)=>ZaJ lk ep i te s x
  |some te,some .str=>ZaJ lk ep i te s x
  |some te,some (.int _)=>match x with
   | .p (.int .i64 a)=>if 0<=a then Z6 lk ep i te s (List.replicate a.toNat te.zeroP)else none
   |_=>none
  |_,_=>none
 |_,_=>none
def ZiQ (E:Env) (lk:Id->Option Obj):List Nat->List D->Option Eff
 |t::_,[d,s]=>match E.elem t with
  |some te=>ZfE lk te d s
  |none=>none
 |_,_=>none
def Zd4 (E:Env) (lk:Id->Option Obj):List Nat->List D->Option Eff
 |t::_,[.map id,k]=>match E.td t,lk id,k.toP lk 1 with
  |some (.map _ _),some (.map td kv),some kp=>if (E.keyTD t).same td&&Zn td kp then some {val:= .undef,wr:=[(id,.map td (Zkl kv kp))]}else none
  |_,_,_=>none
 |_,_=>none
def ZI (E:Env) (ep i:Nat) (lk:Id->Option Obj) (b:Builtin) (a:List Nat) (c:List D):Option Eff:=
 match b with
 | .len=>Ziy E lk a c
 | .append=>Zb7 E ep i lk a c
 | .copy=>ZiQ E lk a c
 | .max=>match maxP c with
  |some x=>some {val:= .p x}
  |none=>none
 | .min=>match minP c with
  |some x=>some {val:= .p x}
  |none=>none
 | .delete=>Zd4 E lk a c
 |_=>none
def P.isU8:P->Bool
 | .int .u8 _=>true
 |_=>false
def P.byte:P->UInt8
 | .int _ n=>UInt8.ofNat n.toNat
 |_=>0
def Zar (E:Env) (ep i:Nat) (lk:Id->Option Obj) (s t:Nat) (x:D):Option Eff:=
 match E.td s,E.td t,x with
 |some (.int _),some (.int k),.p (.int _ n)=>some {val:= .p (.int k (k.wrap n))}
 |some .str,some .str,.p (.str s)=>some {val:= .p (.str s)}
 |some .str,some (.sl e),.p (.str s)=>match E.td e with
  |some (.int .u8)=>some {val:= .sl (ep,i,0) 0 s.length,new:=[(0,.arr 1 (ZaH s) false)],cond:=[decide (s.length<=281474976710656)]}
  |_=>none
 |some (.sl e),some .str,x=>match E.td e,x.toP lk 1 with
  |some (.int .u8),some (.sl _ es)=>some {val:= .p (.str (es.map P.byte)),cond:=[es.all P.isU8]}
  |_,_=>none
 |_,_,_=>none
def ZX (E:Env) (sl:Nat->D) (lk:Id->Option Obj) (t:Nat) (m k v:Operand):Option Eff:=
 match E.ty t with
 |some {d:= .map kt vt, .. }=>match ev E sl 0 m with
  | .map id=>match lk id,(ev E sl kt k).toP lk 1,(ev E sl vt v).toP lk depth with
   |some (.map td kv),some kp,some vp=>if (E.keyTD t).same td&&Zn td kp then some {val:= .undef,wr:=[(id,.map td (Zi7 kv kp vp))],frz:=(ev E sl vt v).ids lk depth}else none
   |_,_,_=>none
  |_=>none
 |_=>none
def Zd (E:Env) (ep i:Nat) (w:Op) (ty:Nat) (sl:Nat->D) (lk:Id->Option Obj):Option Eff:=
 match w with
 | .move x=>some {val:=ev E sl ty x}
 | .assign x=>match ev E sl ty x with
  | .nils sz=>some {val:= .sl (ep,i,0) 0 0,new:=[(0,.arr sz [] false)]}
  |d=>some {val:=d}
 | .pick c a b=>match ev E sl ty c with
  | .p (.bool x)=>some {val:=if x then ev E sl ty a else ev E sl ty b}
  |_=>none
 | .alloc t=>match E.ty t with
  |some ti=>let o:=ti.zero.map Z.toD
   some {val:= .ptr (ep,i,0) 0 0,new:=(0,.box (ZeA ep i 1 o))::ZZ 1 o}
  |none=>none
 | .box t x=>match E.ty t with
  |some ti=>let o:=(ev E sl t x).cells
   if o.length=ti.size/\(ev E sl t x).okv=true then some {val:= .ptr (ep,i,0) 0 0,new:=(0,.box (ZeA ep i 1 o))::ZZ 1 o}else none
  |none=>none
 | .build t g=>match E.ty t with
  |some ti=>if ti.isAgg then match ZbS E sl ti g.toList (ti.zero.map Z.toD)with
   |some cs=>some {val:= .mkAgg cs}
   |none=>none
   else none
  |none=>none
 | .buildSlice t n g=>match E.ty t with
  |some {d:= .sl e, .. }=>match E.ty e with
   |some te=>match ZD E sl lk e te g.toList (List.replicate n te.zeroP)with
    |some es=>if n*te.size<=16777216/\n<=16777216 then some {val:= .sl (ep,i,0) 0 n,new:=[(0,.arr te.size es false)],frz:=ZcP E sl lk e g.toList}else none
    |none=>none
   |none=>none
  |_=>none
 | .load t a=>match E.ty t with
  |some ti=>match ev E sl 0 a with
   | .p (.ptr cs)=>match ZdK ti cs with
    |some x=>some {val:= .p x}
    |none=>none
   | .ptr id i' j=>match lk id with
    |some (.box cs)=>if i'=0 then match Zft ti (cs.drop j)with
     |some d=>some {val:=d}
     |none=>none
     else none
    |some (.arr _ es _)=>match ZdK ti ((es.getD i' default).cells.drop j)with
     |some x=>some {val:= .p x}
     |none=>none
    |_=>none
   |_=>none
  |none=>none
 | .store t a x=>match E.ty t with
  |some ti=>match ev E sl 0 a with
   | .ptr id i' j=>match lk id with
    |some (.box cs)=>let o:=(ev E sl t x).cells
     if i'=0/\o.length=ti.size/\j+o.length<=cs.length/\(ev E sl t x).okv=true then
      some {val:= .undef,new:=ZZ 0 o,wr:=[(id,.box (ZP cs j (ZeA ep i 0 o)))]}else none
    |some (.arr sz es fix)=>match (ev E sl t x).toP lk depth with
     |some y=>if y.cells.length=ti.size/\j+ti.size<=sz/\0 < ti.size then
       some {val:= .undef,wr:=[(id,.arr sz (es.set i' ((es.getD i' default).put sz j y)) fix)],frz:=(ev E sl t x).ids lk depth}else none
     |none=>none
    |_=>none
   |_=>none
  |none=>none
 | .nilCheck x=>match ev E sl 0 x with
  | .p (.ptr cs)=>some {val:= .p (.ptr cs)}
  | .ptr id i' j=>some {val:= .ptr id i' j}
  | .p (.fn f a b)=>some {val:= .p (.fn f a b)}
  | .fn f a b=>some {val:= .fn f a b}
  |_=>none
 | .binOp b t x y _=>
  if Operand.isNil y then
   match E.td t with
   |some td=>match b,Zc3 td y (ev E sl 0 x)with
    | .eql,some d=>some {val:=d}
    | .neq,some d=>match d.notb with
     |some d=>some {val:=d}
     |none=>none
    |_,_=>none
   |none=>none
  else match ev E sl 0 x,ev E sl 0 y with
   | .p (.bool u),.p (.bool v)=>match E.td t,Zj8 b u v with
    |some .bool,some z=>some {val:= .p z}
    |_,_=>none
   | .p (.agg u),.p (.agg v)=>match Zmi E b t u v with
     |some z=>some {val:= .p z}
     |none=>none
   | .p u,.p v=>match Zmc b u v with
    |some (z,c)=>some {val:= .p z,cond:=c}
    |none=>none
   |_,_=>none
 | .unOp u _ x=>match ev E sl 0 x with
  | .p v=>match unop u v with
   |some (z,c)=>some {val:= .p z,cond:=c}
   |none=>none
  |_=>none
 | .convert s t x=>Zar E ep i lk s t (ev E sl 0 x)
 | .makeFunc (.func f) first caps=>
  some {val:=match Zh D.pure? (first.toList.map (ev E sl 0)),Zh D.pure? (caps.toList.map (ev E sl 0))with
   |some a,some b=> .p (.fn f a b)
   |_,_=> .fn f (first.toList.map (ev E sl 0)) (caps.toList.map (ev E sl 0))}
 | .makeMap t none=>some {val:= .map (ep,i,0),new:=[(0,.map (E.keyTD t) [])]}
 | .makeSlice t l c=>match E.elem t,ev E sl 0 l,ev E sl 0 c with
  |some te,.p (.int _ a),.p (.int _ b)=>
   some {val:= .sl (ep,i,0) 0 a.toNat,new:=[(0,.arr te.size (List.replicate a.toNat te.zeroP) false)],cond:=[decide (0<=a/\a<=b/\b*te.bytes<=ZO/\b<=ZO)]}
  |_,_,_=>none
 | .slice t x lo hi mx=>
  match (match E.td t with |some .str=>some none |some (.sl e)=>(match E.ty e with |some te=>some (some te.size) |none=>none) |_=>none),
    ZbO E sl lo,ZbO E sl hi,ZbO E sl mx with
  |some sz,some a,some b,some c=>ZaL lk sz (ev E sl 0 x) a b c
  |_,_,_,_=>none
 | .fieldAddr t x f=>match E.ty t with
  |some {d:= .struct fs, .. }=>match fs[f]? with
   |some (h,ft)=>match E.ty ft with
    |some p=>if p.size=0 then none else match ev E sl 0 x with
     | .p (.ptr cs)=>some {val:= .p (.ptr (cs.drop h))}
     | .ptr id i' j=>some {val:= .ptr id i' (j+h)}
     |_=>none
    |none=>none
   |none=>none
  |_=>none
 | .field t x f=>match E.ty t with
  |some {d:= .struct fs, .. }=>match fs[f]? with
   |some (h,ft)=>match E.ty ft,ev E sl 0 x with
    |some p,.p (.agg cs)=>if p.size=0 then none else (ZdK p (cs.drop h)).map fun y=>{val:= .p y}
    |some p,.agg cs=>if p.size=0 then none else (Zft p (cs.drop h)).map fun y=>{val:=y}
    |_,_=>none
   |none=>none
  |_=>none
 | .indexAddr t x q=>match ev E sl 0 q with
  | .p (.int _ n)=>match E.ty t with
   |some {d:= .sl e, .. }=>match E.ty e with
    |some te=>match ev E sl 0 x with
     | .p (.sl sz es)=>if sz=te.size then some {val:= .p (.ptr (es.getD n.toNat default).cells),cond:=[decide (0<=n/\n < es.length)]}else none
     | .sl id h len=>match lk id with
      |some (.arr sz _ _)=>if sz=te.size then some {val:= .ptr id (h+n.toNat) 0,cond:=[decide (0<=n/\n < len)]}else none
      |_=>none
     |_=>none
    |none=>none
   |some {d:= .arr m e, .. }=>match E.ty e with
    |some te=>match ev E sl 0 x with
     | .p (.ptr cs)=>some {val:= .p (.ptr (cs.drop (n.toNat*te.size))),cond:=[decide (0<=n/\n < m)]}
     | .ptr id i' j=>some {val:= .ptr id i' (j+n.toNat*te.size),cond:=[decide (0<=n/\n < m)]}
     |_=>none
    |none=>none
   |_=>none
  |_=>none
 | .index t x q=>match ev E sl 0 q with
  | .p (.int _ n)=>match ev E sl 0 x with
   | .p (.str s)=>match E.td t with
    |some .str=>some {val:= .p (.int .u8 (s.getD n.toNat 0).toNat),cond:=[decide (0<=n/\n < s.length)]}
    |_=>none
   |_=>none
  |_=>none
 | .lookup t m k r=>match E.ty t with
  |some {d:= .map kt e, .. }=>match E.ty e,Zfr lk (ev E sl 0 m),(ev E sl kt k).toP lk 1 with
   |some te,some (td,kv),some kp=>if (E.keyTD t).same td&&Zn td kp then
     some {val:=match Zbq kv kp with
      |some v=>if r then .tup [.p v,.p (.bool true)]else .p v
      |none=>if r then .tup [.p te.zeroP,.p (.bool false)]else .p te.zeroP}else none
   |_,_,_=>none
  |_=>none
 | .mapUpdate t m k v=>ZX E sl lk t m k v
 | .insert t m k v=>ZX E sl lk t m k v
 | .range t x=>match E.td t,ev E sl 0 x with
  |some .str,.p (.str s)=>some {val:= .it (ep,i,0),new:=[(0,.sit s 0)]}
  |some (.map _ _),.p (.map _ kv)=>some {val:= .it (ep,i,0),new:=[(0,.mit kv none)]}
  |some (.map _ _),.map id=>match lk id with
   |some (.map _ kv)=>some {val:= .it (ep,i,0),new:=[(0,.mit kv none)],frz:=[id]}
   |_=>none
  |_,_=>none
 | .next it true=>match ev E sl 0 it with
  | .it id=>match lk id with
   |some (.sit s pos)=>if pos < s.length then
     some {val:= .tup [.p (.bool true),.p (.int .i64 pos),.p (.int .i32 (Utf8.decode ⟨s.toArray⟩ pos).1)],wr:=[(id,.sit s (pos+(Utf8.decode ⟨s.toArray⟩ pos).2))]}
    else some {val:= .tup [.p (.bool false)]}
   |_=>none
  |_=>none
 | .entry it=>match ev E sl 0 it with
  | .it id=>match lk id with
   |some (.mit _ (some (k,v)))=>some {val:= .tup [.p k,.p v]}
   |_=>none
  |_=>none
 | .extract x q=>match ev E sl 0 x with
  | .tup vs=>(vs[q]?).map fun d=>{val:=d}
  |_=>none
 | .call {callee:= .builtin b,args,argTypes}=>ZI E ep i lk b argTypes.toList (ZT E sl args.toList argTypes.toList)
 |_=>none
end Eng
namespace Eng
open Go
def St.app (a:St) (i:Nat) (dst:Option Nat) (e:Eff):St:=
 (((a.objL e.wr).objL (e.new.map fun x=>((a.ep,i,x.1),x.2))).freezeL e.frz).setO dst e.val
def Zem (a:St) (e:Eff):Bool:=(e.wr.all fun x=> !a.fz x.1)&&e.frz.all fun f=>e.wr.all fun x=>decide (x.1≠f)
inductive Item where
 |c (c:Code)
 |ops (a:Array Oper) (i:Nat)
 |blk (id:Nat)
 |lp (c:Code)
def Zak (id:Nat):List Item->Option (List Item)
 | .blk j::k=>if j=id then some k else Zak id k
 |_::k=>Zak id k
 | []=>none
def ZQ (ops:Array Oper) (a:St):Option (Nat×Bool)->Option Bool
 |none=>some true
 |some (g,w)=>match (ops[g]?).bind (·.dst)with
  |some t=>match a.slots t with
   | .p (.bool b)=>some (b == w)
   | .undef=>some false
   |_=>none
  |none=>some false
def Zz:Operand->Bool
 | .const (.int k n)=>decide (k.min<=n/\n<=k.max)
 | .const (.string s)=>decide (s.data.size<=Zq)
 |_=>true
def Zdc (E:Env) (o:Oper):Bool:=match o.dst with |some d=>decide (d < E.nt) |none=>true
def Zfk (E:Env) (o:Oper):Bool:=Zdc E o&&o.op.operands.all Zz
def runOp (E:Env) (i:Nat) (o:Oper) (a:St):Option (St×List Bool):=
 match Zd E a.ep i o.op o.type a.slots a.objs with
 |some e=>if Zem a e&&Zfk E o then some (a.app i o.dst e,e.cond)else none
 |none=>none
def run (E:Env):Nat->List Item->St->List Bool->Option (List Item×St×List Bool)
 |0,k,st,d=>some (k,st,d)
 |n+1,.c c::k,st,d=>match c with
  | .skip=>run E n k st d
  | .seq a b=>run E n (.c a:: .c b::k) st d
  | .block id b=>run E n (.c b:: .blk id::k) st d
  | .region _ ops false=>run E n (.ops ops 0::k) st d
  | .loop c=>run E n (.c c:: .lp c::k) st d
  | .cond c a b=>if Zz c then match ev E st.slots 0 c with
   | .p (.bool true)=>run E n (.c a::k) st d
   | .p (.bool false)=>run E n (.c b::k) st d
   |_=>none
   else none
  | .exit id=>match Zak id k with
   |some k=>run E n k st d
   |none=>none
  |_=>none
 |n+1,.blk _::k,st,d=>run E n k st d
 |n+1,.lp c::k,st,d=>run E n (.c c:: .lp c::k) st d
 |n+1,.ops ops i::k,st,d=>match ops[i]? with
  |none=>run E n k st.next d
  |some o=>match ZQ ops st o.guard with
   |some true=>match runOp E i o st with
    |some (st',qs)=>run E n (.ops ops (i+1)::k) st' (d++qs)
    |none=>none
   |some false=>if Zdc E o then run E n (.ops ops (i+1)::k) (st.setO o.dst .undef) d else none
   |none=>none
 |_+1,[],_,_=>none
def Zam {c β:Type} [DecidableEq c] (d:β):List (c×β)->c->β
 | [],_=>d
 |(a,b)::r,x=>if x=a then b else Zam d r x
def Ze {c β:Type} [DecidableEq c]:List (c×β)->c->Option β
 | [],_=>none
 |(a,b)::r,x=>if x=a then some b else Ze r x
end Eng
namespace Eng
open Go
def ZbP (v:Value):Prop:=v.oneCell'=true
def Zcy (S:Nat->Prop) (w w':World):Prop:=∀b,S b->b < w.heap.size->w'.heap[b]? =w.heap[b]?
def Zah:Nat:=281474976710656
inductive RelP (w:World) (S:Nat->Prop):Value->P->Prop
 |bool (b:Bool):RelP w S (.bool b) (.bool b)
 |int (k:IntKind) (n:Int) (h0:k.min<=n) (h1:n<=k.max):RelP w S (.int k n) (.int k n)
 |str (s:List UInt8) (h:s.length<=Zq):RelP w S (.string ⟨s.toArray⟩) (.str s)
 |agg (vs:Array Value) (cs:List P) (hl:vs.size=cs.length) (h1:∀(i:Nat) v,vs[i]? =some v->ZbP v)
   (h:∀(i:Nat) v c,vs[i]? =some v->cs[i]? =some c->RelP w S v c):RelP w S (.agg vs) (.agg cs)
 |sl (a:Option Addr) (len cap sz:Nat) (es:List P) (evs:Nat->Value) (hl:es.length=len) (hm:len<=Zah) (hc:len<=cap)
   (hsz:∀i,i < len->(evs i).cells.size=sz)
   (hcell:∀i,i < len->∃b o,a=some ⟨b,o,none⟩/\S b/\∀j v,(evs i).cells[j]? =some v->w.cell? ⟨b,o+i*sz+j,none⟩=some v)
   (h:∀(i:Nat) e,es[i]? =some e->RelP w S (evs i) e):RelP w S (.slice a len cap) (.sl sz es)
 |nilp:RelP w S (.pointer none) .nilp
 |ptr (b o:Nat) (cs:List P) (vs:Nat->Value) (hS:S b) (hcell:∀(j:Nat) c,cs[j]? =some c->w.cell? ⟨b,o+j,none⟩=some (vs j))
   (h1:∀(j:Nat) c,cs[j]? =some c->ZbP (vs j)) (h:∀(j:Nat) c,cs[j]? =some c->RelP w S (vs j) c):RelP w S (.pointer (some ⟨b,o,none⟩)) (.ptr cs)
 |nilmap (td:TD):RelP w S (.map none) (.map td [])
 |map (td:TD) (r:Nat) (es:Array MapEntry) (clock:Nat) (kv kv':List (P×P)) (hS:S r) (hb:w.heap[r]? =some (.map es clock)) (hp:kv'.Perm kv)
   (hl:es.size=kv'.length) (hk:∀(i:Nat) e q,es[i]? =some e->kv'[i]? =some q->RelP w S e.key q.1)
   (hv:∀(i:Nat) e q,es[i]? =some e->kv'[i]? =some q->RelP w S e.val q.2)
   (hd:kv'.Pairwise fun a b=>P.key a.1 b.1=false) (hkey:∀q∈kv',Zn td q.1=true)
   (hborn:∀(i:Nat) e,es[i]? =some e->e.born < clock) (hbd:∀(i j:Nat) e e',es[i]? =some e->es[j]? =some e'->e.born=e'.born->i=j):
   RelP w S (.map (some r)) (.map td kv)
 |fn (f:Nat) (fs cs:Array Value) (a b:List P) (hf:fs.size=a.length) (hc:cs.size=b.length)
   (h:∀(i:Nat) v x,fs[i]? =some v->a[i]? =some x->RelP w S v x) (h':∀(i:Nat) v x,cs[i]? =some v->b[i]? =some x->RelP w S v x):
   RelP w S (.func (.func f) fs cs) (.fn f a b)
 |nilfn:RelP w S .nilFunc .nilfn
theorem ZaW {w w':World} {b o:Nat} (h:w'.heap[b]? =w.heap[b]?):w'.cell? ⟨b,o,none⟩=w.cell? ⟨b,o,none⟩:=by simp[World.cell?,h]
theorem Zj3 {w:World} {b o:Nat} {v:Value} (h:w.cell? ⟨b,o,none⟩=some v):b < w.heap.size:=World.block_lt_of_cell? w ⟨b,o,none⟩ h
theorem ZdS {w:World} {b:Nat} {x:Go.Obj} (h:w.heap[b]? =some x):b < w.heap.size:=(Zmy.1 h).1
theorem Za6 {w w':World} {b o:Nat} (h:w'.heap[b]? =w.heap[b]?):w'.frozen? ⟨b,o,none⟩=w.frozen? ⟨b,o,none⟩:=by simp[World.frozen?,h]
theorem RelP.mono {w w':World} {S S':Nat->Prop} (G:Zcy S w w') (B:∀b,S b->S' b) {v:Value} {x:P} (h:RelP w S v x):RelP w' S' v x:=by
 induction h with
 |bool b=>exact .bool b
 |int k n L q=>exact .int k n L q
 |str s h=>exact .str s h
 |agg vs cs p q _ g=>exact .agg vs cs p q g
 |sl a len cap sz es evs p O E D d _ g=>
  exact .sl a len cap sz es evs p O E D (fun i hi=>by obtain⟨b,o,J,e,I⟩:=d i hi;exact⟨b,o,J,B b e,fun j v u=>by rw[ZaW (G b e (Zj3 (I j v u)))];exact I j v u⟩) g
 |nilp=>exact .nilp
 |ptr b o cs vs e d q _ g=>exact .ptr b o cs vs (B b e) (fun j c u=>by rw[ZaW (G b e (Zj3 (d j c u)))];exact d j c u) q g
 |nilmap td=>exact .nilmap td
 |map td r es m K z e H Q p _ _ M t l y F A=>exact .map td r es m K z (B r e) (by rw[G r e (ZdS H)];exact H) Q p F A M t l y
 |fn f fs cs a b N E _ _ g C=>exact .fn f fs cs a b N E g C
 |nilfn=>exact .nilfn
theorem RelP.size {w:World} {S:Nat->Prop} {v:Value} {x:P} (h:RelP w S v x):v.cells.size=x.cells.length:=by cases h<;>simp_all [Value.cells,P.cells]
theorem RelP.cell {w:World} {S:Nat->Prop} {v:Value} {x:P} (h:RelP w S v x) {j:Nat} {u:Value} {c:P} (a:v.cells[j]? =some u) (b:x.cells[j]? =some c):
  RelP w S u c/\ZbP u:=by
 cases h with
 |agg vs cs e d h=>exact⟨h j u c a b,d j u a⟩
 |_=>
  simp only[Value.cells,P.cells]at a b;cases j with
  |succ j=>simp at a
  |zero=>
   simp only[List.getElem?_cons_zero,ZmZ]at a b;simp only[List.getElem?_toArray,List.getElem?_cons_zero,ZmZ]at a;subst a b;refine⟨?_,by simp[ZbP,Value.oneCell']⟩;constructor<;>assumption
structure Lay where
 blk:Option Nat
 base:Nat
 sz:Nat
 len:Nat
 cap:Nat
inductive RelD (w:World) (S:Nat->Prop) (ρ:Id->Option Lay):Value->D->Prop
 |p (v:Value) (x:P) (h:RelP w S v x):RelD w S ρ v (.p x)
 |dead (v:Value):RelD w S ρ v .dead
 |undef:RelD w S ρ Go.undef .undef
 |anyb (b:Bool):RelD w S ρ (.bool b) .anyb
 |nils (sz:Nat):RelD w S ρ (.slice none 0 0) (.nils sz)
 |clip (a:Option Addr) (n sz:Nat) (es:List P) (h:RelP w S (.slice a n n) (.sl sz es)):RelD w S ρ (.slice a n n) (.clip sz es)
 |agg (vs:Array Value) (cs:List D) (hl:vs.size=cs.length) (h1:∀(i:Nat) v,vs[i]? =some v->ZbP v)
   (h:∀(i:Nat) v c,vs[i]? =some v->cs[i]? =some c->RelD w S ρ v c):RelD w S ρ (.agg vs) (.agg cs)
 |tup (vs:Array Value) (cs:List D) (hl:vs.size=cs.length)
   (h:∀(i:Nat) v c,vs[i]? =some v->cs[i]? =some c->RelD w S ρ v c):RelD w S ρ (.tuple vs) (.tup cs)
 |sl (id:Id) (off len cap:Nat) (a:Option Addr) (L:Lay) (hL:ρ id=some L) (hl:off+len<=L.len) (hm:len<=Zah/\cap<=Zq) (hc:len<=cap)
   (ha:cap=0\/∃b,L.blk=some b/\a=some ⟨b,L.base+off*L.sz,none⟩/\off+cap<=L.cap):RelD w S ρ (.slice a len cap) (.sl id off len)
 |ptr (id:Id) (i j:Nat) (L:Lay) (b:Nat) (hL:ρ id=some L) (hi:i < L.len) (hb:L.blk=some b):
   RelD w S ρ (.pointer (some ⟨b,L.base+i*L.sz+j,none⟩)) (.ptr id i j)
 |map (id:Id) (L:Lay) (b:Nat) (hL:ρ id=some L) (hb:L.blk=some b):RelD w S ρ (.map (some b)) (.map id)
 |it (id:Id) (L:Lay) (b:Nat) (hL:ρ id=some L) (hb:L.blk=some b):RelD w S ρ (.pointer (some ⟨b,0,none⟩)) (.it id)
 |fn (f:Nat) (fs cs:Array Value) (a b:List D) (hf:fs.size=a.length) (hc:cs.size=b.length)
   (h:∀(i:Nat) v x,fs[i]? =some v->a[i]? =some x->RelD w S ρ v x) (h':∀(i:Nat) v x,cs[i]? =some v->b[i]? =some x->RelD w S ρ v x):
   RelD w S ρ (.func (.func f) fs cs) (.fn f a b)
 |val (v:Value):RelD w S ρ v (.val v)
theorem RelD.mono {w w':World} {S S':Nat->Prop} {ρ ρ':Id->Option Lay} (s:Zcy S w w') (r:∀b,S b->S' b) (c:∀id L,ρ id=some L->ρ' id=some L)
  {v:Value} {d:D} (h:RelD w S ρ v d):RelD w' S' ρ' v d:=by
 induction h with
 |p v x h=>exact .p v x (h.mono s r)
 |dead v=>exact .dead v
 |undef=>exact .undef
 |anyb b=>exact .anyb b
 |nils sz=>exact .nils sz
 |clip a n sz es h=>exact .clip a n sz es (h.mono s r)
 |agg vs cs g y _ k=>exact .agg vs cs g y k
 |tup vs cs g _ k=>exact .tup vs cs g k
 |sl id o len cap a L e g z q u=>exact .sl id o len cap a L (c _ _ e) g z q u
 |ptr id i j L b e hi l=>exact .ptr id i j L b (c _ _ e) hi l
 |map id L b e l=>exact .map id L b (c _ _ e) l
 |it id L b e l=>exact .it id L b (c _ _ e) l
 |fn f fs cs a b t q _ _ k m=>exact .fn f fs cs a b t q k m
 |val v=>exact .val v
def Zif (w:World) (S:Nat->Prop) (r:Nat) (td:TD) (f:List (P×P)):Prop:=
 ∃(es:Array MapEntry) (d:Nat) (c:List (P×P)),w.heap[r]? =some (.map es d)/\c.Perm f/\es.size=c.length/\
  (∀(i:Nat) e q,es[i]? =some e->c[i]? =some q->RelP w S e.key q.1/\RelP w S e.val q.2)/\
  (c.Pairwise fun a b=>P.key a.1 b.1=false)/\(∀q∈c,Zn td q.1=true)/\
  (∀(i:Nat) e,es[i]? =some e->e.born < d)/\(∀(i j:Nat) e e',es[i]? =some e->es[j]? =some e'->e.born=e'.born->i=j)
def Zie (w:World) (S:Nat->Prop) (r:Nat) (rest:List (P×P)) (g:Option (P×P)):Prop:=
 (∃f a c,w.heap[r]? =some (.mapIter none f a c)/\rest=[]/\g=none)\/
 ∃(m:Nat) (es:Array MapEntry) (b:Nat) (a:Array Nat) (d:List (P×P)),
  S m/\w.heap[m]? =some (.map es b)/\w.heap[r]? =some (.mapIter (some m) b a b)/\es.size=d.length/\
  (∀(i:Nat) e q,es[i]? =some e->d[i]? =some q->RelP w S e.key q.1/\RelP w S e.val q.2)/\
  (∀(i:Nat) e,es[i]? =some e->e.born < b)/\(∀(i j:Nat) e e',es[i]? =some e->es[j]? =some e'->e.born=e'.born->i=j)/\
  (((es.toList.zip d).filter fun x=> !a.contains x.1.born).map (·.2)).Perm rest/\
  (match g with
   |none=>a= #[]
   |some q=>∃i:Nat,∃e,es[i]? =some e/\d[i]? =some q/\a.back?=some e.born)
def ZB (w:World) (S:Nat->Prop) (ρ:Id->Option Lay) (L:Lay):Obj->Prop
 | .box cs=>∃b,L.blk=some b/\L.sz=cs.length/\L.len=1/\
   ∀(j:Nat) d,cs[j]? =some d->∃v,w.cell? ⟨b,L.base+j,none⟩=some v/\w.frozen? ⟨b,L.base+j,none⟩=false/\ZbP v/\RelD w S ρ v d
 | .arr sz es _=>L.sz=sz/\es.length=L.len/\L.len<=L.cap/\L.len<=Zah/\(L.blk=none->L.len=0)/\
   (∀b,L.blk=some b->∀j,j < L.cap*sz->(∃v,w.cell? ⟨b,L.base+j,none⟩=some v)/\w.frozen? ⟨b,L.base+j,none⟩=false)/\
   ∃evs:Nat->Value,(∀i,i < L.len->(evs i).cells.size=sz)/\(∀b,L.blk=some b->∀(i j:Nat) v,i < L.len->(evs i).cells[j]? =some v->w.cell? ⟨b,L.base+i*sz+j,none⟩=some v)/\
    ∀(i:Nat) e,es[i]? =some e->RelP w S (evs i) e
 | .map td f=>∃b,L.blk=some b/\Zif w S b td f
 | .sit s c=>∃b,L.blk=some b/\w.heap[b]? =some (.stringIter ⟨s.toArray⟩ c)/\s.length<=Zq
 | .mit rest a=>∃b,L.blk=some b/\Zie w S b rest a
 | .gone=>True
theorem Zif.mono {w w':World} {S S':Nat->Prop} {r:Nat} {td:TD} {f:List (P×P)} (j:Zcy S w w') (k:∀b,S b->S' b) (o:w'.heap[r]? =w.heap[r]?)
  (h:Zif w S r td f):Zif w' S' r td f:=by
 obtain⟨es,a,c,p,n,s,l,m⟩:=h;exact⟨es,a,c,by rw[o];exact p,n,s,fun i e q g d=>⟨(l i e q g d).1.mono j k,(l i e q g d).2.mono j k⟩,m⟩
theorem Zie.mono {w w':World} {S S':Nat->Prop} {r:Nat} {rest:List (P×P)} {f:Option (P×P)} (n:Zcy S w w') (o:∀b,S b->S' b)
  (s:w'.heap[r]? =w.heap[r]?) (h:Zie w S r rest f):Zie w' S' r rest f:=by
 rcases h with ⟨a,b,c,j,k⟩ |⟨m,es,d,g,l,v,j,k,y,u,x⟩
 ·exact .inl ⟨a,b,c,by rw[s];exact j,k⟩
 ·exact .inr ⟨m,es,d,g,l,o m v,by rw[n m v (ZdS j)];exact j,by rw[s];exact k,y,
   fun i e q t p=>⟨(u i e q t p).1.mono n o,(u i e q t p).2.mono n o⟩,x⟩
theorem ZB.mono {w w':World} {S S':Nat->Prop} {ρ ρ':Id->Option Lay} {L:Lay} {o:Obj} (m:Zcy S w w') (l:∀b,S b->S' b)
  (q:∀id L,ρ id=some L->ρ' id=some L) (f:∀b,L.blk=some b->w'.heap[b]? =w.heap[b]?) (h:ZB w S ρ L o):ZB w' S' ρ' L o:=by
 cases o with
 |box cs=>
  obtain⟨b,a,c,k,n⟩:=h;refine⟨b,a,c,k,fun j d C=> ?_⟩;obtain⟨v,p,G,F,u⟩:=n j d C;exact⟨v,by rw[ZaW (f b a)];exact p,by rw[Za6 (f b a)];exact G,F,u.mono m l q⟩
 |arr sz es fix=>
  obtain⟨a,c,k,n,D,y,evs,t,x,A⟩:=h;refine⟨a,c,k,n,D,fun b g j E=> ?_,evs,t,fun b g i j v hi p=> ?_,fun i e B=>(A i e B).mono m l⟩
  ·rw[ZaW (f b g),Za6 (f b g)];exact y b g j E
  ·rw[ZaW (f b g)];exact x b g i j v hi p
 |map td H=>obtain⟨b,a,c⟩:=h;exact⟨b,a,c.mono m l (f b a)⟩
 |sit s z=>obtain⟨b,a,c,k⟩:=h;exact⟨b,a,by rw[f b a];exact c,k⟩
 |mit rest r=>obtain⟨b,a,c⟩:=h;exact⟨b,a,c.mono m l (f b a)⟩
 |gone=>trivial
end Eng
namespace Eng
open Go
theorem Zk {j β:Type} {f:j->Option β}:∀{xs:List j} {c:List β},Zh f xs=some c->
  c.length=xs.length/\∀(i:Nat) x y,xs[i]? =some x->c[i]? =some y->f x=some y
 | [],c,h=>by simp[Zh]at h;subst h;exact⟨rfl,fun i x y n=>by simp at n⟩
 |x::xs,c,h=>by
  simp only[Zh]at h;split at h;rotate_left;simp at h;rename_i y m l g;obtain⟨k,hi⟩:=Zk g;cases h;refine⟨by simp[k],fun i a b d e=> ?_⟩;cases i with
  |zero=>simp at d e;subst d e;exact l
  |succ i=>simp at d e;exact hi i a b d e
theorem Zt {cs:List D} {a:List P} (h:Zh D.pure? cs=some a):cs=a.map .p:=by
 obtain⟨c,hi⟩:=Zk h;apply List.ext_getElem?;intro i
 by_cases hlt:i < cs.length
 ·have b:=hi i cs[i] a[i] (by simp) (by simp);cases hc:cs[i]<;>simp[hc,D.pure?]at b;simp[hlt,hc,b,c▸hlt]
 ·simp[hlt,c]
@[simp] theorem Zje (lk:Id->Option Obj) (n:Nat) (x:P):D.toP lk n (.p x)=some x:=by cases n<;>rfl
@[simp] theorem toP_nils (lk:Id->Option Obj) (n sz:Nat):D.toP lk n (.nils sz)=some (.sl sz []):=by cases n<;>rfl
@[simp] theorem toP_clip (lk:Id->Option Obj) (n sz:Nat) (es:List P):D.toP lk n (.clip sz es)=some (.sl sz es):=by cases n<;>rfl
theorem Zbh (lk:Id->Option Obj) (n:Nat) (id:Id) (a len:Nat):D.toP lk n (.sl id a len)=match lk id with
  |some (.arr sz es _)=>some (.sl sz ((es.drop a).take len))
  |_=>none:=by cases n<;>rfl
theorem Zbi (lk:Id->Option Obj) (n:Nat) (id:Id):D.toP lk n (.map id)=match lk id with
  |some (.map td kv)=>some (.map td kv)
  |_=>none:=by cases n<;>rfl
@[simp] theorem ids_sl (lk:Id->Option Obj) (n:Nat) (id:Id) (a len:Nat):D.ids lk n (.sl id a len)=[id]:=by cases n<;>rfl
@[simp] theorem Zl0 (lk:Id->Option Obj) (n:Nat) (id:Id):D.ids lk n (.map id)=[id]:=by cases n<;>rfl
def Objs (w:World) (S:Nat->Prop) (ρ:Id->Option Lay) (lk:Id->Option Obj):Prop:=
 ∀id o,lk id=some o->o≠ .gone->∃L,ρ id=some L/\ZB w S ρ L o
theorem ZaA {w:World} {S:Nat->Prop} {ρ:Id->Option Lay} {lk:Id->Option Obj} (ho:Objs w S ρ lk) {S':Nat->Prop} (U:∀b,S b->S' b):
  ∀(n:Nat) (d:D) (v:Value) (x:P),RelD w S ρ v d->d.toP lk n=some x->
   (∀id,id∈d.ids lk n->∀L b,ρ id=some L->L.blk=some b->S' b)->RelP w S' v x:=by
 have T:Zcy S w w:=fun _ _ _=>rfl
 have base:∀(n:Nat) (d:D) (v:Value) (x:P),(∀cs,d≠ .agg cs)->(∀id i j,d≠ .ptr id i j)->(∀f a b,d≠ .fn f a b)->RelD w S ρ v d->d.toP lk n=some x->
   (∀id,id∈d.ids lk n->∀L b,ρ id=some L->L.blk=some b->S' b)->RelP w S' v x:=by
  intro n d v x A h2 h3 N g hi;cases N with
  |p v y h=>simp at g;subst g;exact h.mono T U
  |dead v=>cases n<;>simp[D.toP]at g
  |val v=>cases n<;>simp[D.toP]at g
  |undef=>cases n<;>simp[D.toP]at g
  |anyb b=>cases n<;>simp[D.toP]at g
  |nils sz=>simp at g;subst g;exact .sl none 0 0 sz [] (fun _=>default) rfl (by simp) (by simp) (by simp) (by simp) (by simp)
  |clip a n sz es h=>simp at g;subst g;exact h.mono T U
  |agg vs cs=>exact absurd rfl (A cs)
  |tup vs cs=>cases n<;>simp[D.toP]at g
  |sl id Y len cap a L F hl au l ha=>
   rw[Zbh]at g;split at g;rotate_left;simp at g;rename_i sz es fix t;cases g;obtain⟨L',m,I,ah,ak,ag,ap,J,evs,X,z,B⟩:=ho id _ t (by simp);rw[F]at m;obtain rfl:=ZmY m;refine .sl a len cap sz _ (fun i=>evs (Y+i)) (by simp;omega) (by omega) l (fun i ao=>X _ (by omega)) (fun i ao=> ?_) (fun i e H=> ?_)
   ·rcases ha with h0 |⟨b,G,rfl,aq⟩
    ·omega
    ·refine⟨b,_,rfl,hi id (by simp) L b F G,fun j u o=> ?_⟩;have:=z b G (Y+i) j u (by omega) o;rw[ZmS]at this;rw[I,<-this];congr 2;omega
   ·rw[ZmK]at H;split at H;rotate_left;simp at H;rw[ZmG]at H;exact(B _ e H).mono T U
  |ptr id i j=>exact absurd rfl (h2 id i j)
  |map id L b F G=>
   rw[Zbi]at g;split at g;rotate_left;simp at g;rename_i td kv t;cases g;obtain⟨L',m,b',E,es,O,ab,g1,g2,g3,g4,g5,g6,g7,g8⟩:=ho id _ t (by simp);rw[F]at m;obtain rfl:=ZmY m;rw[G]at E;obtain rfl:=ZmY E;exact .map td b es O kv ab (hi id (by simp) L b F G) g1 g2 g3 (fun i e q H hq=>(g4 i e q H hq).1.mono T U) (fun i e q H hq=>(g4 i e q H hq).2.mono T U) g5 g6 g7 g8
  |it id=>cases n<;>simp[D.toP]at g
  |fn f fs cs a b=>exact absurd rfl (h3 f a b)
 intro n
 induction n with
 |zero=>
  intro d v x N g hi;refine base 0 d v x ?_ ?_ ?_ N g hi
  all_goals (intros;intro l;subst l;simp[D.toP]at g)
 |succ n ih=>
  intro d v x N g hi;cases N with
  |agg vs cs hl A h=>
   simp only[D.toP,ZmX]at g;obtain⟨ps,R,rfl⟩:=g;obtain⟨ac,Q⟩:=Zk R;refine .agg vs ps (by omega) A fun i v c M l=> ?_
   have r:i < cs.length:=by have:=(Zmy.1 M).1;omega
   have s:cs[i]? =some cs[i]:=by simp[r]
   exact ih cs[i] v c (h i v _ M s) (Q i _ c s l) fun id C L b=>hi id (by
    simp only[D.ids,ZmP];exact⟨cs[i],List.getElem_mem _,C⟩) L b
  |ptr id i j L b F an G=>
   simp only[D.toP]at g;split at g
   ·rename_i cs t;split at g;rotate_left;simp at g;rename_i h0;subst h0;simp only[ZmX]at g;obtain⟨ps,R,rfl⟩:=g;obtain⟨ac,Q⟩:=Zk R;obtain⟨L',m,b',E,I,as,af⟩:=ho id _ t (by simp);rw[F]at m;obtain rfl:=ZmY m;rw[G]at E;obtain rfl:=ZmY E;have key:∀(k:Nat) c,ps[k]? =some c->∃u,w.cell? ⟨b,L.base+(j+k),none⟩=some u/\ZbP u/\RelP w S' u c:=by
     intro k c l;have r:k < (cs.drop j).length:=by have:=(ZmI.1 l).1;omega
     have K:j+k < cs.length:=by simp at r;omega
     have hd:(cs.drop j)[k]? =some cs[j+k]:=by simp[ZmG,K]
     obtain⟨u,o,_,A,N⟩:=af (j+k) cs[j+k] (by simp[K]);refine⟨u,o,A,ih cs[j+k] u c N (Q k _ c hd l) fun aj Z L' b'=>hi aj ?_ L' b'⟩;simp only[D.ids,t,ZmN,ZmP];exact .inr ⟨cs[j+k],List.mem_of_getElem? hd,Z⟩
    refine .ptr b _ ps (fun k=>((w.cell? ⟨b,L.base+(j+k),none⟩).getD default)) (hi id (by simp[D.ids]) L b F G) (fun k c l=> ?_) (fun k c l=> ?_) (fun k c l=> ?_)
    ·obtain⟨u,o,_⟩:=key k c l;rw[o];simpa[ZmR]using o
    ·obtain⟨u,o,A,_⟩:=key k c l;simp only[o,ZmW];exact A
    ·obtain⟨u,o,_,A⟩:=key k c l;simp only[o,ZmW];exact A
   ·rename_i sz es fix t;cases g;obtain⟨L',m,I,ah,ak,ag,ap,J,evs,X,z,B⟩:=ho id _ t (by simp);rw[F]at m;obtain rfl:=ZmY m;have V:i < es.length:=by omega
    have ai:es.getD i default=es[i]:=by simp[V]
    rw[ai];have W:=B i es[i] (by simp[V]);have key:∀(k:Nat) c,(es[i].cells.drop j)[k]? =some c->∃u,w.cell? ⟨b,L.base+i*L.sz+j+k,none⟩=some u/\ZbP u/\RelP w S' u c:=by
     intro k c l;rw[ZmG]at l;have r:=(ZmI.1 l).1;have ar:=W.size;have o:(evs i).cells[j+k]? =some (evs i).cells[j+k]:=by simp
     have:=W.cell o l;refine⟨_, ?_,this.2,this.1.mono T U⟩;have:=z b G i (j+k) _ an o;rw[I,<-this];congr 2;omega
    refine .ptr b _ _ (fun k=>((w.cell? ⟨b,L.base+i*L.sz+j+k,none⟩).getD default)) (hi id (by simp[D.ids]) L b F G) (fun k c l=> ?_) (fun k c l=> ?_) (fun k c l=> ?_)
    ·obtain⟨u,o,_⟩:=key k c l;rw[o];simp
    ·obtain⟨u,o,A,_⟩:=key k c l;simp only[o,ZmW];exact A
    ·obtain⟨u,o,_,A⟩:=key k c l;simp only[o,ZmW];exact A
   ·simp at g
  |fn f fs cs a b hf l h h'=>
   simp only[D.toP]at g;split at g;rotate_left;simp at g;rename_i pa pb al aa;cases g;obtain⟨aw,am⟩:=Zk al;obtain⟨av,ae⟩:=Zk aa;refine .fn f fs cs pa pb (by omega) (by omega) (fun i v x M hx=> ?_) (fun i v x M hx=> ?_)
   ·have r:i < a.length:=by have:=(Zmy.1 M).1;omega
    have s:a[i]? =some a[i]:=by simp[r]
    exact ih a[i] v x (h i v _ M s) (am i _ x s hx) fun id C L b=>hi id (by
     simp only[D.ids,ZmM,ZmP];exact .inl ⟨a[i],List.getElem_mem _,C⟩) L b
   ·have r:i < b.length:=by have:=(Zmy.1 M).1;omega
    have s:b[i]? =some b[i]:=by simp[r]
    exact ih b[i] v x (h' i v _ M s) (ae i _ x s hx) fun id C L b=>hi id (by
     simp only[D.ids,ZmM,ZmP];exact .inr ⟨_,List.getElem_mem _,C⟩) L b
  |_=>exact base (n+1) _ _ _ (by simp) (by simp) (by simp) (by constructor<;>assumption) g hi
def ZS (w w':World):Prop:=w'.os=w.os/\w'.output=w.output
theorem ZS.refl (w:World):ZS w w:=⟨rfl,rfl⟩
theorem ZS.trans {w w' a:World} (h:ZS w w') (b:ZS w' a):ZS w a:=⟨b.1.trans h.1,b.2.trans h.2⟩
theorem ZS.setCells (b:Nat) (vs:List Value):∀(o:Nat) (w:World),ZS w (w.setCells b o vs):=by
 induction vs with
 |nil=>exact fun o w=> .refl w
 |cons v r a=>exact fun o w=>ZS.trans (w':=w.setCell ⟨b,o,none⟩ v) ⟨rfl,rfl⟩ (a _ _)
def Zel (w:World) (S:Nat->Prop) (g:Nat) (cs:List P):Prop:=
 RelP w S (.pointer (some ⟨g,0,none⟩)) (.ptr cs)/\∃a t fr,w.heap[g]? =some (.cells a t fr)/\a.size=cs.length
theorem Zel.mono {w w':World} {S S':Nat->Prop} {g:Nat} {cs:List P} (h:Zel w S g cs) (e:Zcy S w w') (j:∀b,S b->S' b):Zel w' S' g cs:=by
 obtain⟨d,a,t,fr,c,i⟩:=h;refine⟨d.mono e j,a,t,fr, ?_,i⟩;have f:S g:=by cases d;assumption
 rw[e g f (ZdS c)];exact c
structure Ctx where
 E:Env
 W:World
 Lt:Nat->Prop
 S0:Nat->Prop
 lays:Nat->Option Lay:=fun _=>none
abbrev Ctx.H (C:Ctx):Array Go.Obj:=C.W.heap
structure Rep (C:Ctx) (X:Nat->Prop) (ρ:Id->Option Lay) (S:Nat->Prop) (st:St) (tm:Array Value) (w:World):Prop where
 nt:tm.size=C.E.nt
 grow:C.H.size<=w.heap.size
 frame:∀b,b < C.H.size->¬C.Lt b->w.heap[b]? =C.H[b]?
 s0:∀b,C.S0 b->S b
 sIn:∀b,S b->b < w.heap.size
 slots:∀k,RelD w S ρ (tm.getD k undef) (st.slots k)
 objs:Objs w S ρ st.objs
 own:∀id o L b,st.objs id=some o->o≠ .gone->ρ id=some L->L.blk=some b->
  b < w.heap.size/\(C.H.size<=b\/C.Lt b)/\(st.fz id=true->S b)/\(st.fz id=false->¬S b)
 inj:∀id o L id' o' L' b,st.objs id=some o->o≠ .gone->ρ id=some L->L.blk=some b->
  st.objs id'=some o'->o'≠ .gone->ρ id'=some L'->L'.blk=some b->id=id'
 known:∀id,st.objs id≠none->ρ id≠none
 young:∀id,ρ id≠none->id.1 < st.ep\/(id.1=st.ep/\X id.2.1)
 fzk:∀id,st.fz id=true->ρ id≠none
 glob:∀g cs,(g,cs)∈C.E.globs->Zel w S g cs
 sOut:∀b,S b->C.S0 b\/C.H.size<=b\/C.Lt b
 ep1:1<=st.ep
 quiet:ZS C.W w
 lay:∀k L,C.lays k=some L->ρ (0,k,0)≠none->ρ (0,k,0)=some L
theorem Zf9 (l:List (Id×Obj)):∀(b:St) (id:Id) (o:Obj),(b.objL l).objs id=some o->(id,o)∈l\/((∀o',(id,o')∉l)/\b.objs id=some o):=by
 induction l with
 |nil=>intro b id o h;exact .inr ⟨by simp,h⟩
 |cons x r e=>
  obtain⟨i,u⟩:=x;intro b id o h;rcases e (b.obj i u) id o h with h |⟨h,c⟩
  ·exact .inl (List.mem_cons_of_mem _ h)
  ·simp only[St.obj,upd]at c;split at c
   ·rename_i d;simp only[ZmZ]at c;subst d c;exact .inl (by simp)
   ·rename_i d;refine .inr ⟨fun o' a=> ?_,c⟩;rcases ZmN.1 a with a |a
    ·simp only[Zm0]at a;exact d a.1
    ·exact h o' a
@[simp] theorem Ziq (l:List (Id×Obj)):∀a:St,(a.objL l).slots=a.slots:=by
 induction l with
 |nil=>intro a;rfl
 |cons x r b=>obtain⟨i,u⟩:=x;intro a;exact b _
@[simp] theorem objL_fz (l:List (Id×Obj)):∀a:St,(a.objL l).fz=a.fz:=by
 induction l with
 |nil=>intro a;rfl
 |cons x r b=>obtain⟨i,u⟩:=x;intro a;exact b _
@[simp] theorem ZlO (l:List (Id×Obj)):∀a:St,(a.objL l).ep=a.ep:=by
 induction l with
 |nil=>intro a;rfl
 |cons x r b=>obtain⟨i,u⟩:=x;intro a;exact b _
@[simp] theorem Zci (l:List Id):∀a:St,(a.freezeL l).slots=a.slots:=by
 induction l with
 |nil=>intro a;rfl
 |cons x r b=>intro a;exact b _
@[simp] theorem ZH (l:List Id):∀a:St,(a.freezeL l).objs=a.objs:=by
 induction l with
 |nil=>intro a;rfl
 |cons x r b=>intro a;exact b _
@[simp] theorem ZeU (l:List Id):∀a:St,(a.freezeL l).ep=a.ep:=by
 induction l with
 |nil=>intro a;rfl
 |cons x r b=>intro a;exact b _
theorem freezeL_fz (l:List Id):∀(a:St) (id:Id),(a.freezeL l).fz id=(l.contains id||a.fz id):=by
 induction l with
 |nil=>intro a id;simp[St.freezeL]
 |cons x r b=>
  intro a id;simp only[St.freezeL,b,St.freeze,upd,List.contains_cons]
  by_cases h:id=x
  ·simp[h]
  ·have:(id == x)=false:=by simpa using h
   simp[h,this]
@[simp] theorem ZfY (a:St) (t:Option Nat) (d:D):(a.setO t d).objs=a.objs:=by cases t<;>rfl
@[simp] theorem setO_fz (a:St) (t:Option Nat) (d:D):(a.setO t d).fz=a.fz:=by cases t<;>rfl
@[simp] theorem setO_ep (a:St) (t:Option Nat) (d:D):(a.setO t d).ep=a.ep:=by cases t<;>rfl
@[simp] theorem Zcv (a:St) (i:Nat) (t:Option Nat) (e:Eff):(a.app i t e).ep=a.ep:=by simp[St.app]
@[simp] theorem Zeg (a:St) (i:Nat) (t:Option Nat) (e:Eff) (id:Id):(a.app i t e).fz id=(e.frz.contains id||a.fz id):=by simp[St.app,freezeL_fz]
theorem ZaK (a:St) (i:Nat) (t:Option Nat) (e:Eff) (k:Nat):(a.app i t e).slots k=if t=some k then e.val else a.slots k:=by
 cases t with
 |none=>simp[St.app,St.setO]
 |some t=>
  simp only[St.app,St.setO,St.set,upd,Zci,Ziq,ZmZ]
  by_cases h:k=t
  ·simp[h]
  ·simp[h,Ne.symm h]
theorem Z3 (a:St) (i:Nat) (t:Option Nat) (e:Eff) (id:Id) (o:Obj) (h:(a.app i t e).objs id=some o):
  (∃k,id=(a.ep,i,k)/\(k,o)∈e.new)\/((id,o)∈e.wr)\/((∀o',(id,o')∉e.wr)/\a.objs id=some o):=by
 simp only[St.app,ZfY,ZH]at h;rcases Zf9 _ _ _ _ h with h |⟨_,h⟩
 ·obtain⟨⟨k,u⟩,c,b⟩:=List.mem_map.1 h;simp only[Zm0]at b;obtain⟨rfl,rfl⟩:=b;exact .inl ⟨k,rfl,c⟩
 ·exact .inr (Zf9 _ _ _ _ h)
theorem ZhV (a:Act) (t:Option Nat) (v:Value) (k:Nat) (h:∀d,t=some d->d < a.tmps.size):
  (a.put t v).tmps.getD k undef=if t=some k then v else a.tmps.getD k undef:=by
 cases t with
 |none=>simp[Act.put]
 |some d=>
  have b:=h d rfl
  by_cases hk:d=k
  ·subst hk;simp[Act.put,b]
  ·simp[Act.put,hk]
theorem Rep.step {C:Ctx} {X:Nat->Prop} {ρ:Id->Option Lay} {S:Nat->Prop} {m:St} {a:Act} {w:World} (h:Rep C X ρ S m a.tmps w)
  {i:Nat} {t:Option Nat} {e:Eff} {v:Value} {w':World} (ρ':Id->Option Lay)
  (hi:¬X i) (ht:∀d,t=some d->d < C.E.nt)
  (a2:w.heap.size<=w'.heap.size) (hq:ZS w w')
  (Y:∀b,b < w.heap.size->(∀id o L,(id,o)∈e.wr->ρ id=some L->L.blk≠some b)->w'.heap[b]? =w.heap[b]?)
  (wr:∀id o,(id,o)∈e.wr->m.fz id=false/\∃o',m.objs id=some o'/\o'≠ .gone)
  (G:∀id L,ρ id=some L->ρ' id=some L)
  (ag:∀id,ρ' id≠none->ρ id≠none\/(id.1=m.ep/\id.2.1=i))
  (frz:∀id,id∈e.frz->ρ id≠none/\∀o',(id,o')∉e.wr)
  (O:∀k o,(k,o)∈e.new->∃L,ρ' (m.ep,i,k)=some L/\(∀b,L.blk=some b->
   (w.heap.size<=b\/∃id o' L',(id,Obj.gone)∈e.wr/\m.objs id=some o'/\o'≠ .gone/\ρ id=some L'/\L'.blk=some b/\(∀J,(id,J)∈e.wr->J= .gone))/\b < w'.heap.size)/\
   ∀S',(∀b,S b->S' b)->(∀id,id∈e.frz->∀o L b,m.objs id=some o->o≠ .gone->ρ id=some L->L.blk=some b->S' b)->o≠ .gone->ZB w' S' ρ' L o)
  (al:∀k o L k' o' L' b,(k,o)∈e.new->o≠ .gone->ρ' (m.ep,i,k)=some L->L.blk=some b->(k',o')∈e.new->o'≠ .gone->ρ' (m.ep,i,k')=some L'->L'.blk=some b->k=k')
  (aa:∀id o L,(id,o)∈e.wr->o≠ .gone->ρ id=some L->∀S',(∀b,S b->S' b)->(∀id,id∈e.frz->∀o L b,m.objs id=some o->o≠ .gone->ρ id=some L->L.blk=some b->S' b)->ZB w' S' ρ' L o)
  (ay:∀S',(∀b,S b->S' b)->(∀id,id∈e.frz->∀o L b,m.objs id=some o->o≠ .gone->ρ id=some L->L.blk=some b->S' b)->(∀d,t=some d->RelD w' S' ρ' v e.val)):
  ∃S',Rep C (fun j=>X j\/j=i) ρ' S' (m.app i t e) (a.put t v).tmps w':=by
 let S':Nat->Prop:=fun b=>S b\/∃id o L,id∈e.frz/\m.objs id=some o/\o≠ .gone/\ρ id=some L/\L.blk=some b
 have P:∀b,S b->S' b:=fun b A=> .inl A
 have ap:∀b,S b->∀id o L,(id,o)∈e.wr->ρ id=some L->L.blk≠some b:=fun b A id o L r n f=>by obtain⟨B,o',l,u⟩:=wr id o r;exact((h.own id o' L b l u n f).2.2.2 B) A
 have kp:Zcy S w w':=fun b A _=>Y b (h.sIn b A) (ap b A)
 have a1:∀k,m.objs (m.ep,i,k)=none:=fun k=>by
  cases s:m.objs (m.ep,i,k)with
  |none=>rfl
  |some o=>
   have:=h.young _ (h.known (m.ep,i,k) (by simp[s]));simp[hi]at this
 have au:∀id o L,m.objs id=some o->o≠ .gone->(∀o',(id,o')∉e.wr)->ρ id=some L->∀b,L.blk=some b->w'.heap[b]? =w.heap[b]? :=by
  intro id o L x u ab n b A;refine Y b (h.own id o L b x u n A).1 fun c o' L' r q K=> ?_
  obtain⟨_,J,ao,aq⟩:=wr c o' r;have:=h.inj id o L c J L' b x u n A ao aq q K;subst this;exact ab o' r
 have I:∀id L,ρ id≠none->ρ' id=some L->ρ id=some L:=fun id L hn n=>by
  cases s:ρ id with
  |none=>exact absurd s hn
  |some L0=>have:=G id L0 s;rw[n]at this;rw[this]
 have Z:∀k,ρ (m.ep,i,k)=none:=fun k=>by
  cases s:ρ (m.ep,i,k)with
  |none=>rfl
  |some L=>have:=h.young (m.ep,i,k) (by simp[s]);simp[hi]at this
 have W:∀id o L c o' L' b,m.objs id=some o->o≠ .gone->ρ id=some L->L.blk=some b->m.objs c=some o'->o'≠ .gone->ρ c=some L'->L'.blk=some b->id=c:=h.inj;refine⟨S',⟨?_,by have:=h.grow;omega, ?_,fun b A=> .inl (h.s0 b A), ?_, ?_, ?_, ?_, ?_, ?_, ?_, ?_,fun g cs r=>(h.glob g cs r).mono kp P, ?_,by rw[Zcv];exact h.ep1,h.quiet.trans hq, ?_⟩⟩
 ·rw[<-h.nt];cases t<;>simp[Act.put]
 ·intro b A hl;rw[<-h.frame b A hl];refine Y b (by have:=h.grow;omega) fun id o L r n f=> ?_
  obtain⟨_,o',l,u⟩:=wr id o r;rcases(h.own id o' L b l u n f).2.1 with T |T
  ·omega
  ·exact hl T
 ·intro b A;rcases A with A |⟨id,o,L,r,x,u,n,f⟩
  ·have:=h.sIn b A;omega
  ·have:=(h.own id o L b x u n f).1;omega
 ·intro k;rw[ZaK,ZhV a t v k (fun d hd=>by rw[h.nt];exact ht d hd)]
  by_cases hk:t=some k
  ·simp only[hk,if_true];exact ay S' P (fun id r o L b x u n f=> .inr ⟨id,o,L,r,x,u,n,f⟩) k hk
  ·simp only[hk,if_false];exact(h.slots k).mono kp P G
 ·intro id o x u;rcases Z3 m i t e id o x with ⟨k,rfl,r⟩ |r |⟨ab,x⟩
  ·obtain⟨L,n,_,hr⟩:=O k o r;exact⟨L,n,hr S' P (fun id r o L b x u n f=> .inr ⟨id,o,L,r,x,u,n,f⟩) u⟩
  ·obtain⟨_,o',l,p⟩:=wr id o r;obtain⟨L,n,_⟩:=h.objs id o' l p;exact⟨L,G _ _ n,aa id o L r u n S' P (fun id r o L b x u n f=> .inr ⟨id,o,L,r,x,u,n,f⟩)⟩
  ·obtain⟨L,n,hr⟩:=h.objs id o x u;exact⟨L,G _ _ n,hr.mono kp P G (au id o L x u ab n)⟩
 ·intro id o L b x u n f;rw[Zeg];rcases Z3 m i t e id o x with ⟨k,rfl,r⟩ |r |⟨ab,x⟩
  ·obtain⟨L',q,A,_⟩:=O k o r;rw[n]at q;obtain rfl:=ZmY q;obtain⟨M,am⟩:=A b f;have aw:m.fz (m.ep,i,k)=false:=by
    cases s:m.fz (m.ep,i,k)with
    |false=>rfl
    |true=>exact absurd (Z k) (h.fzk _ s)
   have ac:(m.ep,i,k)∉e.frz:=fun z=>(frz _ z).1 (Z k)
   have an:¬S' b:=by
    rintro(hS |⟨ah,R,L1,V,y,D,H,Q⟩)
    ·rcases M with M |⟨c,o',L',z,l,p,q,K,_⟩
     ·have:=h.sIn b hS;omega
     ·exact(h.own c o' L' b l p q K).2.2.2 (wr _ _ z).1 hS
    ·rcases M with M |⟨c,o',L',z,l,p,q,K,_⟩
     ·have:=(h.own ah R L1 b y D H Q).1;omega
     ·have:=W _ _ _ _ _ _ _ y D H Q l p q K;subst this;exact(frz _ V).2 _ z
   refine⟨am, ?_,fun B=> ?_,fun _=>an⟩
   ·rcases M with M |⟨c,o',L',z,l,p,q,K,_⟩
    ·have:=h.grow;exact .inl (by omega)
    ·exact(h.own c o' L' b l p q K).2.1
   ·simp[aw,ac]at B
  ·obtain⟨as,o',l,p⟩:=wr id o r;have F:=I id L (h.known id (by simp[l])) n;obtain⟨T,h2,h3,h4⟩:=h.own id o' L b l p F f;have ac:id∉e.frz:=fun z=>(frz _ z).2 _ r
   refine⟨by omega,h2,fun B=>by simp[as,ac]at B,fun _=> ?_⟩;rintro(hS |⟨ah,R,L1,V,y,D,H,Q⟩)
   ·exact h4 as hS
   ·have:=W _ _ _ _ _ _ _ y D H Q l p F f;subst this;exact ac V
  ·have F:=I id L (h.known id (by simp[x])) n;obtain⟨T,h2,h3,h4⟩:=h.own id o L b x u F f;refine⟨by omega,h2,fun B=> ?_,fun B=> ?_⟩
   ·simp only[Bool.or_eq_true,List.contains_iff_mem]at B;rcases B with B |B
    ·exact .inr ⟨id,o,L,B,x,u,F,f⟩
    ·exact .inl (h3 B)
   ·simp only[Bool.or_eq_false_iff]at B;rintro(hS |⟨ah,R,L1,V,y,D,H,Q⟩)
    ·exact h4 B.2 hS
    ·have:=W _ _ _ _ _ _ _ y D H Q x u F f;subst this;have:=B.1;simp[V]at this
 ·
  have N:∀k o L c o' L' b,(k,o)∈e.new->o≠ .gone->ρ' (m.ep,i,k)=some L->L.blk=some b->(m.app i t e).objs c=some o'->o'≠ .gone->
    ((c,o')∈e.wr\/((∀J,(c,J)∉e.wr)/\m.objs c=some o'))->ρ' c=some L'->L'.blk=some b->False:=by
   intro k o L c o' L' b r u n f _ p U q E;obtain⟨L0,F,A,_⟩:=O k o r;rw[n]at F;obtain rfl:=ZmY F;have ai:∃R,m.objs c=some R/\R≠ .gone:=by
    rcases U with s |s
    ·exact(wr _ _ s).2
    ·exact⟨o',s.2,p⟩
   obtain⟨R,y,D⟩:=ai;have H:=I c L' (h.known c (by simp[y])) q;rcases(A b f).1 with M |⟨a3,o2,L2,ax,ae,ak,az,av,ar⟩
   ·have:=(h.own c R L' b y D H E).1;omega
   ·have:=W _ _ _ _ _ _ _ y D H E ae ak az av;subst this;rcases U with s |s
    ·exact p (ar _ s)
    ·exact s.1 _ ax
  intro id o L c o' L' b x u n f l p q E;rcases Z3 m i t e id o x with ⟨k,rfl,r⟩ |s
  ·rcases Z3 m i t e c o' l with ⟨k',rfl,z⟩ |aj
   ·rw[al k o L k' o' L' b r u n f z p q E]
   ·exact(N k o L c o' L' b r u n f l p aj q E).elim
  ·rcases Z3 m i t e c o' l with ⟨k',rfl,z⟩ |aj
   ·exact(N k' o' L' id o L b z p q E x u s n f).elim
   ·have af:∀id o,o≠ .gone->((id,o)∈e.wr\/((∀J,(id,J)∉e.wr)/\m.objs id=some o))->∃R,m.objs id=some R/\R≠ .gone:=by
     intro id o u s;rcases s with s |s
     ·exact(wr _ _ s).2
     ·exact⟨o,s.2,u⟩
    obtain⟨R,y,D⟩:=af id o u s;obtain⟨o2,ae,ak⟩:=af c o' p aj;exact W _ _ _ _ _ _ _ y D (I id L (h.known id (by simp[y])) n) f ae ak (I c L' (h.known c (by simp[ae])) q) E
 ·intro id hn;cases x:(m.app i t e).objs id with
  |none=>exact absurd x hn
  |some o=>
   rcases Z3 m i t e id o x with ⟨k,rfl,r⟩ |r |⟨_,x⟩
   ·obtain⟨L,n,_⟩:=O k o r;simp[n]
   ·obtain⟨_,o',l,_⟩:=wr id o r;have:=h.known id (by simp[l]);cases s:ρ id with
    |none=>exact absurd s this
    |some L=>simp[G _ _ s]
   ·have:=h.known id (by simp[x]);cases s:ρ id with
    |none=>exact absurd s this
    |some L=>simp[G _ _ s]
 ·intro id hn;rw[Zcv];rcases ag id hn with T |⟨T,h2⟩
  ·rcases h.young id T with h2 |⟨h2,h3⟩
   ·exact .inl h2
   ·exact .inr ⟨h2,.inl h3⟩
  ·exact .inr ⟨T,.inr h2⟩
 ·intro id B;rw[Zeg]at B;simp only[Bool.or_eq_true,List.contains_iff_mem]at B;have:ρ id≠none:=by
   rcases B with B |B
   ·exact(frz id B).1
   ·exact h.fzk id B
  cases s:ρ id with
  |none=>exact absurd s this
  |some L=>simp[G _ _ s]
 ·intro b A;rcases A with A |⟨id,o,L,r,x,u,n,f⟩
  ·exact h.sOut b A
  ·exact .inr (h.own id o L b x u n f).2.1
 ·intro k L hk hn;rcases ag _ hn with T |⟨T,_⟩
  ·exact G _ _ (h.lay k L hk T)
  ·have:=h.ep1;simp only at T;omega
end Eng
namespace Eng
open Go
def Zau:TypeDesc->TD->Bool
 | .bool,.bool=>true
 | .int k,.int k'=>k == k'
 | .string,.str=>true
 | .slice e,.sl e'=>e == e'
 | .array n e,.arr n' e'=>n == n'&&e == e'
 | .pointer e,.ptr e'=>e == e'
 | .map k e,.map k' e'=>k == k'&&e == e'
 | .struct fs,.struct gs=>fs.toList.map (fun f=>(f.offset,f.type)) == gs&&fs.all (fun f=>f.name != "_")
 | .func _ _ _,.func=>true
 | .tuple _,.tup=>true
 |_,_=>false
def zOk:Value->Z->Bool
 | .bool false,.p (.bool false)=>true
 | .int k n,.p (.int k' m)=>k == k'&&n == 0&&m == 0
 | .string s,.p (.str [])=>s.data.size == 0
 | .slice none 0 0,.nils _=>true
 | .pointer none,.p .nilp=>true
 | .map none,.p (.map _ [])=>true
 | .nilFunc,.p .nilfn=>true
 |_,_=>false
def Zlq:List Value->List Z->Bool
 | [],[]=>true
 |v::vs,z::zs=>zOk v z&&Zlq vs zs
 |_,_=>false
def tiOk (p:Program) (t:Nat) (ti:TI):Bool:=
 match p.info? t,p.underlying t with
 |some i,some d=>i.size == ti.size&&i.bytes == ti.bytes&&Zau d ti.d&&(match ti.d with | .struct fs=> !p.stoodInHeld t&& !p.eqGuardType p.depth t&&fs.all (fun f=>(p.info? f.2).isSome) | .arr _ a=>(p.info? a).isSome |_=>true)&&
  (match i.zero with
   |some z=>Zlq z.cells.toList ti.zero&&(if ti.isAgg then (match z with | .agg _=>true |_=>false)else (match z with | .agg _=>false |_=>ti.zero.length == 1))&&ti.zero.length == ti.size
   |none=>false)
 |_,_=>false
def Zjb (p:Program):Nat->List (Option TI)->Bool
 |_,[]=>true
 |t,none::r=>Zjb p (t+1) r
 |t,some ti::r=>tiOk p t ti&&Zjb p (t+1) r
structure Zl (E:Env):Prop where
 tys:Zjb E.prog 0 E.tys=true
theorem Zds {p:Program}:∀{l:List (Option TI)} {n t:Nat} {ti:TI},Zjb p n l=true->l[t]? =some (some ti)->tiOk p (n+t) ti=true
 | [],n,t,ti,_,h=>by simp at h
 |none::r,n,t,ti,h,hg=>by
  cases t with
  |zero=>simp at hg
  |succ t=>simp only[List.getElem?_cons_succ]at hg;have:=Zds (n:=n+1) h hg;rwa [ZmR,Nat.add_comm 1]at this
 |some x::r,n,t,ti,h,hg=>by
  simp only[Zjb,ZmC]at h;cases t with
  |zero=>simp at hg;subst hg;exact h.1
  |succ t=>simp only[List.getElem?_cons_succ]at hg;have:=Zds (n:=n+1) h.2 hg;rwa [ZmR,Nat.add_comm 1]at this
theorem Zl.ti {E:Env} (h:Zl E) {t:Nat} {ti:TI} (a:E.ty t=some ti):tiOk E.prog t ti=true:=by
 unfold Env.ty at a;split at a;rotate_left;simp at a;rename_i i hi;cases a;have:=Zds h.tys hi
 rwa [Nat.zero_add]at this
structure TIs (p:Program) (t:Nat) (ti:TI) (i:TypeInfo) (d:TypeDesc) (z:Value):Prop where
 info:p.info? t=some i
 und:p.underlying t=some d
 size:i.size=ti.size
 bytes:i.bytes=ti.bytes
 td:Zau d ti.d=true
 eq:(match ti.d with | .struct fs=> !p.stoodInHeld t&& !p.eqGuardType p.depth t&&fs.all (fun f=>(p.info? f.2).isSome) | .arr _ el=>(p.info? el).isSome |_=>true)=true
 zero:i.zero=some z
 zs:Zlq z.cells.toList ti.zero=true
 zl:ti.zero.length=ti.size
 agg:ti.isAgg=true->∃cs,z= .agg cs
 flat:ti.isAgg=false->z.cells= #[z]/\ti.zero.length=1
theorem Zl.is {E:Env} (h:Zl E) {t:Nat} {ti:TI} (n:E.ty t=some ti):∃i d z,TIs E.prog t ti i d z:=by
 have b:=h.ti n;unfold tiOk at b;split at b;rotate_left;simp at b;rename_i i d hi k;simp only[ZmC,beq_iff_eq]at b;obtain⟨⟨⟨⟨l,m⟩,o⟩,e⟩,c⟩:=b;split at c;rotate_left;simp at c;rename_i z j;simp only[ZmC,beq_iff_eq]at c;obtain⟨⟨g,a⟩,p⟩:=c;refine⟨i,d,z,⟨hi,k,l,m,o,e,j,g,p,fun f=> ?_,fun f=> ?_⟩⟩
 ·rw[f]at a;cases z<;>simp at a;exact⟨_,rfl⟩
 ·rw[f]at a;cases z<;>simp at a<;>exact⟨rfl,a⟩
theorem Za {P:Program} {t:TypeId} {d:TypeDesc} (h:P.underlying t=some d) (w:World):(underlying t).run P w= .ok d w:=run_underlying h w
theorem Zy {P:Program} {t:TypeId} {i:TypeInfo} (h:P.info? t=some i) (w:World):(typeInfo t).run P w= .ok i w:=by simp[typeInfo,h]
theorem Za0 {P:Program} {t:TypeId} {i:TypeInfo} (h:P.info? t=some i) (w:World):(Go.sizeOf t).run P w= .ok i.size w:=by simp[Go.sizeOf,Zy h]
theorem Z1 {P:Program} {t:TypeId} {i:TypeInfo} {z:Value} (h:P.info? t=some i) (a:i.zero=some z) (w:World):(zeroValue t).run P w= .ok z w:=by simp[zeroValue,Zy h,a]
theorem TIs.isAgg {p:Program} {t:Nat} {ti:TI} {i:TypeInfo} {d:TypeDesc} {z:Value} (h:TIs p t ti i d z) (w:World):(Go.isAgg t).run p w= .ok ti.isAgg w:=by have:=h.td;unfold Go.isAgg;rw[Sem.run_bind,Za h.und w];cases d<;>cases hd:ti.d<;>simp[hd,Zau]at this<;>simp[TI.isAgg,hd]
theorem Zlr {w:World} {S:Nat->Prop} {ρ:Id->Option Lay} {v:Value} {z:Z} (h:zOk v z=true):RelD w S ρ v z.toD/\ZbP v:=by
 unfold zOk at h;split at h
 ·exact⟨.p _ _ (.bool false),rfl⟩
 ·rename_i k n a m;simp only[ZmC,beq_iff_eq]at h;obtain⟨⟨rfl,rfl⟩,rfl⟩:=h;refine⟨.p _ _ (.int _ _ ?_ ?_),rfl⟩<;>cases k<;>decide
 ·rename_i s;obtain⟨⟨l⟩⟩:=s;simp at h;subst h;exact⟨.p _ _ (.str [] (by simp)),rfl⟩
 ·exact⟨.nils _,rfl⟩
 ·exact⟨.p _ _ .nilp,rfl⟩
 ·exact⟨.p _ _ (.nilmap _),rfl⟩
 ·exact⟨.p _ _ .nilfn,rfl⟩
 ·simp at h
theorem Zdg:∀{vs:List Value} {e:List Z},Zlq vs e=true->vs.length=e.length/\∀(i:Nat) v z,vs[i]? =some v->e[i]? =some z->zOk v z=true
 | [],[],_=>⟨rfl,by simp⟩
 | [],_::_,h=>by simp[Zlq]at h
 |_::_,[],h=>by simp[Zlq]at h
 |v::vs,z::e,h=>by
  simp only[Zlq,ZmC]at h;obtain⟨f,hi⟩:=Zdg h.2;refine⟨by simp[f],fun i a b c d=> ?_⟩;cases i with
  |zero=>simp at c d;subst c d;exact h.1
  |succ i=>simp at c d;exact hi i a b c d
theorem ZlM {w:World} {S:Nat->Prop} {ρ:Id->Option Lay} (sz:Nat) (td:TD) {v:Value} (h:Zz (.const v)=true):RelD w S ρ v (D.ofV sz td v):=by
 unfold D.ofV;split
 ·exact .p _ _ (.bool _)
 ·simp[Zz]at h;exact .p _ _ (.int _ _ h.1 h.2)
 ·rename_i s;obtain⟨⟨l⟩⟩:=s;simp[Zz]at h;exact .p _ _ (.str l h)
 ·exact .nils sz
 ·exact .p _ _ .nilp
 ·exact .p _ _ (.nilmap _)
 ·exact .p _ _ .nilfn
 ·exact .dead v
theorem Zj {C:Ctx} {X:Nat->Prop} {ρ:Id->Option Lay} {S:Nat->Prop} {c:St} {a:Act} {w:World} (h:Rep C X ρ S c a.tmps w) (t:Nat) {x:Operand} (i:Zz x=true):
  RelD w S ρ (a.eval x) (ev C.E c.slots t x):=by
 cases x with
 |tmp k=>exact h.slots k
 |const v=>exact ZlM _ _ i
 |global g=>
  simp only[Act.eval,ev,Env.glob];split
  ·rename_i x b;have d:=List.find?_some b;have e:=List.mem_of_find?_eq_some b;simp only[beq_iff_eq]at d;subst d;exact .p _ _ (h.glob _ _ e).1
  ·exact .dead _
 |func f=>exact .p _ _ (.fn f #[] #[] [] [] rfl rfl (by simp) (by simp))
end Eng
namespace Eng
open Go
section
variable {C:Ctx} {X:Nat->Prop} {ρ:Id->Option Lay} {S:Nat->Prop} {st:St} {a:Act} {w:World} {i:Nat} {o:Oper} {e:Eff}
def Zu (C:Ctx) (X:Nat->Prop) (b:St) (a:Act) (w:World) (i:Nat) (o:Oper) (e:Eff):Prop:=
 ∃n v w',(execOp a.eval o).run C.E.prog w= .ok n w'/\(n= .value v\/(n= .skip/\v=undef))/\
  ∃ρ' S',Rep C (fun j=>X j\/j=i) ρ' S' (b.app i o.dst e) (a.put o.dst v).tmps w'
theorem Zu.frz (h:Rep C X ρ S st a.tmps w) (hi:¬X i) (m:∀d,o.dst=some d->d < C.E.nt) {v:Value} (c:(execOp a.eval o).run C.E.prog w= .ok (.value v) w)
  (g:e.new=[]) (hw:e.wr=[]) (j:∀id,id∈e.frz->ρ id≠none)
  (n:∀S',(∀b,S b->S' b)->(∀id,id∈e.frz->∀o L b,st.objs id=some o->o≠ .gone->ρ id=some L->L.blk=some b->S' b)->RelD w S' ρ v e.val):Zu C X st a w i o e:=
 ⟨_,v,w,c,.inl rfl,ρ,h.step ρ hi m (ZmT _) (ZS.refl _) (fun _ _ _=>rfl) (by simp[hw]) (fun _ _ h=>h) (fun id h=> .inl h) (fun id f=>⟨j id f,by simp[hw]⟩)
  (by simp[g]) (by simp[g]) (by simp[hw]) (fun S' l k _ _=>n S' l k)⟩
theorem Zu.quiet (h:Rep C X ρ S st a.tmps w) (hi:¬X i) (j:∀d,o.dst=some d->d < C.E.nt) {v:Value} (b:(execOp a.eval o).run C.E.prog w= .ok (.value v) w)
  (c:e.new=[]) (hw:e.wr=[]) (f:e.frz=[]) (k:RelD w S ρ v e.val):Zu C X st a w i o e:=
 Zu.frz h hi j b c hw (by simp[f]) fun _ g _=>k.mono (fun _ _ _=>rfl) g fun _ _ h=>h
theorem RelD.of_p {v:Value} {x:P} (h:RelD w S ρ v (.p x)):RelP w S v x:=by cases h;assumption
theorem RelP.bool_inv {v:Value} {b:Bool} (h:RelP w S v (.bool b)):v= .bool b:=by cases h;rfl
theorem RelP.int_inv {v:Value} {k:IntKind} {n:Int} (h:RelP w S v (.int k n)):v= .int k n/\k.min<=n/\n<=k.max:=by cases h;exact⟨rfl, ‹_›, ‹_›⟩
theorem RelP.str_inv {v:Value} {s:List UInt8} (h:RelP w S v (.str s)):v= .string ⟨s.toArray⟩/\s.length<=Zq:=by cases h;exact⟨rfl, ‹_›⟩
theorem ZaY (k:IntKind) (n:Int):k.min<=k.wrap n/\k.wrap n<=k.max:=by
 unfold IntKind.wrap;cases k<;>simp only[IntKind.min,IntKind.max,IntKind.bits,IntKind.signed,Bool.true_and,Bool.false_and,ZmD,if_true,if_false]<;>
  first
   |omega
   |(split<;>rename_i a<;>simp only[ge_iff_le,decide_eq_true_eq,Nat.reduceSub]at a<;>omega)
theorem Zls (k:IntKind) (n:Int) (b:k.min<=n) (c:n<=k.max):k.wrap n=n:=by
 unfold IntKind.wrap;cases k<;>simp only[IntKind.min,IntKind.max,IntKind.bits,IntKind.signed,Bool.true_and,Bool.false_and,ZmD,if_true,if_false]at* <;>
  first
   |omega
   |(split<;>rename_i a<;>simp only[ge_iff_le,decide_eq_true_eq,Nat.reduceSub]at a<;>omega)
theorem ZfP (l:List UInt8):(ByteArray.mk l.toArray).toList=l:=by rw[ByteArray.toList_eq]
variable (h:Rep C X ρ S st a.tmps w) (hi:¬X i) (ht:∀d,o.dst=some d->d < C.E.nt) (hlit:o.op.operands.all Zz=true) (hE:Zl C.E)
include h hi ht hlit
theorem ZjY {x:Operand} (c:o.op= .move x) (b:Zd C.E st.ep i o.op o.type st.slots st.objs=some e):Zu C X st a w i o e:=by rw[c]at b hlit;simp only[Zd,ZmZ]at b;subst b;exact Zu.quiet h hi ht (by simp[execOp,c]) rfl rfl rfl (Zj h _ (by simpa[Op.operands]using hlit))
theorem ZjW {c x y:Operand} (g:o.op= .pick c x y) (d:Zd C.E st.ep i o.op o.type st.slots st.objs=some e):Zu C X st a w i o e:=by rw[g]at d hlit;simp[Op.operands]at hlit;have f:=Zj h o.type hlit.1;have l:=Zj h o.type hlit.2.1;have m:=Zj h o.type hlit.2.2;simp only[Zd]at d;split at d;rotate_left;simp at d;rename_i b j;cases d;rw[j]at f;have k:=f.of_p.bool_inv;refine Zu.quiet h hi ht (v:=if b then a.eval x else a.eval y) (by simp[execOp,g,asBool,k]) rfl rfl rfl ?_;cases b<;>simpa
theorem ZfC {x:Operand} (c:o.op= .nilCheck x) (d:Zd C.E st.ep i o.op o.type st.slots st.objs=some e):Zu C X st a w i o e:=by
 rw[c]at d hlit;simp[Op.operands]at hlit;have b:=Zj h 0 hlit;simp only[Zd]at d;split at d<;>simp only[ZmZ,reduceCtorEq]at d
 all_goals
  subst d;rename_i f;rw[f]at b;refine Zu.quiet h hi ht (v:=a.eval x) ?_ rfl rfl rfl b;generalize hv:a.eval x=v at b
 ·cases b with |p _ _ b=>cases b;simp[execOp,c,hv]
 ·cases b;simp[execOp,c,hv]
 ·cases b with |p _ _ b=>cases b;simp[execOp,c,hv]
 ·cases b;simp[execOp,c,hv]
theorem Zgv {x:Operand} {n:Nat} (k:o.op= .extract x n) (b:Zd C.E st.ep i o.op o.type st.slots st.objs=some e):Zu C X st a w i o e:=by
 rw[k]at b hlit;simp[Op.operands]at hlit;have f:=Zj h 0 hlit;simp only[Zd]at b;split at b;rotate_left;simp at b;rename_i vs g;rw[g]at f;simp only[ZmX]at b;obtain⟨d,j,rfl⟩:=b;cases hv:a.eval x<;>rw[hv]at f<;>cases f;rename_i us l m;have c:n < us.size:=by rw[l];exact(ZmI.1 j).1
 refine Zu.quiet h hi ht (v:=us[n]) (by simp[execOp,k,hv,Instr.extract,c]) rfl rfl rfl (m n _ d (by simp[c]) j)
theorem ZfD {f:Fn} {fs cs:Array Operand} (t:o.op= .makeFunc f fs cs) (q:Zd C.E st.ep i o.op o.type st.slots st.objs=some e):Zu C X st a w i o e:=by
 rw[t]at q hlit;cases f<;>simp only[Zd,ZmZ,reduceCtorEq]at q;rename_i f;subst q;simp[Op.operands]at hlit;have key:∀(xs:Array Operand),(∀x∈xs,Zz x=true)->∀(k:Nat) v d,(xs.map a.eval)[k]? =some v->(xs.toList.map (ev C.E st.slots 0))[k]? =some d->RelD w S ρ v d:=by
  intro xs b k v d c r;have m:k < xs.size:=by have:=(Zmy.1 c).1;simpa using this
  simp[m]at c r;subst c r;exact Zj h 0 (b _ (by simp))
 refine Zu.quiet h hi ht (v:= .func (.func f) (fs.map a.eval) (cs.map a.eval)) (by simp[execOp,t,Instr.makeFunc]) rfl rfl rfl ?_;have k1:=key fs (fun x b=>by obtain⟨j,n,rfl⟩:=ZmA.1 b;exact hlit.1 j n);have p:=key cs (fun x b=>by obtain⟨j,n,rfl⟩:=ZmA.1 b;exact hlit.2 j n);dsimp only;split
 ·rename_i pa u l g;rw[Zt l]at k1;rw[Zt g]at p;have s:=congrArg List.length (Zt l);have lb:=congrArg List.length (Zt g);simp at s lb;exact .p _ _ (.fn f _ _ pa u (by simpa using s) (by simpa using lb) (fun k v x c b=>(k1 k v _ c (by simp[b])).of_p) (fun k v x c b=>(p k v _ c (by simp[b])).of_p))
 ·exact .fn f _ _ _ _ (by simp) (by simp) k1 p
omit h hi ht hlit in
theorem Zdn {op:BinOp} {k:IntKind} {x y n:Int} (hb:ZfH op k x y=some n):k.min<=n/\n<=k.max:=by
 unfold ZfH at hb
 cases op<;>simp at hb<;>subst hb<;>exact ZaY k _
omit h hi ht hlit in
theorem kind0 (k:IntKind):k.min<=0/\0<=k.max:=by cases k<;>decide
omit h hi ht hlit in
theorem Zle (n:Nat) (y:Int):0<=((n:Int)).tmod y/\((n:Int)).tmod y<=n:=by
 obtain⟨m,rfl |rfl⟩:∃m:Nat,y=m\/y= -(m:Int):=⟨y.natAbs,by omega⟩
 ·have:=Nat.mod_le n m
  have e:((n:Int)).tmod (m:Int)=((n % m:Nat):Int):=rfl
  omega
 ·have:=Nat.mod_le n m
  have e:((n:Int)).tmod (-(m:Int))=((n % m:Nat):Int):=by rw[Int.tmod_neg];rfl
  omega
omit h hi ht hlit in
theorem ZeB (k:IntKind) (x y:Int) (h0:k.min<=x) (h1:x<=k.max):k.min<=x.tmod y/\x.tmod y<=k.max:=by
 have hm:=kind0 k
 by_cases hx:0<=x
 ·obtain⟨n,rfl⟩:=Int.eq_ofNat_of_zero_le hx
  have:=Zle n y
  omega
 ·obtain⟨n,rfl⟩:∃n:Nat,x= -(n:Int):=⟨x.natAbs,by omega⟩
  rw[Int.neg_tmod]
  have:=Zle n y
  omega
omit h hi ht hlit in
theorem ZeW (k:IntKind) (x:Int) (m:Nat) (h0:k.min<=x) (h1:x<=k.max):k.min<=x.fdiv (2 ^ m)/\x.fdiv (2 ^ m)<=k.max:=by
 have hm:=kind0 k
 have hp:(0:Int) < 2 ^ m:=Int.pow_pos (by decide)
 rw[Int.fdiv_eq_ediv_of_nonneg _ (by omega)]
 by_cases hx:0<=x
 ·have:=Int.ediv_nonneg hx (by omega:(0:Int)<=2 ^ m)
  have:=Int.ediv_le_self (2 ^ m) hx
  omega
 ·have h2:x / 2 ^ m < 0:=Int.ediv_neg_of_neg_of_pos (by omega) hp
  have h3:x<=x / 2 ^ m:=by
   refine Int.le_ediv_of_mul_le hp ?_
   obtain⟨d,hd⟩:=Int.eq_ofNat_of_zero_le (by omega:0<=(2:Int) ^ m - 1)
   have e:(2:Int) ^ m=1+d:=by omega
   rw[e,Int.mul_add,Int.mul_one]
   have:=Int.mul_nonpos_of_nonpos_of_nonneg (by omega:x<=0) (by omega:(0:Int)<=d)
   omega
  omega
omit h hi ht hlit in
theorem Zax (k:IntKind) (n:Int) (hc:∀q∈(Zay k n).2,q=true):RelP w S (.int k (k.wrap n)) (Zay k n).1:=by
 have gen:RelP w S (.int k (k.wrap n)) (.int k (k.wrap n)):= .int k _ (ZaY k n).1 (ZaY k n).2
 cases k<;>first
  |exact gen
  |(have hc:=of_decide_eq_true (hc (decide (IntKind.i64.min<=n/\n<=IntKind.i64.max)) (by simp[Zay]));rw[Zls _ n hc.1 hc.2];exact .int _ n hc.1 hc.2)
omit h hi ht hlit in
theorem ZjN {op:BinOp} {k:IntKind} {x y:Int} {z:P} {c:List Bool} (hx:k.min<=x/\x<=k.max) (hz:ZlZ op k x y=some (z,c))
  (hc:∀q∈c,q=true) (P:Program) (t:TypeId) (w:World):
  ∃v,(Go.binOp op t (.int k x) (.int k y)).run P w= .ok v w/\RelP w S v z:=by
 have rb:∀b:Bool,RelP w S (.bool b) (.bool b):=fun b=> .bool b
 have bits:∀n,ZfH op k x y=some n->z= .int k n->(op= .and\/op= .or\/op= .xor\/op= .andNot)->∃v,(Go.binOp op t (.int k x) (.int k y)).run P w= .ok v w/\RelP w S v z:=by
  intro n hn hz hop
  subst hz
  refine⟨.int k n, ?_,.int k n (Zdn hn).1 (Zdn hn).2⟩
  rcases hop with rfl |rfl |rfl |rfl<;>simp[ZfH]at hn<;>subst hn<;>simp[Go.binOp,Op.intBits]
 cases op<;>simp only[ZlZ,Option.some.injEq,Prod.mk.injEq]at hz
 case add=>obtain⟨rfl,rfl⟩:=Prod.mk.injEq .. ▸hz;exact⟨_,by simp[Go.binOp,Op.intArith],Zax k _ hc⟩
 case sub=>obtain⟨rfl,rfl⟩:=Prod.mk.injEq .. ▸hz;exact⟨_,by simp[Go.binOp,Op.intArith],Zax k _ hc⟩
 case mul=>obtain⟨rfl,rfl⟩:=Prod.mk.injEq .. ▸hz;exact⟨_,by simp[Go.binOp,Op.intArith],Zax k _ hc⟩
 case quo=>
  obtain⟨rfl,rfl⟩:=hz
  have h0:¬y=0:=of_decide_eq_true (hc (decide (y≠0)) (by simp))
  exact⟨_,by simp[Go.binOp,Op.intDiv,h0],Zax k _ fun q hq=>hc q (by simp[hq])⟩
 case rem=>
  obtain⟨rfl,rfl⟩:=hz
  have h0:¬y=0:=of_decide_eq_true (hc (decide (y≠0)) (by simp))
  exact⟨_,by simp[Go.binOp,Op.intDiv,h0],.int _ _ (ZeB _ _ _ hx.1 hx.2).1 (ZeB _ _ _ hx.1 hx.2).2⟩
 case shl=>simp[ZfH]at hz
 case shr=>simp[ZfH]at hz
 case eql=>obtain⟨rfl,rfl⟩:=hz;exact⟨_,by simp[Go.binOp,Op.intCmp],rb _⟩
 case neq=>obtain⟨rfl,rfl⟩:=hz;exact⟨_,by simp[Go.binOp,Op.intCmp],rb _⟩
 case lss=>obtain⟨rfl,rfl⟩:=hz;exact⟨_,by simp[Go.binOp,Op.intCmp],rb _⟩
 case leq=>obtain⟨rfl,rfl⟩:=hz;exact⟨_,by simp[Go.binOp,Op.intCmp],rb _⟩
 case gtr=>obtain⟨rfl,rfl⟩:=hz;exact⟨_,by simp[Go.binOp,Op.intCmp],rb _⟩
 case geq=>obtain⟨rfl,rfl⟩:=hz;exact⟨_,by simp[Go.binOp,Op.intCmp],rb _⟩
 all_goals
  split at hz
  rotate_left
  simp at hz
  rename_i n hn
  simp only[Option.some.injEq,Prod.mk.injEq]at hz
  exact bits n hn hz.1.symm (by simp)
omit h hi ht hlit in
theorem Zdw {op:BinOp} {k k':IntKind} {x y:Int} {z:P} {c:List Bool} (hx:k.min<=x/\x<=k.max) (hz:ZgS op k x y=some (z,c)) (hop:op= .shl\/op= .shr)
  (hc:∀q∈c,q=true) (P:Program) (t:TypeId) (w:World):
  ∃v,(Go.binOp op t (.int k x) (.int k' y)).run P w= .ok v w/\RelP w S v z:=by
 rcases hop with rfl |rfl<;>simp only[ZgS,Option.some.injEq,Prod.mk.injEq]at hz<;>obtain⟨rfl,rfl⟩:=hz
 ·have h0:¬y < 0:=by have:=of_decide_eq_true (hc (decide (0<=y)) (by simp));omega
  exact⟨_,by simp[Go.binOp,Op.shift,h0],.int k _ (ZaY k _).1 (ZaY k _).2⟩
 ·have h0:¬y < 0:=by have:=of_decide_eq_true (hc (decide (0<=y)) (by simp));omega
  exact⟨_,by simp[Go.binOp,Op.shift,h0],.int k _ (ZeW k x _ hx.1 hx.2).1 (ZeW k x _ hx.1 hx.2).2⟩
omit h hi ht hlit in
theorem Zjg {op:BinOp} {x y:List UInt8} {z:P} {c:List Bool} (hz:Zlw op x y=some (z,c)) (hc:∀q∈c,q=true) (P:Program) (t:TypeId) (w:World):
  ∃v,(Go.binOp op t (.string ⟨x.toArray⟩) (.string ⟨y.toArray⟩)).run P w= .ok v w/\RelP w S v z:=by
 have rb:∀b:Bool,RelP w S (.bool b) (.bool b):=fun b=> .bool b
 cases op<;>simp only[Zlw,Option.some.injEq,Prod.mk.injEq,reduceCtorEq]at hz<;>obtain⟨rfl,rfl⟩:=hz
 case add=>
  have h0:=of_decide_eq_true (hc _ (by simp;rfl))
  refine⟨.string ⟨(x++y).toArray⟩, ?_,.str _ (by simpa using h0)⟩
  have e:(ByteArray.mk x.toArray++ByteArray.mk y.toArray)=ByteArray.mk (x++y).toArray:=by
   apply ByteArray.ext;simp
  have hs:¬(((ByteArray.mk x.toArray).size+(ByteArray.mk y.toArray).size:Nat):Int) > IntKind.i64.max:=by
   have:(ByteArray.mk x.toArray).size=x.length:=by simp[ByteArray.size]
   have:(ByteArray.mk y.toArray).size=y.length:=by simp[ByteArray.size]
   have:IntKind.i64.max=9223372036854775807:=by decide
   unfold Zq at h0
   omega
  simp only[Go.binOp,Op.stringOp,hs,if_false,e]
  rfl
 all_goals exact⟨_,by simp[Go.binOp,Op.stringOp],rb _⟩
omit h hi ht hlit in
theorem ZcQ {op:BinOp} {t:TypeId} {x y:Operand} {u v:Value} (P:Program) (w:World) (hu:(∀cs,u≠ .agg cs)/\u≠ .nilIface):(eqGuard op t x y u v).run P w= .ok () w:=by
 unfold eqGuard
 cases op<;>(try rfl)<;>cases u<;>first |rfl |(simp at hu;done)
theorem Zbf {b:BinOp} {t A:TypeId} {x y:Operand} (k:o.op= .binOp b t x y A) {u v:P} (n:ev C.E st.slots 0 x= .p u) (m:ev C.E st.slots 0 y= .p v)
  (c:e.new=[]/\e.wr=[]/\e.frz=[]) {z:P} (l:e.val= .p z)
  (d:∀p q,RelP w S p u->RelP w S q v->∃r,(Go.binOp b t p q).run C.E.prog w= .ok r w/\RelP w S r z/\((∀cs,p≠ .agg cs)/\p≠ .nilIface)):Zu C X st a w i o e:=by
 rw[k]at hlit;simp[Op.operands]at hlit;have j:=Zj h 0 hlit.1;have g:=Zj h 0 hlit.2;rw[n]at j;rw[m]at g;obtain⟨r,s,f,B⟩:=d _ _ j.of_p g.of_p;refine Zu.quiet h hi ht (v:=r) ?_ c.1 c.2.1 c.2.2 (l▸ .p _ _ f);simp only[execOp,k,Sem.run_bind,ZcQ C.E.prog w B,Result.andThen_ok,s,Sem.run_pure]
omit h hi ht hlit in
theorem Zl.und {E:Env} (hE:Zl E) {t:Nat} {td:TD} (h:E.td t=some td):∃d,E.prog.underlying t=some d/\Zau d td=true:=by
 unfold Env.td at h
 split at h
 rotate_left
 simp at h
 rename_i ti hti
 simp only[Option.some.injEq]at h
 obtain⟨i,d,z,hi⟩:=hE.is hti
 exact⟨d,hi.und,h▸hi.td⟩
omit h hi ht hlit in
theorem ZfA {P:Program} (w:World) (t e:TypeId) (p:Option Addr) (hu:P.underlying t=some (.pointer e)):(Op.equal t (.pointer p) (.pointer none)).run P w= .ok p.isNone w:=by
 have key:∀d,(Op.equalIn (d+1) t (.pointer p) (.pointer none)).run P w= .ok p.isNone w:=by intro d;cases p<;>simp[Op.equalIn,Za hu]
 exact key 9999
omit h hi ht hlit in
theorem Zd1 {P:Program} (w:World) (t e:TypeId) (p:Option Addr) (n c:Nat) (hu:P.underlying t=some (.slice e)):(Op.equal t (.slice p n c) (.slice none 0 0)).run P w= .ok p.isNone w:=by
 have key:∀d,(Op.equalIn (d+1) t (.slice p n c) (.slice none 0 0)).run P w= .ok p.isNone w:=by intro d;cases p<;>simp[Op.equalIn,Za hu]
 exact key 9999
omit h hi ht hlit in
theorem Zeq {P:Program} (w:World) (t:TypeId) (ps rs:Array TypeId) (vr:Bool) (f:Fn) (g k:Array Value) (hu:P.underlying t=some (.func ps rs vr)):(Op.equal t (.func f g k) .nilFunc).run P w= .ok false w:=by
 have key:∀d,(Op.equalIn (d+1) t (.func f g k) .nilFunc).run P w= .ok false w:=by intro d;simp[Op.equalIn,Za hu]
 exact key 9999
omit h hi ht hlit in
theorem Zep {P:Program} (w:World) (t:TypeId) (ps rs:Array TypeId) (vr:Bool) (hu:P.underlying t=some (.func ps rs vr)):(Op.equal t .nilFunc .nilFunc).run P w= .ok true w:=by
 have key:∀d,(Op.equalIn (d+1) t .nilFunc .nilFunc).run P w= .ok true w:=by intro d;simp[Op.equalIn,Za hu]
 exact key 9999
omit h hi ht hlit in
theorem ZeK {E:Env} (hE:Zl E) {t:TypeId} {td:TD} (htd:E.td t=some td) {y:Operand} {dx d:D} {v:Value} (hv:RelD w S ρ v dx) (hd:Zc3 td y dx=some d) (w:World):
  ∃r:Bool,(Go.binOp .eql t v (a.eval y)).run E.prog w= .ok (.bool r) w/\(Go.binOp .neq t v (a.eval y)).run E.prog w= .ok (.bool !r) w/\
   (d= .p (.bool r)\/d= .anyb)/\((∀cs,v≠ .agg cs)/\v≠ .nilIface):=by
 obtain⟨ds,hu,hk⟩:=hE.und htd
 have eqp:∀e p,E.prog.underlying t=some (.pointer e)->(Op.equal t (.pointer p) (.pointer none)).run E.prog w= .ok p.isNone w:=fun e p hu=>ZfA w t e p hu
 have eqs:∀e p n c,E.prog.underlying t=some (.slice e)->(Op.equal t (.slice p n c) (.slice none 0 0)).run E.prog w= .ok p.isNone w:=fun e p n c hu=>Zd1 w t e p n c hu
 have eqf:∀f g h ps rs vr,E.prog.underlying t=some (.func ps rs vr)->(Op.equal t (.func f g h) .nilFunc).run E.prog w= .ok false w:=fun f g h ps rs vr hu=>Zeq w t ps rs vr f g h hu
 have eqn:∀ps rs vr,E.prog.underlying t=some (.func ps rs vr)->(Op.equal t .nilFunc .nilFunc).run E.prog w= .ok true w:=fun ps rs vr hu=>Zep w t ps rs vr hu
 unfold Zc3 at hd
 split at hd
 ·
  have hy:a.eval (.const (.pointer none))= .pointer none:=rfl
  cases ds<;>simp[Zau]at hk
  rename_i e
  split at hd<;>simp only[Option.some.injEq,reduceCtorEq]at hd<;>subst hd
  ·cases hv with |p _ _ hv=>cases hv;exact⟨true,by simp[Go.binOp,hy,eqp e none hu],by simp[Go.binOp,hy,eqp e none hu],.inl rfl,by simp,by simp⟩
  ·cases hv with |p _ _ hv=>cases hv;exact⟨false,by simp[Go.binOp,hy,eqp e (some _) hu],by simp[Go.binOp,hy,eqp e (some _) hu],.inl rfl,by simp,by simp⟩
  ·cases hv;exact⟨false,by simp[Go.binOp,hy,eqp e (some _) hu],by simp[Go.binOp,hy,eqp e (some _) hu],.inl rfl,by simp,by simp⟩
 ·
  have hy:a.eval (.const .nilFunc)= .nilFunc:=rfl
  cases ds<;>simp[Zau]at hk
  rename_i ps rs vr
  split at hd<;>simp only[Option.some.injEq,reduceCtorEq]at hd<;>subst hd
  ·cases hv with |p _ _ hv=>cases hv;exact⟨true,by simp[Go.binOp,hy,eqn ps rs vr hu],by simp[Go.binOp,hy,eqn ps rs vr hu],.inl rfl,by simp,by simp⟩
  ·cases hv with |p _ _ hv=>cases hv;exact⟨false,by simp[Go.binOp,hy,eqf _ _ _ ps rs vr hu],by simp[Go.binOp,hy,eqf _ _ _ ps rs vr hu],.inl rfl,by simp,by simp⟩
  ·cases hv;exact⟨false,by simp[Go.binOp,hy,eqf _ _ _ ps rs vr hu],by simp[Go.binOp,hy,eqf _ _ _ ps rs vr hu],.inl rfl,by simp,by simp⟩
 ·
  have hy:a.eval (.const (.slice none 0 0))= .slice none 0 0:=rfl
  cases ds<;>simp[Zau]at hk
  rename_i e
  split at hd<;>simp only[Option.some.injEq,reduceCtorEq]at hd<;>subst hd
  ·cases hv;exact⟨true,by simp[Go.binOp,hy,eqs e none 0 0 hu],by simp[Go.binOp,hy,eqs e none 0 0 hu],.inl rfl,by simp,by simp⟩
  ·rename_i sz es
   cases hv with
   |p _ _ hv=>
    cases hv with
    |sl p len cap _ _ evs hl hm hcc hsz hcell hrel=>
     refine⟨p.isNone,by simp[Go.binOp,hy,eqs e p len cap hu],by simp[Go.binOp,hy,eqs e p len cap hu], ?_,by simp,by simp⟩
     cases es with
     |nil=>exact .inr rfl
     |cons x xs=>
      obtain⟨b,o,hp,_⟩:=hcell 0 (by simp at hl;omega)
      subst hp;exact .inl rfl
  ·rename_i id off len
   cases hv with
   |sl _ _ _ cap p L hL hl hm' hcc ha=>
    refine⟨p.isNone,by simp[Go.binOp,hy,eqs e p len cap hu],by simp[Go.binOp,hy,eqs e p len cap hu], ?_,by simp,by simp⟩
    by_cases h0:len=0
    ·simp[h0]
    ·rcases ha with ha |⟨b,_,hp,_⟩
     ·omega
     ·subst hp;simp[h0]
 ·simp at hd
include hE in
theorem Zhf {b:BinOp} {t t':TypeId} {x y:Operand} (ho:o.op= .binOp b t x y t') (hn:Operand.isNil y=true) (hc:Zd C.E st.ep i o.op o.type st.slots st.objs=some e):Zu C X st a w i o e:=by
 rw[ho]at hc hlit
 simp[Op.operands]at hlit
 have h1:=Zj h 0 hlit.1
 simp only[Zd,hn,if_true]at hc
 split at hc
 rotate_left
 simp at hc
 rename_i td htd
 split at hc
 ·rename_i d hd
  cases hc
  obtain⟨r,hr,_,hrel,hg⟩:=ZeK (a:=a) hE htd h1 hd w
  refine Zu.quiet h hi ht (v:= .bool r) (by simp only[execOp,ho,Sem.run_bind,ZcQ C.E.prog w hg,Result.andThen_ok,hr,Sem.run_pure]) rfl rfl rfl ?_
  rcases hrel with rfl |rfl
  ·exact .p _ _ (.bool _)
  ·exact .anyb _
 ·rename_i d hd
  split at hc
  rotate_left
  simp at hc
  rename_i d' hd'
  cases hc
  obtain⟨r,_,hr,hrel,hg⟩:=ZeK (a:=a) hE htd h1 hd w
  refine Zu.quiet h hi ht (v:= .bool !r) (by simp only[execOp,ho,Sem.run_bind,ZcQ C.E.prog w hg,Result.andThen_ok,hr,Sem.run_pure]) rfl rfl rfl ?_
  rcases hrel with rfl |rfl
  ·simp only[D.notb,Option.some.injEq]at hd';subst hd';exact .p _ _ (.bool _)
  ·simp only[D.notb,Option.some.injEq]at hd';subst hd';exact .anyb _
 ·simp at hc
end
end Eng
namespace Eng
open Go
section
variable {C:Ctx} {X:Nat->Prop} {ρ:Id->Option Lay} {S:Nat->Prop} {st:St} {a:Act} {w:World} {i:Nat} {o:Oper} {e:Eff}
theorem Zbk {P:Program} (w:World) (t:TypeId) (a b:Bool) (h:P.underlying t=some .bool):(Op.equal t (.bool a) (.bool b)).run P w= .ok (a == b) w:=by
 have key:∀d,(Op.equalIn (d+1) t (.bool a) (.bool b)).run P w= .ok (a == b) w:=by intro d;simp[Op.equalIn,Za h]
 exact key 9999
def ZgI (w:World) (S:Nat->Prop) (us:Array Value) (a:List P):Prop:=us.size=a.length/\∀(i:Nat) u x,us[i]? =some u->a[i]? =some x->RelP w S u x
def Zao (ti:TI) (us:Array Value):Value:=if ti.isAgg then .agg us else us.getD 0 undef
theorem Zfj {E:Env} (c:Zl E) {t:Nat} {ti:TI} (b:E.ty t=some ti) (us:Array Value) (a:Nat) (d:a+ti.size<=us.size) (w:World):
  (part t us a).run E.prog w= .ok (Zao ti (us.extract a (a+ti.size))) w:=by
 obtain⟨h,g,z,hi⟩:=c.is b;unfold part Zao;rw[Sem.run_bind,hi.isAgg w];cases hg:ti.isAgg with
 |true=>simp[Za0 hi.info,hi.size]
 |false=>
  have f:=(hi.flat hg).2;have e:=hi.zl;have:a < us.size:=by omega
  simp[this,Zmz];rw[if_pos (by omega)];simp
theorem ZjS {xs us:List P} {tds:List TD}:∀{rs:List TD} {ys vs:List P} {c:Bool},xs.length=tds.length->us.length=tds.length->
  eqt (tds++rs) (xs++ys) (us++vs)=some c->∃a b,eqt tds xs us=some a/\eqt rs ys vs=some b/\c=(a&&b):=by
 induction tds generalizing xs us with
 |nil=>
  intro rs ys vs c h1 h2 h;cases xs<;>simp at h1;cases us<;>simp at h2;exact⟨true,c,rfl,by simpa using h,by simp⟩
 |cons td tds ih=>
  intro rs ys vs c h1 h2 h;cases xs with
  |nil=>simp at h1
  |cons x xs=>
   cases us with
   |nil=>simp at h2
   |cons u us=>
    simp only[List.cons_append,eqt]at h;split at h;rotate_left;simp at h;rename_i hok;split at h;rotate_left;simp at h;rename_i p q hp hq;cases h;obtain⟨a,b,g1,g2,g3⟩:=ih (by simpa using h1) (by simpa using h2) hq;exact⟨p&&a,b,by simp only[eqt,hok,hp,g1,if_true],g2,by simp[g3,Bool.and_assoc]⟩
theorem ZfB:∀{a:List TD} {xs b:List P} {c:Bool},eqt a xs b=some c->xs.length=a.length/\b.length=a.length
 | [],[],[],_,_=>⟨rfl,rfl⟩
 |td::r,x::xs,y::b,c,h=>by simp only[eqt]at h;split at h;rotate_left;simp at h;split at h;rotate_left;simp at h;rename_i d;have:=ZfB d;simp[this.1,this.2]
 | [],[],_::_,_,h=>by simp[eqt]at h
 | [],_::_,_,_,h=>by simp[eqt]at h
 |_::_,[],_,_,h=>by simp[eqt]at h
 |_::_,_::_,[],_,h=>by simp[eqt]at h
theorem Zbo {E:Env} {f:Nat->Option (List TD)} {e:Nat}:∀{fs:List (Nat×Nat)} {c:Nat} {d:List TD},ZaN E f e c fs=some d->c+d.length=e
 | [],c,d,h=>by simp only[ZaN]at h;split at h<;>simp at h;subst h;simpa
 |(o,t)::r,c,d,h=>by simp only[ZaN]at h;split at h;rotate_left;simp at h;split at h;rotate_left;simp at h;rename_i a ti k i;split at h;rotate_left;simp at h;rename_i j;split at h;rotate_left;simp at h;rename_i b g;cases h;have:=Zbo g;simp;omega
theorem Zcc {us:Array Value} {c:List P} (h:ZgI w S us c) (o n:Nat):ZgI w S (us.extract o (o+n)) ((c.drop o).take n):=by obtain⟨e,d⟩:=h;refine⟨by simp;omega,fun i u x b a=> ?_⟩;rw[Zmz]at b;split at b;rotate_left;simp at b;rw[ZmK]at a;split at a;rotate_left;simp at a;rw[ZmG]at a;exact d _ u x b a
theorem Zc5 {E:Env} (hE:Zl E) (w:World) (S:Nat->Prop) {n size d:Nat}
  (ih:∀(t:Nat) (ti:TI) tds,Za4 E n t=some tds->E.ty t=some ti->∀(us vs:Array Value) (as bs:List P) (c:Bool),ZgI w S us as->ZgI w S vs bs->eqt tds as bs=some c->
   (Op.equalIn d t (Zao ti us) (Zao ti vs)).run E.prog w= .ok c w):
  ∀(fs:List Field) (off:Nat) (tds:List TD),(∀f∈fs,f.name≠ "_")->ZaN E (Za4 E n) size off (fs.map fun f=>(f.offset,f.type))=some tds->
   ∀(us vs:Array Value) (as bs:List P) (c:Bool),us.size=size->vs.size=size->ZgI w S us as->ZgI w S vs bs->eqt tds (as.drop off) (bs.drop off)=some c->
   (Op.eqFields d us vs fs).run E.prog w= .ok c w
 | [],off,tds,_,hl,us,vs,as,bs,c,hu,hv,ha,hb,hc=>by simp only[List.map_nil,ZaN]at hl;split at hl<;>simp at hl;subst hl;have:=ZfB hc;cases hd:as.drop off<;>rw[hd]at hc this<;>cases hd':bs.drop off<;>rw[hd']at hc this<;>simp[eqt]at hc this;subst hc;rfl
 |f::fs,off,tds,hn,hl,us,vs,as,bs,c,hu,hv,ha,hb,hc=>by
  simp only[ZmL,ZaN]at hl;split at hl;rotate_left;simp at hl;rename_i ho;split at hl;rotate_left;simp at hl;rename_i l ti hle hti;split at hl;rotate_left;simp at hl;rename_i hlen;split at hl;rotate_left;simp at hl;rename_i r hr;cases hl;have hlr:=Zbo hr;have ea:as.drop off=(as.drop off).take ti.size++as.drop (off+ti.size):=by rw[<-List.drop_drop,List.take_append_drop]
  have eb:bs.drop off=(bs.drop off).take ti.size++bs.drop (off+ti.size):=by rw[<-List.drop_drop,List.take_append_drop]
  rw[ea,eb]at hc;obtain⟨p,q,h1,h2,rfl⟩:=ZjS (by simp[hlen];have:=ha.1;omega) (by simp[hlen];have:=hb.1;omega) hc;have hname:=hn f (by simp);have r1:=Zfj hE hti us f.offset (by omega) w;have r2:=Zfj hE hti vs f.offset (by omega) w;have r3:=ih f.type ti l hle hti _ _ _ _ p (Zcc ha f.offset ti.size) (Zcc hb f.offset ti.size) (by rw[ho];exact h1);simp only[Op.eqFields,ne_eq,hname,not_false_eq_true,if_true,Sem.run_bind,r1,r2,r3,Result.andThen_ok];cases p with
  |false=>simp
  |true=>
   simp only[Bool.not_true,ZmD,if_false,Bool.true_and];exact Zc5 hE w S ih fs (off+ti.size) r (fun g hg=>hn g (by simp[hg])) hr us vs as bs q hu hv ha hb h2
theorem Zer {E:Env} (V:Zl E) (w:World) (S:Nat->Prop):∀(n d:Nat),n<=d->∀(t:Nat) (ti:TI) g,Za4 E n t=some g->E.ty t=some ti->
  ∀(us vs:Array Value) (B bs:List P) (c:Bool),ZgI w S us B->ZgI w S vs bs->eqt g B bs=some c->(Op.equalIn d t (Zao ti us) (Zao ti vs)).run E.prog w= .ok c w:=by
 intro n
 induction n with
 |zero=>intro d _ t ti g h;simp[Za4]at h
 |succ n Y=>
  intro d hd t ti g h U us vs B bs c I K l;obtain⟨d,rfl⟩:∃X,d=X+1:=⟨d - 1,by omega⟩;obtain⟨ii,J,z,hi⟩:=V.is U;simp only[Za4,U]at h;have e:=hi.und;have a:=hi.td;have s:∀td,g=[td]->ti.isAgg=false->∃x y u v,B=[x]/\bs=[y]/\Zn td x=true/\Zn td y=true/\P.eqc x y=some c/\RelP w S u x/\RelP w S v y/\Zao ti us=u/\Zao ti vs=v:=by
   rintro td rfl Q;obtain⟨R,T⟩:=ZfB l
   match B,bs,R,T with
   | [x],[y],_,_=>
    simp only[eqt]at l;split at l;rotate_left;simp at l;rename_i r;simp only[ZmC]at r;split at l;rotate_left;simp at l;rename_i p q hp N;simp only[ZmZ]at N;simp only[ZmZ]at l;subst N;have s1:us.size=1:=by simpa using I.1
    have s2:vs.size=1:=by simpa using K.1
    refine⟨x,y,us[0],vs[0],rfl,rfl,r.1,r.2,by simpa[<-l]using hp,I.2 0 _ x (by simp) rfl,K.2 0 _ y (by simp) rfl, ?_, ?_⟩
    ·simp[Zao,Q,Array.getElem?_eq_getElem (by omega:0 < us.size)]
    ·simp[Zao,Q,Array.getElem?_eq_getElem (by omega:0 < vs.size)]
  split at h
  ·rename_i i;simp only[ZmZ]at h;rw[i]at a;cases J<;>simp[Zau]at a;obtain⟨x,y,u,v,rfl,rfl,m,A,b,D,H,C,F⟩:=s _ h.symm (by simp[TI.isAgg,i]);cases x<;>simp[Zn]at m;cases y<;>simp[Zn]at A;simp[P.eqc]at b;subst b;rw[C,F,D.bool_inv,H.bool_inv];simp[Op.equalIn,Za e]
  ·rename_i k i;simp only[ZmZ]at h;rw[i]at a;cases J<;>simp[Zau]at a;obtain⟨x,y,u,v,rfl,rfl,m,A,b,D,H,C,F⟩:=s _ h.symm (by simp[TI.isAgg,i]);cases x<;>simp[Zn]at m;cases y<;>simp[Zn]at A;simp[P.eqc,<-m,<-A]at b;subst b;rw[C,F,D.int_inv.1,H.int_inv.1];simp[Op.equalIn,Za e,<-m,<-A]
  ·rename_i i;simp only[ZmZ]at h;rw[i]at a;cases J<;>simp[Zau]at a;obtain⟨x,y,u,v,rfl,rfl,m,A,b,D,H,C,F⟩:=s _ h.symm (by simp[TI.isAgg,i]);cases x<;>simp[Zn]at m;cases y<;>simp[Zn]at A;simp[P.eqc]at b;subst b;rw[C,F,D.str_inv.1,H.str_inv.1];simp[Op.equalIn,Za e,beq_toListBytes]
  ·rename_i fs i;have o:=hi.eq;rw[i]at a o;cases J<;>simp[Zau]at a;rename_i W;simp only[ZmC,Bool.not_eq_true']at o;have L:ti.isAgg=true:=by simp[TI.isAgg,i]
   have G:E.prog.fieldsOf t=W:=by simp[Program.fieldsOf,e]
   obtain⟨R,T⟩:=ZfB l;have O:=Zbo h;simp only[Zao,L,if_true];rw[run_equalIn_struct w d t us vs (by rw[G];exact e) o.1.1,G];refine Zc5 V w S (Y d (by omega)) W.toList 0 g ?_ (by rw[a.1];exact h) us vs B bs c (by have:=I.1;omega) (by have:=K.1;omega) I K (by simpa using l);intro f M;have:=a.2;obtain⟨j,Z,rfl⟩:=ZmA.1 (ZmB.1 M);exact this j Z
  ·simp at h
variable (h:Rep C X ρ S st a.tmps w) (hi:¬X i) (ht:∀d,o.dst=some d->d < C.E.nt) (hlit:o.op.operands.all Zz=true) (hE:Zl C.E)
include h hi ht hlit hE
theorem ZiM {b:BinOp} {t R:TypeId} {x y:Operand} (F:o.op= .binOp b t x y R) (f:Zd C.E st.ep i o.op o.type st.slots st.objs=some e) (g:∀q∈e.cond,q=true):Zu C X st a w i o e:=by
 by_cases hn:Operand.isNil y=true
 ·exact Zhf h hi ht hlit hE F hn f
 rw[F]at f;simp only[Zd,hn,ZmD,if_false]at f;split at f
 ·
  rename_i u v H J;split at f;rotate_left;simp at f;rename_i z s d;cases f;refine Zbf h hi ht hlit F H J ⟨rfl,rfl,rfl⟩ rfl fun p q A E=> ?_
  rw[A.bool_inv,E.bool_inv];obtain⟨P,D,O⟩:=hE.und s;cases P<;>simp[Zau]at O;cases b<;>simp only[Zj8,ZmZ,reduceCtorEq]at d<;>subst d
  ·exact⟨_,by simp[Go.binOp,Zbk w t u v D],.bool _,by simp,by simp⟩
  ·exact⟨_,by simp[Go.binOp,Zbk w t u v D],.bool _,by simp,by simp⟩
 ·
  rename_i us vs H J;split at f;rotate_left;simp at f;rename_i z d;cases f;rw[F]at hlit;simp[Op.operands]at hlit;have j:=Zj h 0 hlit.1;have l:=Zj h 0 hlit.2;rw[H]at j;rw[J]at l;generalize A:a.eval x=p at j;generalize E:a.eval y=q at l;cases j with |p _ _ j=>cases l with |p _ _ l=>cases j with |agg K _ T W Q=>cases l with |agg L _ U Z V=>
  unfold Zmi at d;split at d;rotate_left;simp at d;rename_i fs I s G;have key:∀c,eqt I us vs=some c->(Op.equal t (.agg K) (.agg L)).run C.E.prog w= .ok c w/\(eqGuard b t x y (.agg K) (.agg L)).run C.E.prog w= .ok () w:=by
   intro c f;cases B:C.E.ty t with
   |none=>simp[Env.td,B]at s
   |some ti=>
    simp only[Env.td,B,ZmZ]at s;obtain⟨Y,P,z,hi⟩:=hE.is B;have M:ti.isAgg=true:=by simp[TI.isAgg,s]
    have:=Zer hE w S depth 10000 (by decide) t ti I G B K L us vs c ⟨T,Q⟩ ⟨U,V⟩ f;simp only[Zao,M,if_true]at this;refine⟨this,run_eqGuard_agg w b t x y K L ?_⟩;have:=hi.eq;rw[s]at this;simp only[ZmC,Bool.not_eq_true']at this;exact this.1.2
  split at d
  ·rename_i c f;cases d;obtain⟨k1,N⟩:=key c f;exact Zu.quiet h hi ht (v:= .bool c) (by simp only[execOp,F,A,E,Sem.run_bind,N,Result.andThen_ok,Go.binOp,k1,Sem.run_pure]) rfl rfl rfl (.p _ _ (.bool _))
  ·rename_i c f;cases d;obtain⟨k1,N⟩:=key c f;exact Zu.quiet h hi ht (v:= .bool !c) (by simp only[execOp,F,A,E,Sem.run_bind,N,Result.andThen_ok,Go.binOp,k1,Sem.run_pure]) rfl rfl rfl (.p _ _ (.bool _))
  ·simp at d
 ·
  rename_i u v _ _ H J;split at f;rotate_left;simp at f;rename_i z c d;cases f;refine Zbf h hi ht hlit F H J ⟨rfl,rfl,rfl⟩ rfl fun p q A E=> ?_
  unfold Zmc at d;split at d
  ·rename_i k m k' n;rw[A.int_inv.1,E.int_inv.1];split at d
   ·obtain⟨r,j,l⟩:=Zdw (S:=S) A.int_inv.2 d (.inl rfl) g C.E.prog t w;exact⟨r,j,l,by simp,by simp⟩
   ·obtain⟨r,j,l⟩:=Zdw (S:=S) A.int_inv.2 d (.inr rfl) g C.E.prog t w;exact⟨r,j,l,by simp,by simp⟩
   ·split at d;rotate_left;simp at d;rename_i O;subst O;obtain⟨r,j,l⟩:=ZjN (S:=S) A.int_inv.2 d g C.E.prog t w;exact⟨r,j,l,by simp,by simp⟩
  ·rw[A.str_inv.1,E.str_inv.1];obtain⟨r,j,l⟩:=Zjg (S:=S) d g C.E.prog t w;exact⟨r,j,l,by simp,by simp⟩
  ·simp at d
 ·simp at f
end
end Eng
namespace Eng
open Go
section
variable {C:Ctx} {X:Nat->Prop} {ρ:Id->Option Lay} {S:Nat->Prop} {st:St} {a:Act} {w:World} {i:Nat} {o:Oper} {e:Eff}
theorem Z4 (b o n:Nat):(⟨b,o,none⟩:Addr).add n=⟨b,o+n,none⟩:=by
 unfold Addr.add;split
 ·rename_i h;subst h;rfl
 ·rfl
theorem Zl.struct {E:Env} (e:Zl E) {t:Nat} {ti:TI} {fs:List (Nat×Nat)} (c:E.ty t=some ti) (b:ti.d= .struct fs):
  ∃a:Array Field,E.prog.underlying t=some (.struct a)/\a.toList.map (fun f=>(f.offset,f.type))=fs:=by
 obtain⟨g,d,z,hi⟩:=e.is c;have:=hi.td;rw[b]at this;cases hds:d<;>rw[hds]at this<;>simp[Zau]at this;exact⟨_,by rw[<-hds];exact hi.und,this.1⟩
theorem Zl.slice {E:Env} (d:Zl E) {t:Nat} {ti:TI} {e:Nat} (b:E.ty t=some ti) (a:ti.d= .sl e):E.prog.underlying t=some (.slice e):=by obtain⟨f,c,z,hi⟩:=d.is b;have:=hi.td;rw[a]at this;cases hds:c<;>rw[hds]at this<;>simp[Zau]at this;subst this;rw[<-hds];exact hi.und
theorem Zl.array {E:Env} (d:Zl E) {t:Nat} {ti:TI} {m e:Nat} (b:E.ty t=some ti) (a:ti.d= .arr m e):E.prog.underlying t=some (.array m e):=by obtain⟨f,c,z,hi⟩:=d.is b;have:=hi.td;rw[a]at this;cases hds:c<;>rw[hds]at this<;>simp[Zau]at this;obtain⟨rfl,rfl⟩:=this;rw[<-hds];exact hi.und
theorem Zl.map {E:Env} (d:Zl E) {t:Nat} {ti:TI} {k e:Nat} (b:E.ty t=some ti) (a:ti.d= .map k e):E.prog.underlying t=some (.map k e):=by obtain⟨f,c,z,hi⟩:=d.is b;have:=hi.td;rw[a]at this;cases hds:c<;>rw[hds]at this<;>simp[Zau]at this;obtain⟨rfl,rfl⟩:=this;rw[<-hds];exact hi.und
theorem Zl.str {E:Env} (e:Zl E) {t:Nat} (b:E.td t=some .str):E.prog.underlying t=some .string:=by obtain⟨d,c,a⟩:=e.und b;cases hds:d<;>rw[hds]at a<;>simp[Zau]at a;rw[<-hds];exact c
theorem Zl.info {E:Env} (b:Zl E) {t:Nat} {ti:TI} (c:E.ty t=some ti):∃a,E.prog.info? t=some a/\a.size=ti.size/\a.bytes=ti.bytes:=by obtain⟨a,d,z,hi⟩:=b.is c;exact⟨a,hi.info,hi.size,hi.bytes⟩
variable (h:Rep C X ρ S st a.tmps w) (hi:¬X i) (ht:∀d,o.dst=some d->d < C.E.nt) (hlit:o.op.operands.all Zz=true) (hE:Zl C.E)
include h hi ht hlit
theorem ZjV {u:UnOp} {t:TypeId} {x:Operand} (ho:o.op= .unOp u t x) (hc:Zd C.E st.ep i o.op o.type st.slots st.objs=some e) (hcond:∀q∈e.cond,q=true):Zu C X st a w i o e:=by
 rw[ho]at hc hlit;simp[Op.operands]at hlit;have h1:=Zj h 0 hlit;simp only[Zd]at hc;split at hc;rotate_left;simp at hc;rename_i v hv;rw[hv]at h1;have h2:=h1.of_p;split at hc;rotate_left;simp at hc;rename_i z c hz;cases hc;unfold unop at hz;split at hz
 ·rename_i k n;obtain⟨e1,e2⟩:=h2.int_inv;split at hz
  ·obtain⟨rfl,rfl⟩:(Zay k (0 - n)).1=z/\(Zay k (0 - n)).2=c:=by simpa[Prod.ext_iff]using hz
   exact Zu.quiet h hi ht (v:= .int k (k.wrap (0 - n))) (by simp[execOp,ho,e1,Op.unary,Op.intArith]) rfl rfl rfl (.p _ _ (Zax k _ hcond))
  ·split at hz;rotate_left;simp at hz;rename_i m hm;simp only[ZmZ,Zm0]at hz;obtain⟨rfl,rfl⟩:=hz;refine Zu.quiet h hi ht (v:= .int k m) ?_ rfl rfl rfl (.p _ _ (.int k m (Zdn hm).1 (Zdn hm).2));simp[ZfH]at hm;simp[execOp,ho,e1,Op.unary,Op.intBits,hm]
  ·simp at hz
 ·rename_i b;have e1:=h2.bool_inv;split at hz;rotate_left;simp at hz;simp only[ZmZ,Zm0]at hz;obtain⟨rfl,rfl⟩:=hz;exact Zu.quiet h hi ht (v:= .bool !b) (by simp[execOp,ho,e1,Op.unary]) rfl rfl rfl (.p _ _ (.bool _))
 ·simp at hz
include hE
theorem Zeu {t:TypeId} {x:Operand} {f:Nat} (F:o.op= .fieldAddr t x f) (d:Zd C.E st.ep i o.op o.type st.slots st.objs=some e):Zu C X st a w i o e:=by
 rw[F]at d hlit;simp[Op.operands]at hlit;have k:=Zj h 0 hlit;simp only[Zd]at d;split at d;rotate_left;simp at d;rename_i fs sz H Q A;split at d;rotate_left;simp at d;rename_i y J G;split at d;rotate_left;simp at d;rename_i R v;obtain⟨P,M,B⟩:=hE.struct A rfl;obtain⟨S,n,z,_⟩:=hE.info v;have r:∃g,P[f]? =some g/\g.offset=y/\g.type=J:=by rw[<-B,ZmJ,ZmX]at G;obtain⟨g,r,E⟩:=G;simp only[Zm0]at E;exact⟨g,by simpa using r,E⟩
 obtain⟨g,r,rfl,rfl⟩:=r;split at d
 ·simp at d
 ·rename_i q;have u:∀b o',a.eval x= .pointer (some ⟨b,o',none⟩)->(execOp a.eval o).run C.E.prog w= .ok (.value (.pointer (some ⟨b,o'+g.offset,none⟩))) w:=by intro b o' s;simp[execOp,F,s,Instr.fieldAt,Za M,r,Instr.sureAddr,fieldPlace,Za0 n,z,q,Z4]
  split at d
  ·rename_i cs s;cases d;rw[s]at k;generalize hp:a.eval x=p at k;cases k with |p _ _ k=>cases k with |ptr b o' _ vs N m k I=>
   refine Zu.quiet h hi ht (u b o' hp) rfl rfl rfl (.p _ _ (.ptr b (o'+g.offset) _ (fun j=>vs (g.offset+j)) N (fun j c l=> ?_) (fun j c l=> ?_) (fun j c l=> ?_)))
   ·rw[ZmG]at l;rw[<-m _ c l,ZmR]
   ·rw[ZmG]at l;exact k _ c l
   ·rw[ZmG]at l;exact I _ c l
  ·rename_i id i' j s;cases d;rw[s]at k;generalize hp:a.eval x=p at k;cases k with |ptr _ _ _ L b K D O=>
   refine Zu.quiet h hi ht (u b _ hp) rfl rfl rfl ?_;rw[ZmR];exact .ptr id i' (j+g.offset) L b K D O
  ·simp at d
omit h hi ht hlit in
theorem Zb2 {t:TypeId} {ti:TI} (hty:C.E.ty t=some ti) (b o':Nat) (us:List Value) (hl:us.length=ti.size) (hcell:∀(j:Nat) u,us[j]? =some u->w.cell? ⟨b,o'+j,none⟩=some u):
  (loadVar t ⟨b,o',none⟩).run C.E.prog w= .ok (Zao ti us.toArray) w:=by
 obtain⟨ii,ds,z,hi⟩:=hE.is hty
 unfold loadVar Zao
 rw[Sem.run_bind,hi.isAgg w]
 cases hg:ti.isAgg with
 |true=>
  have hlc:=run_loadCells_list (P:=C.E.prog) w ⟨b,o',none⟩ us (fun j v hj=>by rw[Z4];exact hcell j v hj)
  simp[Za0 hi.info,hi.size,<-hl,hlc]
 |false=>
  have h1:=(hi.flat hg).2
  have h2:=hi.zl
  match us,hl with
  | [u],_=>
   have:=hcell 0 u rfl
   simp at this
   simp[this]
  | [],hl=>simp at hl;omega
  |_::_::_,hl=>simp at hl;omega
omit h hi ht hlit hE in
theorem Zcg {ti:TI} {cs:List P} {x:P} (hx:ZdK ti cs=some x) (hg:ti.isAgg=false->ti.size=1):
  ti.size<=cs.length/\∀us:List Value,us.length=ti.size->(∀(j:Nat) u c,us[j]? =some u->cs[j]? =some c->RelP w S u c/\ZbP u)->RelP w S (Zao ti us.toArray) x:=by
 unfold ZdK at hx
 cases hag:ti.isAgg with
 |true=>
  simp only[hag,if_true]at hx
  split at hx
  rotate_left
  simp at hx
  rename_i hle
  cases hx
  refine⟨hle,fun us hl hr=> ?_⟩
  simp only[Zao,hag,if_true]
  refine .agg _ _ (by simp;omega) (fun j u hu=> ?_) (fun j u c hu hc=> ?_)
  ·have hlt:j < ti.size:=by have:=(Array.getElem?_eq_some_iff.1 hu).1;simpa[hl]using this
   have hu':us[j]? =some u:=by simpa using hu
   exact(hr j u cs[j] hu' (by simp)).2
  ·rw[List.getElem?_take]at hc
   split at hc
   rotate_left
   simp at hc
   exact(hr j u c (by simpa using hu) hc).1
 |false=>
  simp only[hag,Bool.false_eq_true,if_false]at hx
  have h1:=hg hag
  cases cs with
  |nil=>simp at hx
  |cons c cs=>
   simp only[List.head?_cons,Option.some.injEq]at hx;subst hx
   refine⟨by simp;omega,fun us hl hr=> ?_⟩
   match us,hl with
   | [u],_=>simp only[Zao,hag];simpa using (hr 0 u c rfl rfl).1
   | [],hl=>simp at hl;omega
   |_::_::_,hl=>simp at hl;omega
omit h hi ht hlit hE in
theorem TIs.one {p:Program} {t:Nat} {ti:TI} {i:TypeInfo} {d:TypeDesc} {z:Value} (h:TIs p t ti i d z) (hg:ti.isAgg=false):ti.size=1:=by
 have:=(h.flat hg).2;have:=h.zl;omega
omit h hi ht hlit hE in
theorem ZdL {ti:TI} {cs:List D} {x:D} (hx:Zft ti cs=some x) (hg:ti.isAgg=false->ti.size=1):
  ti.size<=cs.length/\∀us:List Value,us.length=ti.size->(∀(j:Nat) u c,us[j]? =some u->cs[j]? =some c->RelD w S ρ u c/\ZbP u)->RelD w S ρ (Zao ti us.toArray) x:=by
 unfold Zft at hx
 cases hag:ti.isAgg with
 |true=>
  simp only[hag,if_true]at hx
  split at hx
  rotate_left
  simp at hx
  rename_i hle
  cases hx
  refine⟨hle,fun us hl hr=> ?_⟩
  simp only[Zao,hag,if_true]
  have ho:∀(j:Nat) u,us.toArray[j]? =some u->ZbP u:=fun j u hu=>by
   have hlt:j < ti.size:=by have:=(Array.getElem?_eq_some_iff.1 hu).1;simpa[hl]using this
   have hu':us[j]? =some u:=by simpa using hu
   exact(hr j u cs[j] hu' (by simp)).2
  have hh:∀(j:Nat) u c,us.toArray[j]? =some u->(cs.take ti.size)[j]? =some c->RelD w S ρ u c:=fun j u c hu hc=>by
   rw[List.getElem?_take]at hc
   split at hc
   rotate_left
   simp at hc
   exact(hr j u c (by simpa using hu) hc).1
  unfold D.mkAgg
  split
  ·rename_i ps hps
   have he:=Zt hps
   have hl':=congrArg List.length he
   simp at hl'
   refine .p _ _ (.agg _ _ (by simp;omega) ho fun j u c hu hc=>(hh j u (.p c) hu (by rw[he];simp[hc])).of_p)
  ·exact .agg _ _ (by simp;omega) ho hh
 |false=>
  simp only[hag,Bool.false_eq_true,if_false]at hx
  have h1:=hg hag
  cases cs with
  |nil=>simp at hx
  |cons c cs=>
   simp only[List.head?_cons,Option.some.injEq]at hx;subst hx
   refine⟨by simp;omega,fun us hl hr=> ?_⟩
   match us,hl with
   | [u],_=>simp only[Zao,hag];simpa using (hr 0 u c rfl rfl).1
   | [],hl=>simp at hl;omega
   |_::_::_,hl=>simp at hl;omega
theorem ZjZ {t:TypeId} {x:Operand} (Z:o.op= .load t x) (f:Zd C.E st.ep i o.op o.type st.slots st.objs=some e):Zu C X st a w i o e:=by
 rw[Z]at f hlit;simp[Op.operands]at hlit;have r:=Zj h 0 hlit;simp only[Zd]at f;split at f;rotate_left;simp at f;rename_i ti K;obtain⟨ii,ds,z,B⟩:=hE.is K;have D:∀b o' (us:List Value),a.eval x= .pointer (some ⟨b,o',none⟩)->us.length=ti.size->(∀(j:Nat) u,us[j]? =some u->w.cell? ⟨b,o'+j,none⟩=some u)->
   (execOp a.eval o).run C.E.prog w= .ok (.value (Zao ti us.toArray)) w:=by
  intro b o' us M hl l;simp[execOp,Z,M,Instr.loadAt,Instr.sureAddr,Zb2 hE K b o' us hl l]
 split at f
 ·rename_i cs M;split at f;rotate_left;simp at f;rename_i y U;cases f;rw[M]at r;generalize hp:a.eval x=p at r;cases r with |p _ _ r=>cases r with |ptr b o' _ vs hS l r P=>
  obtain⟨s,m⟩:=Zcg (w:=w) (S:=S) U B.one;have q:∀(j:Nat) u,((List.range ti.size).map vs)[j]? =some u->j < ti.size/\u=vs j:=by
   intro j u g;have n:j < ti.size:=by have:=(ZmI.1 g).1;simpa using this
   simp[n]at g;exact⟨n,g.symm⟩
  refine Zu.quiet h hi ht (D b o' ((List.range ti.size).map vs) hp (by simp) fun j u g=> ?_) rfl rfl rfl (.p _ _ (m _ (by simp) fun j u c g f=> ?_))
  ·obtain⟨n,rfl⟩:=q j u g;exact l j cs[j] (by simp)
  ·obtain⟨n,rfl⟩:=q j u g;exact⟨P j c f,r j c f⟩
 ·rename_i id i' j M;rw[M]at r;generalize hp:a.eval x=p at r;cases r with |ptr _ _ _ L b W V Y=>
  split at f
  ·
   rename_i cs E;split at f;rotate_left;simp at f;rename_i R;subst R;split at f;rotate_left;simp at f;rename_i d hd;cases f;obtain⟨s,m⟩:=ZdL (w:=w) (S:=S) (ρ:=ρ) hd B.one;obtain⟨L',A,b',N,J,ab,Q⟩:=h.objs id _ E (by simp);rw[W]at A;obtain rfl:=ZmY A;rw[Y]at N;obtain rfl:=ZmY N;have q:∀k,k < ti.size->∃u,w.cell? ⟨b,L.base+0*L.sz+j+k,none⟩=some u/\ZbP u/\∀c,(cs.drop j)[k]? =some c->RelD w S ρ u c:=by intro k hk;simp at s;obtain⟨u,g,_,r,P⟩:=Q (j+k) cs[j+k] (by simp);refine⟨u,by rw[<-g];congr 2;omega,r,fun c f=> ?_⟩;rw[ZmG]at f;obtain⟨_,rfl⟩:=ZmI.1 f;exact P
   have v:∀(k:Nat) u,((List.range ti.size).map fun k=>(w.cell? ⟨b,L.base+0*L.sz+j+k,none⟩).getD default)[k]? =some u->
     w.cell? ⟨b,L.base+0*L.sz+j+k,none⟩=some u/\ZbP u/\∀c,(cs.drop j)[k]? =some c->RelD w S ρ u c:=by
    intro k u g;have n:k < ti.size:=by have:=(ZmI.1 g).1;simpa using this
    obtain⟨u',I,r,h2⟩:=q k n;simp only[ZmJ,List.getElem?_range n,Option.map_some,I,ZmW,ZmZ]at g;subst g;exact⟨I,r,h2⟩
   exact Zu.quiet h hi ht (D b _ _ hp (by simp) fun k u g=>(v k u g).1) rfl rfl rfl (m _ (by simp) fun k u c g f=>⟨(v k u g).2.2 c f,(v k u g).2.1⟩)
  ·
   rename_i sz es fix E;split at f;rotate_left;simp at f;rename_i y U;cases f;obtain⟨L',A,J,ac,af,aa,ag,O,evs,ae,l,m⟩:=h.objs id _ E (by simp);rw[W]at A;obtain rfl:=ZmY A;obtain⟨s,H⟩:=Zcg (w:=w) (S:=S) U B.one;have F:i' < es.length:=by omega
   have T:es.getD i' default=es[i']:=by simp[F]
   rw[T]at s H;have G:=m i' es[i'] (by simp[F]);have q:∀(k:Nat) u,(((evs i').cells.toList.drop j).take ti.size)[k]? =some u->k < ti.size/\(evs i').cells[j+k]? =some u:=by intro k u g;rw[ZmK]at g;split at g;rotate_left;simp at g;rename_i hk;rw[ZmG]at g;exact⟨hk,by simpa using g⟩
   have ah:=G.size;refine Zu.quiet h hi ht (D b _ (((evs i').cells.toList.drop j).take ti.size) hp (by simp at s|-;omega) fun k u g=> ?_) rfl rfl rfl (.p _ _ (H _ (by simp at s|-;omega) fun k u c g f=> ?_))
   ·have:=l b Y i' (j+k) u V (q k u g).2;rw[J,<-this];congr 2;omega
   ·rw[ZmG]at f;exact G.cell (q k u g).2 f
  ·simp at f
 ·simp at f
end
end Eng
namespace Eng
open Go
section
variable {C:Ctx} {X:Nat->Prop} {ρ:Id->Option Lay} {S:Nat->Prop} {st:St} {a:Act} {w:World} {i:Nat} {o:Oper} {e:Eff}
theorem ZaZ (l:List UInt8):(ByteArray.mk l.toArray).size=l.length:=by simp[ByteArray.size]
theorem ZM {E:Env} (d:Zl E) {t:Nat} {ti:TI} (c:E.ty t=some ti) (w:World):(Go.sizeOf t).run E.prog w= .ok ti.size w:=by obtain⟨e,a,b,_⟩:=d.info c;rw[Za0 a,b]
theorem ZbL {v:Value} {k:IntKind} {n:Int} (h:RelD w S ρ v (.p (.int k n))):v= .int k n/\k.min<=n/\n<=k.max:=h.of_p.int_inv
variable (h:Rep C X ρ S st a.tmps w) (hi:¬X i) (ht:∀d,o.dst=some d->d < C.E.nt) (hlit:o.op.operands.all Zz=true) (hE:Zl C.E)
include h hi ht hlit hE
theorem ZiJ {t:TypeId} {x:Operand} {f:Nat} (M:o.op= .field t x f) (b:Zd C.E st.ep i o.op o.type st.slots st.objs=some e):Zu C X st a w i o e:=by
 rw[M]at b hlit;simp[Op.operands]at hlit;have n:=Zj h 0 hlit;simp only[Zd]at b;split at b;rotate_left;simp at b;rename_i fs sz O U I;split at b;rotate_left;simp at b;rename_i H P N;obtain⟨T,k,J⟩:=hE.struct I rfl;have v:∃g,T[f]? =some g/\g.offset=H/\g.type=P:=by rw[<-J,ZmJ,ZmX]at N;obtain⟨g,v,L⟩:=N;simp only[Zm0]at L;exact⟨g,by simpa using v,L⟩
 obtain⟨g,v,rfl,rfl⟩:=v;have B:∀(us:Array Value) l,C.E.ty g.type=some l->a.eval x= .agg us->g.offset+l.size<=us.size->
   (execOp a.eval o).run C.E.prog w= .ok (.value (Zao l (us.extract g.offset (g.offset+l.size)))) w:=by
  intro us l d A D;simp[execOp,M,A,Instr.field,Za k,v,asAgg,Zfj hE d us g.offset D w]
 generalize hp:a.eval x=p at n;split at b
 ·rename_i l cs d A;split at b
  ·simp at b
  rename_i K;simp only[ZmX]at b;obtain⟨y,F,rfl⟩:=b;rw[A]at n;cases n with |p _ _ n=>cases n with |agg us _ D r E=>
  obtain⟨R,Q,z,q⟩:=hE.is d;obtain⟨s,m⟩:=Zcg (w:=w) (S:=S) F q.one;simp at s;have G:g.offset+l.size<=us.size:=by omega
  refine Zu.quiet h hi ht (B us l d hp G) rfl rfl rfl (.p _ _ ?_);have:=m (us.extract g.offset (g.offset+l.size)).toList (by simp;omega) (fun j u c k b=> ?_)
  ·rwa [Array.toArray_toList]at this
  ·simp only[Array.getElem?_toList,Zmz]at k;split at k;rotate_left;simp at k;rw[ZmG]at b;exact⟨E _ u c k b,r _ u k⟩
 ·rename_i l cs d A;split at b
  ·simp at b
  rename_i K;simp only[ZmX]at b;obtain⟨y,F,rfl⟩:=b;rw[A]at n;cases n with |agg us _ D r E=>
  obtain⟨R,Q,z,q⟩:=hE.is d;obtain⟨s,m⟩:=ZdL (w:=w) (S:=S) (ρ:=ρ) F q.one;simp at s;have G:g.offset+l.size<=us.size:=by omega
  refine Zu.quiet h hi ht (B us l d hp G) rfl rfl rfl ?_;have:=m (us.extract g.offset (g.offset+l.size)).toList (by simp;omega) (fun j u c k b=> ?_)
  ·rwa [Array.toArray_toList]at this
  ·simp only[Array.getElem?_toList,Zmz]at k;split at k;rotate_left;simp at k;rw[ZmG]at b;exact⟨E _ u c k b,r _ u k⟩
 ·simp at b
theorem Zet {t:TypeId} {x ix:Operand} (O:o.op= .indexAddr t x ix) (d:Zd C.E st.ep i o.op o.type st.slots st.objs=some e) (f:∀q∈e.cond,q=true):Zu C X st a w i o e:=by
 rw[O]at d hlit;simp[Op.operands]at hlit;have g:=Zj h 0 hlit.1;have h2:=Zj h 0 hlit.2;simp only[Zd]at d;split at d;rotate_left;simp at d;rename_i k n hn;rw[hn]at h2;obtain⟨T,_⟩:=ZbL h2;generalize hp:a.eval x=p at g;split at d
 ·rename_i el sz P ze F;have A:=hE.slice F rfl;split at d;rotate_left;simp at d;rename_i te s;split at d
  ·rename_i W es y;split at d;rotate_left;simp at d;rename_i E;cases d;obtain⟨R,c1⟩:=of_decide_eq_true (f _ ZmO);rw[y]at g;cases g with |p _ _ g=>cases g with |sl p len cap _ _ evs hl hm aa ac l B=>
   obtain⟨m,rfl⟩:=ZmE R;have z:m < len:=by omega
   have M:m < es.length:=by omega
   obtain⟨b,o',rfl,U,ab⟩:=l m z;have S:es.getD m default=es[m]:=by simp[M]
   refine Zu.quiet h hi ht (v:= .pointer (some ⟨b,o'+m*te.size,none⟩)) ?_ rfl rfl rfl ?_
   ·simp[execOp,O,hp,T,Instr.indexAt,asIntOf,Za A,z,ZM hE s,Z4]
   ·simp only[ZmF,S];have D:=B m es[m] (by simp[M]);have ae:=D.size;refine .p _ _ (.ptr b _ _ (fun j=>(evs m).cells.getD j undef) U (fun j c r=> ?_) (fun j c r=> ?_) (fun j c r=> ?_))
    all_goals
     have I:j < (evs m).cells.size:=by have:=(ZmI.1 r).1;omega
     have A:(evs m).cells[j]? =some (evs m).cells[j]:=by simp[I]
     have G:(evs m).cells.getD j undef=(evs m).cells[j]:=by simp[Array.getElem?_eq_getElem I]
    ·rw[G,<-ab j _ A,E]
    ·rw[G];exact(D.cell A r).2
    ·rw[G];exact(D.cell A r).1
  ·rename_i id u len y;split at d;rotate_left;simp at d;rename_i W es fix Y;split at d;rotate_left;simp at d;rename_i E;cases d;obtain⟨R,c1⟩:=of_decide_eq_true (f _ ZmO);rw[y]at g;cases g with |sl _ _ _ cap p L N hl af aa ha=>
   obtain⟨m,rfl⟩:=ZmE R;have z:m < len:=by omega
   obtain⟨L',J,H,_⟩:=h.objs id _ Y (by simp);rw[N]at J;obtain rfl:=ZmY J;rcases ha with ha |⟨b,V,rfl,_⟩
   ·omega
   ·refine Zu.quiet h hi ht (v:= .pointer (some ⟨b,L.base+u*L.sz+m*te.size,none⟩)) ?_ rfl rfl rfl ?_
    ·simp[execOp,O,hp,T,Instr.indexAt,asIntOf,Za A,z,ZM hE s,Z4]
    ·have:L.base+u*L.sz+m*te.size=L.base+(u+m)*L.sz+0:=by rw[ZmS,H,E];omega
     simp only[ZmF,this];exact .ptr id (u+m) 0 L b N (by omega) V
  ·simp at d
 ·rename_i m el sz P ze F;have A:=hE.array F rfl;split at d;rotate_left;simp at d;rename_i te s;have K:∀b o',p= .pointer (some ⟨b,o',none⟩)->0<=n/\n < m->(execOp a.eval o).run C.E.prog w= .ok (.value (.pointer (some ⟨b,o'+n.toNat*te.size,none⟩))) w:=by intro b o' y B;subst y;simp[execOp,O,hp,T,Instr.indexAt,asIntOf,Za A,Instr.sureAddr,B,ZM hE s,Z4]
  split at d
  ·rename_i cs y;cases d;have B:=of_decide_eq_true (f _ ZmO);rw[y]at g;cases g with |p _ _ g=>cases g with |ptr b o' _ vs U l g Q=>
   refine Zu.quiet h hi ht (K b o' rfl B) rfl rfl rfl (.p _ _ (.ptr b _ _ (fun j=>vs (n.toNat*te.size+j)) U (fun j c r=> ?_) (fun j c r=> ?_) (fun j c r=> ?_)))
   ·rw[ZmG]at r;rw[<-l _ c r,ZmR]
   ·rw[ZmG]at r;exact g _ c r
   ·rw[ZmG]at r;exact Q _ c r
  ·rename_i id i' j y;cases d;have B:=of_decide_eq_true (f _ ZmO);rw[y]at g;cases g with |ptr _ _ _ L b N Z V=>
   refine Zu.quiet h hi ht (K b _ rfl B) rfl rfl rfl ?_;rw[ZmR];exact .ptr id i' _ L b N Z V
  ·simp at d
 ·simp at d
theorem ZiI {t:TypeId} {x E:Operand} (l:o.op= .index t x E) (b:Zd C.E st.ep i o.op o.type st.slots st.objs=some e) (c:∀q∈e.cond,q=true):Zu C X st a w i o e:=by
 rw[l]at b hlit;simp[Op.operands]at hlit;have f:=Zj h 0 hlit.1;have j:=Zj h 0 hlit.2;simp only[Zd]at b;split at b;rotate_left;simp at b;rename_i k n r;rw[r]at j;obtain⟨y,_⟩:=ZbL j;generalize hp:a.eval x=p at f;split at b;rotate_left;simp at b;rename_i s A;split at b;rotate_left;simp at b;rename_i g;cases b;obtain⟨D,F⟩:=of_decide_eq_true (c _ ZmO);rw[A]at f;obtain⟨rfl,_⟩:=f.of_p.str_inv;obtain⟨m,rfl⟩:=ZmE D;have d:m < s.length:=by omega
 have B:=hE.str g;refine Zu.quiet h hi ht (v:= .int .u8 (s[m]).toNat) ?_ rfl rfl rfl ?_
 ·have:(ByteArray.mk s.toArray)[m]? =some s[m]:=by
   have u:m < (ByteArray.mk s.toArray).size:=by rw[ZaZ];exact d
   rw[getElem?_pos _ m u];congr 1
  simp[execOp,l,hp,y,Instr.index,asIntOf,Za B,this]
 ·have z:=(s[m]).toNat_lt;simp only[ZmF,List.getD_eq_getElem?_getD,ZmH d,ZmW];exact .p _ _ (.int _ _ (by simp[IntKind.min,IntKind.signed]) (by simp only[IntKind.max,IntKind.signed,IntKind.bits];simp;omega))
end
end Eng
namespace Eng
open Go
section
variable {C:Ctx} {X:Nat->Prop} {ρ:Id->Option Lay} {S:Nat->Prop} {st:St} {a:Act} {w:World} {i:Nat} {o:Oper} {e:Eff}
def Zlp:Option Value->Option Int->Prop
 |none,none=>True
 |some v,some n=>∃k,v= .int k n
 |_,_=>False
theorem Zlp.cases {v:Option Value} {A:Option Int} (h:Zlp v A):(v=none/\A=none)\/∃k n,v=some (.int k n)/\A=some n:=by
 unfold Zlp at h;split at h
 ·exact .inl ⟨rfl,rfl⟩
 ·obtain⟨k,rfl⟩:=h;exact .inr ⟨k,_,rfl,rfl⟩
 ·exact h.elim
theorem Zj7 {P:Program} (k:IntKind) (n:Int) (y:Nat) (a:BoundsCode) (h:0<=n/\n<=y) (w:World):(Instr.sliceBound (.int k n) y a).run P w= .ok n.toNat w:=by simp[Instr.sliceBound,asIntOf,h]
theorem Ze1 {P:Program} (p:Bool) (len cap:Nat) {c d e:Option Value} {A B M:Option Int} (o:Zlp c A) (s:Zlp d B) (t:Zlp e M)
  (x:M.isSome->B.isSome) (g:0<=A.getD 0) (f:A.getD 0<=B.getD len) (j:B.getD len<=M.getD cap) (l:M.getD cap<=cap) (u:len<=cap) (w:World):
  (Instr.sliceBounds p len cap c d e).run P w= .ok ((A.getD 0).toNat,(B.getD len).toNat,(M.getD cap).toNat) w:=by
 have F:∀(k:IntKind) (n:Int) (y:Nat) (a:BoundsCode),0<=n->n<=y->(Instr.sliceBound (.int k n) y a).run P w= .ok n.toNat w:=fun k n y a q r=>Zj7 k n y a ⟨q,r⟩ w
 rcases o.cases with ⟨rfl,rfl⟩ |⟨i,n,rfl,rfl⟩<;>rcases s.cases with ⟨rfl,rfl⟩ |⟨h,b,rfl,rfl⟩<;>rcases t.cases with ⟨rfl,rfl⟩ |⟨v,m,rfl,rfl⟩<;>simp only[Option.getD_none,ZmW]at g f j l
 ·simp[Instr.sliceBounds]
 ·simp at x
 ·simp[Instr.sliceBounds,F h b cap _ f j]
 ·simp[Instr.sliceBounds,F v m cap _ (by omega) l,F h b m.toNat _ f (by omega)]
 ·simp[Instr.sliceBounds,F i n len _ g f]
 ·simp at x
 ·simp[Instr.sliceBounds,F h b cap _ (by omega) j,F i n b.toNat _ g (by omega)]
 ·simp[Instr.sliceBounds,F v m cap _ (by omega) l,F h b m.toNat _ (by omega) (by omega),F i n b.toNat _ g (by omega)]
theorem ZcG (h:Rep C X ρ S st a.tmps w) {lo:Option Operand} {A:Option Int} (e:∀x,lo=some x->Zz x=true) (b:ZbO C.E st.slots lo=some A):Zlp (lo.map a.eval) A:=by
 unfold ZbO at b;split at b
 ·cases b;trivial
 ·rename_i x;split at b;rotate_left;simp at b;rename_i k n d;cases b;have c:=Zj h 0 (e x rfl);rw[d]at c;exact⟨k,c.of_p.int_inv.1⟩
variable (h:Rep C X ρ S st a.tmps w) (hi:¬X i) (ht:∀d,o.dst=some d->d < C.E.nt) (hlit:o.op.operands.all Zz=true) (hE:Zl C.E)
include h hi ht hlit hE
theorem ZiG {t:TypeId} {x:Operand} {lo ag mx:Option Operand} (ho:o.op= .slice t x lo ag mx) (d:Zd C.E st.ep i o.op o.type st.slots st.objs=some e) (c:∀q∈e.cond,q=true):Zu C X st a w i o e:=by
 rw[ho]at d hlit;have Q:Zz x=true/\(∀y,lo=some y->Zz y=true)/\(∀y,ag=some y->Zz y=true)/\(∀y,mx=some y->Zz y=true):=by simp only[Op.operands,Array.all_append,ZmC]at hlit;obtain⟨⟨⟨l1,l2⟩,l3⟩,l4⟩:=hlit;refine⟨by simpa using l1, ?_, ?_, ?_⟩<;>rintro y rfl<;>simp_all
 have H:=Zj h 0 Q.1;simp only[Zd]at d;split at d;rotate_left;simp at d;rename_i sz A B M g hA hB hM;have oA:=ZcG h Q.2.1 hA;have oB:=ZcG h Q.2.2.1 hB;have oM:=ZcG h Q.2.2.2 hM;generalize hp:a.eval x=p at H;unfold ZaL at d;have K:∀z te (ad:Option Addr) (len cap:Nat),C.E.td t=some (.sl z)->C.E.ty z=some te->p= .slice ad len cap->(M.isSome->B.isSome)->0<=A.getD 0->A.getD 0<=B.getD len->B.getD len<=M.getD cap->M.getD cap<=cap->len<=cap->
   (execOp a.eval o).run C.E.prog w= .ok (.value (.slice (if (M.getD cap).toNat=(A.getD 0).toNat then ad else ad.map (·.add ((A.getD 0).toNat*te.size))) ((B.getD len).toNat - (A.getD 0).toNat) ((M.getD cap).toNat - (A.getD 0).toNat))) w:=by
  intro z te ad len cap l f F hx q0 q1 q2 q3 ac;obtain⟨ds,E,hk⟩:=hE.und l;cases ds<;>simp[Zau]at hk;subst hk F;simp only[execOp,ho,hp,Instr.sliceAt,Instr.slice,Sem.run_bind,Za E,Result.andThen_ok,Ze1 true len cap oA oB oM hx q0 q1 q2 q3 ac,ZM hE f,Sem.run_pure]
 have I:∀n,sz=some n->∃z te,C.E.td t=some (.sl z)/\C.E.ty z=some te/\te.size=n:=by
  rintro n rfl;split at g
  ·simp at g
  ·rename_i z l;split at g;rotate_left;simp at g;rename_i te f;simp only[ZmZ]at g;exact⟨z,te,l,f,g⟩
  ·simp at g
 split at d
 ·
  rename_i s F;split at d
  ·simp at d
  ·cases d;obtain⟨J,G,Z⟩:=of_decide_eq_true (c _ ZmO);rw[F]at H;obtain⟨rfl,au⟩:=H.of_p.str_inv;have ak:C.E.td t=some .str:=by
    split at g
    ·assumption
    ·split at g<;>simp at g
    ·simp at g
   have E:=hE.str ak;have ao:mx=none:=by
    match mx,oM with
    |none,_=>rfl
   subst ao;have hb:=Ze1 (P:=C.E.prog) false (ByteArray.mk s.toArray).size (ByteArray.mk s.toArray).size oA oB (show Zlp none none from trivial) (by simp) J (by rw[ZaZ];exact G) (by simp[ZaZ];exact Z) (by simp) (ZmT _) w;refine Zu.quiet h hi ht (v:= .string ⟨((s.take (B.getD s.length).toNat).drop (A.getD 0).toNat).toArray⟩) ?_ rfl rfl rfl (.p _ _ (.str _ (by simp;omega)));simp only[execOp,ho,hp,Instr.sliceAt,Instr.slice,Sem.run_bind,Za E,Result.andThen_ok,Option.map_none,Option.isSome_none,ZmD,if_false,hb,Sem.run_pure];congr 3;rw[Lib.extract_eq,ZaZ];congr 2;simp[List.drop_take]
 ·
  rename_i n Y es F;obtain⟨z,te,l,f,hn⟩:=I n rfl;split at d;rotate_left;simp at d;rename_i T;rw[F]at H;cases H with |p _ _ H=>cases H with |sl ad len cap _ _ evs hl hm N ah D hr=>
  have ae:∀(A' H' O:Nat) (V:Option Addr),A'<=H'->H'<=len->H' - A'<=O->(H' - A'=0\/V=ad.map (·.add (A'*te.size)))->RelP w S (.slice V (H' - A') O) (.sl Y ((es.take H').drop A')):=by
   intro A' H' O V l1 l2 l3 l4;refine .sl _ _ _ _ _ (fun j=>evs (A'+j)) (by simp;omega) (by omega) l3 (fun j hj=>ah _ (by omega)) (fun j hj=> ?_) (fun j u E=> ?_)
   ·obtain⟨b,o',rfl,hS,ap⟩:=D (A'+j) (by omega);rcases l4 with l4 |l4
    ·omega
    ·subst l4;refine⟨b,o'+A'*te.size,by simp[Z4],hS,fun k v F=> ?_⟩;have:=ap k v F;rw[ZmS]at this;rw[<-this,hn,<-T];congr 2;omega
   ·rw[ZmG,ZmK]at E;split at E;rotate_left;simp at E;exact hr _ u E
  split at d
  ·
   cases d;obtain⟨J,G,Z⟩:=of_decide_eq_true (c _ ZmO);have an:A.getD 0<=B.getD len:=by rw[<-hl];exact G
   have av:B.getD len<=len:=by rw[<-hl];exact Z
   have r:=K z te ad len cap l f rfl (by simp) J an (by simp;omega) (by simp) N;refine Zu.quiet h hi ht r rfl rfl rfl (.p _ _ ?_);rw[hl];refine ae _ _ _ _ (by omega) (by omega) (by simp;omega) ?_;simp only[Option.getD_none,ZmF];split
   ·exact .inl (by omega)
   ·exact .inr rfl
  ·
   rename_i m hh;cases d;obtain⟨J,G,Z,rfl⟩:=of_decide_eq_true (c _ ZmO);have r:=K z te ad len cap l f rfl (by simp) J G (by simp) (by simp;omega) N;refine Zu.quiet h hi ht r rfl rfl rfl ?_;simp only[ZmW];refine .clip _ _ _ _ (ae _ _ _ _ (by omega) (by omega) (by omega) ?_);split
   ·exact .inl (by omega)
   ·exact .inr rfl
  ·simp at d
 ·
  rename_i n id W len F;obtain⟨z,te,l,f,hn⟩:=I n rfl;split at d;rotate_left;simp at d;rename_i Y es fix af;split at d;rotate_left;simp at d;rename_i T;rw[F]at H;cases H with |sl _ _ _ cap ad L hL hl as N ha=>
  have R:=h.objs id _ af (by simp);obtain⟨L',R,U,ar,ac,aq,aw,ai,evs,am,D,ab⟩:=R;rw[hL]at R;obtain rfl:=ZmY R;split at d
  ·cases d;obtain⟨J,G,Z⟩:=of_decide_eq_true (c _ ZmO);have r:=K z te ad len cap l f rfl (by simp) J G (by simp;omega) (by simp) N;refine Zu.quiet h hi ht r rfl rfl rfl ?_;simp only[Option.getD_none,ZmF];refine .sl id _ _ _ _ L hL (by omega) (by omega) (by omega) ?_;rcases ha with ha |⟨b,hb,rfl,aa⟩
   ·exact .inl (by omega)
   ·by_cases hq:cap=(A.getD 0).toNat
    ·exact .inl (by omega)
    ·refine .inr ⟨b,hb, ?_,by omega⟩;rw[if_neg hq];simp only[Option.map_some,Z4,U,T,hn,ZmS];congr 2;omega
  ·rename_i m hh;cases d;obtain⟨J,G,Z,rfl⟩:=of_decide_eq_true (c _ ZmO);have r:=K z te ad len cap l f rfl (by simp) J G (by simp) (by simp;omega) N;refine Zu.frz h hi ht r rfl rfl (by simp[hL]) fun S' al aj=> ?_
   simp only[ZmW];refine .clip _ _ _ _ ?_;refine .sl _ _ _ _ _ (fun j=>evs (W+(A.getD 0).toNat+j)) (by simp;omega) (by omega) (ZmT _) (fun j hj=>am _ (by omega)) (fun j hj=> ?_) (fun j u E=> ?_)
   ·rcases ha with ha |⟨b,hb,rfl,aa⟩
    ·omega
    ·rw[if_neg (by omega)];refine⟨b,L.base+W*L.sz+(A.getD 0).toNat*te.size,by simp[Z4],aj id (by simp) _ L b af (by simp) hL hb,fun k v F=> ?_⟩;have:=D b hb (W+(A.getD 0).toNat+j) k v (by omega) F;rw[<-this,U,T,hn];congr 2;simp only[ZmS];omega
   ·rw[ZmK]at E;split at E;rotate_left;simp at E;rw[ZmG]at E;exact(ab _ u E).mono (fun _ _ _=>rfl) al
  ·simp at d
 ·
  rename_i n Y F;obtain⟨z,te,l,f,hn⟩:=I n rfl;split at d;rotate_left;simp at d;cases d;obtain⟨J,G⟩:=of_decide_eq_true (c _ ZmO);rw[F]at H;cases H;have cB:B.getD (0:Nat)=0:=G;have r:=K z te none 0 0 l f rfl (by simp) (by omega) (by omega) (by simp;omega) (by simp) (ZmT _);refine Zu.quiet h hi ht r rfl rfl rfl ?_;simp[J,G];exact .nils _
 ·simp at d
end
end Eng
namespace Eng
open Go
section
variable {C:Ctx} {X:Nat->Prop} {ρ:Id->Option Lay} {S:Nat->Prop} {st:St} {a:Act} {w:World} {i:Nat} {o:Oper} {e:Eff}
theorem ZA {P:Program} {b:Builtin} {args:Array Operand} {c:Array TypeId} (d:o.op= .call {callee:= .builtin b,args,argTypes:=c}):
  ∃cs,(execOp a.eval o).run P w=(builtin b c o.type cs (args.map a.eval)).run P w:=by
 refine⟨args.map fun | .const _=>true |_=>false, ?_⟩;simp only[execOp,d,resolve,invoke,Sem.run_bind,Sem.run_pure,Result.andThen_ok];rfl
theorem Zf0 {P:Program} {s:Sem Value} {r:Value} {w':World} (h:s.run P w= .ok r w'):(do pure (Next.value (<-s)):Sem Next).run P w= .ok (.value r) w':=by simp[h]
theorem ZdE {n:Nat} (h:n<=Zq):IntKind.i64.min<=(n:Int)/\(n:Int)<=IntKind.i64.max:=by
 have a:IntKind.i64.min= -9223372036854775808:=by decide
 have b:IntKind.i64.max=9223372036854775807:=by decide
 unfold Zq at h;omega
theorem ZkL {lk:Id->Option Obj} (B:Objs w S ρ lk) {v:Value} {d:D} {n:Nat} {c:List Bool} {td:TD} (h:RelD w S ρ v d) (g:Zgf lk td d=some (n,c)) (f:∀q∈c,q=true) {E:Env} (O:Zl E) {t:Nat} (G:E.td t=some td)
  (o:Array TypeId) (e:o[0]? =some t) (ty:TypeId):(Builtin.len_ o ty #[v]).run E.prog w= .ok (.int .i64 n) w/\n<=Zq:=by
 obtain⟨k,i,a⟩:=O.und G;have T:Zah<=Zq:=by decide
 unfold Zgf at g;split at g<;>(try simp only[ZmZ,Zm0,reduceCtorEq]at g)
 ·obtain⟨rfl,rfl⟩:=g;cases k<;>simp[Zau]at a;obtain⟨rfl,rfl⟩:=a;exact⟨by simp[Builtin.len_,e,Za i,goInt],of_decide_eq_true (f _ ZmO)⟩
 ·obtain⟨rfl,rfl⟩:=g;obtain⟨rfl,j⟩:=h.of_p.str_inv;cases k<;>simp[Zau]at a;exact⟨by simp[Builtin.len_,e,Za i,goInt,ZaZ],j⟩
 ·obtain⟨rfl,rfl⟩:=g;cases k<;>simp[Zau]at a;cases h with |p _ _ h=>cases h with |sl ad len cap _ _ evs j Q x y l I=>
  exact⟨by simp[Builtin.len_,e,Za i,goInt,j],by omega⟩
 ·obtain⟨rfl,rfl⟩:=g;cases k<;>simp[Zau]at a;cases h with |clip ad len _ _ h=>cases h with |sl ad len cap _ _ evs j Q x y l I=>
  exact⟨by simp[Builtin.len_,e,Za i,goInt,j],by omega⟩
 ·obtain⟨rfl,rfl⟩:=g;cases k<;>simp[Zau]at a;cases h;exact⟨by simp[Builtin.len_,e,Za i,goInt],by simp⟩
 ·obtain⟨rfl,rfl⟩:=g;cases k<;>simp[Zau]at a;cases h with |sl _ _ _ cap p L H j N x U=>
  exact⟨by simp[Builtin.len_,e,Za i,goInt],by omega⟩
 ·obtain⟨rfl,rfl⟩:=g;cases k<;>simp[Zau]at a;cases h with |p _ _ h=>cases h with
  |nilmap=>exact⟨by simp[Builtin.len_,e,Za i,goInt],by simp⟩
  |map _ r es m _ z W A R j _ _ _ _ C K=>
   exact⟨by simp[Builtin.len_,e,Za i,goInt,getObj,Sem.run,A,j,R.length_eq],of_decide_eq_true (f _ ZmO)⟩
 ·rename_i id;split at g;rotate_left;simp at g;rename_i V F;simp only[ZmZ,Zm0]at g;obtain⟨rfl,rfl⟩:=g;cases k<;>simp[Zau]at a;cases h with |map _ L b H A=>
  obtain⟨L',s,b',u,es,m,z,J,M,P,_⟩:=B id _ F (by simp);rw[H]at s;obtain rfl:=ZmY s;rw[A]at u;obtain rfl:=ZmY u;exact⟨by simp[Builtin.len_,e,Za i,goInt,getObj,Sem.run,J,P,M.length_eq],of_decide_eq_true (f _ ZmO)⟩
variable (h:Rep C X ρ S st a.tmps w) (hi:¬X i) (ht:∀d,o.dst=some d->d < C.E.nt) (hlit:o.op.operands.all Zz=true) (hE:Zl C.E)
include h hi ht hlit
theorem Zhi {x:Operand} (s:o.op= .assign x) (g:Zd C.E st.ep i o.op o.type st.slots st.objs=some e):Zu C X st a w i o e:=by
 rw[s]at g hlit;have m:=Zj h o.type (by simpa[Op.operands]using hlit:Zz x=true);have c:(execOp a.eval o).run C.E.prog w= .ok (.value (a.eval x)) w:=by simp[execOp,s]
 simp only[Zd]at g;split at g
 ·
  rename_i sz u;cases g;rw[u]at m;generalize hp:a.eval x=p at m;cases m;rw[hp]at c;let L:Lay:=⟨none,0,sz,0,0⟩;have j:ρ (st.ep,i,0)=none:=by
   cases g:ρ (st.ep,i,0)with
   |none=>rfl
   |some L=>have:=h.young (st.ep,i,0) (by simp[g]);simp[hi]at this
  refine⟨_,_,w,c,.inl rfl,upd ρ (st.ep,i,0) (some L),h.step _ hi ht (ZmT _) (ZS.refl _) (fun _ _ _=>rfl) (by simp) ?_ ?_ (by simp) ?_ ?_ (by simp) ?_⟩
  ·intro id L' f;unfold upd;split
   ·rename_i q;subst q;rw[j]at f;simp at f
   ·exact f
  ·intro id n;unfold upd at n;split at n
   ·rename_i q;subst q;exact .inr ⟨rfl,rfl⟩
   ·exact .inl n
  ·intro k o' l;simp only[ZmQ,Zm0]at l;obtain⟨rfl,rfl⟩:=l;exact⟨L,by simp[upd],by simp[L],fun S' _ _ _=>⟨rfl,rfl,by simp[L],by simp[L],by simp[L],by simp[L],fun _=>default,by simp[L],by simp[L],by simp⟩⟩
  ·intro k v L1 z y L2 b l _ r t;simp only[ZmQ,Zm0]at l;obtain⟨rfl,rfl⟩:=l;simp[upd]at r;subst r;simp[L]at t
  ·intro S' _ _ d _;exact .sl _ 0 0 0 none L (by simp[upd]) (by simp[L]) (by simp) (by simp) (.inl rfl)
 ·cases g;exact Zu.quiet h hi ht c rfl rfl rfl m
omit hi ht hlit in
theorem Zaf:∀(xs:List Operand) (ts:List Nat),(∀x∈xs,Zz x=true)->(ZT C.E st.slots xs ts).length=xs.length/\
  ∀(j:Nat) v d,(xs.map a.eval)[j]? =some v->(ZT C.E st.slots xs ts)[j]? =some d->RelD w S ρ v d
 | [],_,_=>⟨rfl,by simp⟩
 |x::xs,[],hx=>by
  obtain⟨l,r⟩:=Zaf xs [] (fun y hy=>hx y (by simp[hy]))
  refine⟨by simp[ZT,l],fun j v d hv hd=> ?_⟩
  cases j with
  |zero=>simp[ZT]at hv hd;subst hv hd;exact Zj h _ (hx x (by simp))
  |succ j=>simp[ZT]at hv hd;exact r j v d (by simpa using hv) hd
 |x::xs,t::ts,hx=>by
  obtain⟨l,r⟩:=Zaf xs ts (fun y hy=>hx y (by simp[hy]))
  refine⟨by simp[ZT,l],fun j v d hv hd=> ?_⟩
  cases j with
  |zero=>simp[ZT]at hv hd;subst hv hd;exact Zj h _ (hx x (by simp))
  |succ j=>simp[ZT]at hv hd;exact r j v d (by simpa using hv) hd
omit h hi ht hlit in
theorem ZkI {ds:List D} {z:P} (hz:maxP ds=some z) {vs:List Value} (hl:vs.length=ds.length) (hr:∀(j:Nat) v d,vs[j]? =some v->ds[j]? =some d->RelD w S ρ v d) (P:Program) (ats:Array TypeId) (ty:TypeId):
  ∃r,(Builtin.max_ ats ty vs.toArray).run P w= .ok r w/\RelP w S r z:=by
 unfold maxP at hz
 split at hz
 ·rename_i k x k' y
  by_cases hk:k=k'
  ·rw[if_pos hk]at hz
   subst hk
   cases hz
   match vs,hl with
   | [u,v],_=>
    obtain⟨rfl,r1,r2⟩:=ZbL (hr 0 _ _ rfl rfl)
    obtain⟨rfl,r3,r4⟩:=ZbL (hr 1 _ _ rfl rfl)
    refine⟨_,by simp[Builtin.max_,Builtin.max2],.int _ _ ?_ ?_⟩<;>split<;>assumption
  ·rw[if_neg hk]at hz;simp at hz
 ·rename_i k x k' y k'' z'
  by_cases hk:k=k'/\k=k''
  ·rw[if_pos hk]at hz
   obtain⟨rfl,rfl⟩:=hk
   cases hz
   match vs,hl with
   | [u,v,q],_=>
    obtain⟨rfl,r1,r2⟩:=ZbL (hr 0 _ _ rfl rfl)
    obtain⟨rfl,r3,r4⟩:=ZbL (hr 1 _ _ rfl rfl)
    obtain⟨rfl,r5,r6⟩:=ZbL (hr 2 _ _ rfl rfl)
    have g:∀b:Int,k.min<=b->b<=k.max->RelP w S (.int k b) (.int k b):=fun b p q=> .int k b p q
    refine⟨_,by simp[Builtin.max_,Builtin.max2];rfl, ?_⟩
    refine .int k _ ?_ ?_<;>split<;>(first |assumption |(split<;>first |assumption |(split<;>assumption)))
  ·rw[if_neg hk]at hz;simp at hz
 ·simp at hz
omit h hi ht hlit in
theorem ZkH {ds:List D} {z:P} (hz:minP ds=some z) {vs:List Value} (hl:vs.length=ds.length) (hr:∀(j:Nat) v d,vs[j]? =some v->ds[j]? =some d->RelD w S ρ v d) (P:Program) (ats:Array TypeId) (ty:TypeId):
  ∃r,(Builtin.min_ ats ty vs.toArray).run P w= .ok r w/\RelP w S r z:=by
 unfold minP at hz
 split at hz
 ·rename_i k x k' y
  by_cases hk:k=k'
  ·rw[if_pos hk]at hz
   subst hk
   cases hz
   match vs,hl with
   | [u,v],_=>
    obtain⟨rfl,r1,r2⟩:=ZbL (hr 0 _ _ rfl rfl)
    obtain⟨rfl,r3,r4⟩:=ZbL (hr 1 _ _ rfl rfl)
    refine⟨_,by simp[Builtin.min_,Builtin.min2],.int _ _ ?_ ?_⟩<;>split<;>assumption
  ·rw[if_neg hk]at hz;simp at hz
 ·rename_i k x k' y k'' z'
  by_cases hk:k=k'/\k=k''
  ·rw[if_pos hk]at hz
   obtain⟨rfl,rfl⟩:=hk
   cases hz
   match vs,hl with
   | [u,v,q],_=>
    obtain⟨rfl,r1,r2⟩:=ZbL (hr 0 _ _ rfl rfl)
    obtain⟨rfl,r3,r4⟩:=ZbL (hr 1 _ _ rfl rfl)
    obtain⟨rfl,r5,r6⟩:=ZbL (hr 2 _ _ rfl rfl)
    have g:∀b:Int,k.min<=b->b<=k.max->RelP w S (.int k b) (.int k b):=fun b p q=> .int k b p q
    refine⟨_,by simp[Builtin.min_,Builtin.min2];rfl, ?_⟩
    refine .int k _ ?_ ?_<;>split<;>(first |assumption |(split<;>first |assumption |(split<;>assumption)))
  ·rw[if_neg hk]at hz;simp at hz
 ·simp at hz
include hE
theorem ZkT {args:Array Operand} {ats:Array TypeId} (ho:o.op= .call {callee:= .builtin .len,args,argTypes:=ats}) (hc:Zd C.E st.ep i o.op o.type st.slots st.objs=some e) (hcond:∀q∈e.cond,q=true):Zu C X st a w i o e:=by
 rw[ho]at hc hlit;simp only[Zd,ZI]at hc;unfold Ziy at hc;split at hc<;>(try simp only[reduceCtorEq]at hc);rename_i t d hds hlen;split at hc;rotate_left;simp at hc;rename_i td htd;split at hc;rotate_left;simp at hc;rename_i n c hn;cases hc;obtain⟨hl,hr⟩:=Zaf h args.toList ats.toList (fun x hx=>by simp[Op.operands,Call.operands]at hlit;obtain⟨j,hj,rfl⟩:=ZmA.1 (ZmB.1 hx);exact hlit j hj)
 rw[hlen]at hl hr;obtain⟨cs,hrun⟩:=ZA (a:=a) (w:=w) (P:=C.E.prog) ho
 match hx:args.toList,hl with
 | [x],_=>
  rw[hx]at hr;have hrel:=hr 0 (a.eval x) d rfl rfl;have hargs:args.map a.eval= #[a.eval x]:=by rw[<-Array.toArray_toList (xs:=args),hx];simp
  have h0:ats[0]? =some t:=by rw[<-Array.getElem?_toList,hds];rfl
  obtain⟨h1,h2⟩:=ZkL h.objs hrel hn hcond hE htd ats h0 o.type;refine Zu.quiet h hi ht (v:= .int .i64 n) (by rw[hrun,hargs];simp[builtin,h1]) rfl rfl rfl (.p _ _ (.int _ _ (ZdE h2).1 (ZdE h2).2))
omit hE in
theorem ZkS {args:Array Operand} {ats:Array TypeId} (ho:o.op= .call {callee:= .builtin .max,args,argTypes:=ats}) (hc:Zd C.E st.ep i o.op o.type st.slots st.objs=some e):Zu C X st a w i o e:=by
 rw[ho]at hc hlit
 simp only[Zd,ZI]at hc
 split at hc<;>simp only[Option.some.injEq,reduceCtorEq]at hc
 rename_i z hz
 subst hc
 obtain⟨hl,hr⟩:=Zaf h args.toList ats.toList (fun x hx=>by
  simp[Op.operands,Call.operands]at hlit
  obtain⟨j,hj,rfl⟩:=Array.mem_iff_getElem.1 (Array.mem_toList_iff.1 hx);exact hlit j hj)
 obtain⟨cs,hrun⟩:=ZA (a:=a) (w:=w) (P:=C.E.prog) ho
 obtain⟨r,h1,h2⟩:=ZkI hz (by simp[hl]) hr C.E.prog ats o.type
 have hargs:args.map a.eval=(args.toList.map a.eval).toArray:=by apply Array.ext';simp
 exact Zu.quiet h hi ht (v:=r) (by rw[hrun,hargs];simp only[builtin,Sem.run_bind,h1,Result.andThen_ok,Sem.run_pure]) rfl rfl rfl (.p _ _ h2)
omit hE in
theorem ZkR {args:Array Operand} {ats:Array TypeId} (ho:o.op= .call {callee:= .builtin .min,args,argTypes:=ats}) (hc:Zd C.E st.ep i o.op o.type st.slots st.objs=some e):Zu C X st a w i o e:=by
 rw[ho]at hc hlit
 simp only[Zd,ZI]at hc
 split at hc<;>simp only[Option.some.injEq,reduceCtorEq]at hc
 rename_i z hz
 subst hc
 obtain⟨hl,hr⟩:=Zaf h args.toList ats.toList (fun x hx=>by
  simp[Op.operands,Call.operands]at hlit
  obtain⟨j,hj,rfl⟩:=Array.mem_iff_getElem.1 (Array.mem_toList_iff.1 hx);exact hlit j hj)
 obtain⟨cs,hrun⟩:=ZA (a:=a) (w:=w) (P:=C.E.prog) ho
 obtain⟨r,h1,h2⟩:=ZkH hz (by simp[hl]) hr C.E.prog ats o.type
 have hargs:args.map a.eval=(args.toList.map a.eval).toArray:=by apply Array.ext';simp
 exact Zu.quiet h hi ht (v:=r) (by rw[hrun,hargs];simp only[builtin,Sem.run_bind,h1,Result.andThen_ok,Sem.run_pure]) rfl rfl rfl (.p _ _ h2)
end
end Eng
namespace Eng
open Go
section
variable {C:Ctx} {X:Nat->Prop} {ρ:Id->Option Lay} {S:Nat->Prop} {st:St} {a:Act} {w:World} {i:Nat} {o:Oper} {e:Eff}
theorem Zdh (ep i:Nat):∀(a:List D) (k:Nat),(ZeA ep i k a).length=a.length
 | [],_=>rfl
 |d::r,k=>by cases d<;>simp[ZeA,Zdh ep i r (k+1)]
theorem Zhx (ep i:Nat):∀(a:List D) (k j:Nat) (d:D),a[j]? =some d->
  (ZeA ep i k a)[j]? =some (match d with | .nils _=> .sl (ep,i,k+j) 0 0 |d=>d)
 | [],_,_,_,h=>by simp at h
 |x::r,k,0,d,h=>by simp at h;subst h;cases x<;>simp[ZeA]
 |x::r,k,j+1,d,h=>by
  have:=Zhx ep i r (k+1) j d (by simpa using h);have e:k+1+j=k+(j+1):=by omega
  rw[e]at this;cases x<;>simpa[ZeA]using this
theorem Zaz:∀(a:List D) (k m:Nat) (o:Obj),(m,o)∈ZZ k a->k<=m/\∃sz,a[m - k]? =some (.nils sz)/\o= .arr sz [] false
 | [],_,_,_,h=>by simp[ZZ]at h
 |d::r,k,m,o,h=>by
  have rest:(m,o)∈ZZ (k+1) r->k<=m/\∃sz,(d::r)[m - k]? =some (.nils sz)/\o= .arr sz [] false:=fun h=>by obtain⟨e,sz,b,c⟩:=Zaz r (k+1) m o h;refine⟨by omega,sz, ?_,c⟩;rw[show m - k=(m - (k+1))+1 by omega];simpa using b
  cases d<;>simp only[ZZ]at h<;>first |exact rest h |skip
  rcases ZmN.1 h with h |h
  ·simp only[Zm0]at h;obtain⟨rfl,rfl⟩:=h;exact⟨ZmT _,_,by simp,rfl⟩
  ·exact rest h
theorem Zd6 {v:Value} {d:D} (h:RelD w S ρ v d) (k:d.okv=true):v.cells.size=d.cells.length/\
  ∀(j:Nat) u c,v.cells[j]? =some u->d.cells[j]? =some c->RelD w S ρ u c/\ZbP u:=by
 have e:∀(v:Value) (d:D),v.cells= #[v]->d.cells=[d]->ZbP v->RelD w S ρ v d->v.cells.size=d.cells.length/\∀(j:Nat) u c,v.cells[j]? =some u->d.cells[j]? =some c->RelD w S ρ u c/\ZbP u:=by
  intro v d q k s B;rw[q,k];refine⟨rfl,fun j u c m g=> ?_⟩;cases j with
  |zero=>simp at m g;subst m g;exact⟨B,s⟩
  |succ j=>simp at g
 cases h with
 |p v x h=>
  have F:=h.size
  by_cases hx:∃cs,x= .agg cs
  ·obtain⟨cs,rfl⟩:=hx;refine⟨by simpa[D.cells,P.cells]using F,fun j u c m g=> ?_⟩;simp only[D.cells,ZmJ,ZmX]at g;obtain⟨y,E,rfl⟩:=g;have:=h.cell m (by simpa[P.cells]using E);exact⟨.p _ _ this.1,this.2⟩
  ·have q:v.cells= #[v]/\ZbP v:=by cases h<;>first |exact⟨rfl,rfl⟩ |exact absurd ⟨_,rfl⟩ hx
   have k:(D.p x).cells=[.p x]:=by cases x<;>first |rfl |exact absurd ⟨_,rfl⟩ hx
   exact e v _ q.1 k q.2 (.p _ _ h)
 |dead v=>simp[D.okv]at k
 |val v=>simp[D.okv]at k
 |undef=>simp[D.okv]at k
 |anyb b=>exact e _ _ rfl rfl rfl (.anyb b)
 |nils sz=>exact e _ _ rfl rfl rfl (.nils sz)
 |clip a n sz es h=>exact e _ _ rfl rfl rfl (.clip a n sz es h)
 |agg vs cs r s h=>exact⟨r,fun j u c m g=>⟨h j u c m g,s j u m⟩⟩
 |tup vs cs=>simp[D.okv]at k
 |sl id t len cap a L l r z g C=>exact e _ _ rfl rfl rfl (.sl id t len cap a L l r z g C)
 |ptr id i j L b l hi o=>exact e _ _ rfl rfl rfl (.ptr id i j L b l hi o)
 |map id L b l o=>exact e _ _ rfl rfl rfl (.map id L b l o)
 |it id L b l o=>exact e _ _ rfl rfl rfl (.it id L b l o)
 |fn f fs cs a b A g h G=>exact e _ _ rfl rfl rfl (.fn f fs cs a b A g h G)
def Zi4 (a:List D) (k0 k:Nat):Option Lay:=
 match a[k - k0]? with
 |some (.nils sz)=>if k0<=k then some ⟨none,0,sz,0,0⟩else none
 |_=>none
theorem Zhw {w':World} {S':Nat->Prop} {ρ':Id->Option Lay} {ep:Nat} {a:List D} {k0 j:Nat} {v:Value} {d:D} (m:Zcy S w w') (l:∀b,S b->S' b) (c:∀id L,ρ id=some L->ρ' id=some L)
  (g:∀k L,Zi4 a k0 k=some L->ρ' (ep,i,k)=some L) (e:a[j]? =some d) (h:RelD w S ρ v d):∃f,(ZeA ep i k0 a)[j]? =some f/\RelD w' S' ρ' v f:=by
 refine⟨_,Zhx ep i a k0 j d e, ?_⟩;cases d with
 |nils sz=>
  cases h;have:Zi4 a k0 (k0+j)=some ⟨none,0,sz,0,0⟩:=by simp[Zi4,e]
  exact .sl _ 0 0 0 none _ (g _ _ this) (by simp) (by simp) (by simp) (.inl rfl)
 |_=>exact h.mono m l c
theorem ZaM {w:World} {S:Nat->Prop} {ρ:Id->Option Lay} (sz:Nat) (fix:Bool):ZB w S ρ ⟨none,0,sz,0,0⟩ (.arr sz [] fix):=
 ⟨rfl,rfl,by simp,by simp,by simp,by simp,fun _=>default,by simp,by simp,by simp⟩
theorem Z2 {w w':World} {x:Go.Obj} (hw:w'.heap=w.heap.push x):w'.heap[w.heap.size]? =some x:=by rw[hw];simp
theorem Zap {w w':World} {x:Go.Obj} (hw:w'.heap=w.heap.push x) {b:Nat} (a:b < w.heap.size):w'.heap[b]? =w.heap[b]? :=by rw[hw,Array.getElem?_push,if_neg (Nat.ne_of_lt a)]
section
variable (h:Rep C X ρ S st a.tmps w) (hi:¬X i) (ht:∀d,o.dst=some d->d < C.E.nt) (hlit:o.op.operands.all Zz=true) (hE:Zl C.E)
include h hi
theorem Rep.fresh (k:Nat):ρ (st.ep,i,k)=none:=by
 cases hc:ρ (st.ep,i,k)with
 |none=>rfl
 |some L=>have:=h.young (st.ep,i,k) (by simp[hc]);simp[hi]at this
include ht
theorem Zu.box {us:Array Value} {t:TypeId} {l:List D} {w':World} (hw:w'.heap=w.heap.push (.cells us t)) (G:ZS w w') (s:(execOp a.eval o).run C.E.prog w= .ok (.value (.pointer (some ⟨w.heap.size,0,none⟩))) w')
  (hl:us.size=l.length) (v:∀(j:Nat) u d,us[j]? =some u->l[j]? =some d->RelD w S ρ u d/\ZbP u)
  (U:e={val:= .ptr (st.ep,i,0) 0 0,new:=(0,.box (ZeA st.ep i 1 l))::ZZ 1 l}):Zu C X st a w i o e:=by
 subst U;let L:Lay:=⟨some w.heap.size,0,l.length,1,1⟩;let ρ':Id->Option Lay:=fun id=>if id.1=st.ep/\id.2.1=i then (if id.2.2=0 then some L else Zi4 l 1 id.2.2)else ρ id
 have f:=h.fresh hi;have x:∀id L,ρ id=some L->ρ' id=some L:=by
  intro id L' n;simp only[ρ'];split
  ·rename_i A;obtain⟨ep,j,k⟩:=id;simp only at A;obtain⟨rfl,rfl⟩:=A;rw[f k]at n;simp at n
  ·exact n
 have J:∀k L,Zi4 l 1 k=some L->ρ' (st.ep,i,k)=some L:=by
  intro k L' B;have:k≠0:=by rintro rfl;simp[Zi4]at B;split at B<;>simp at B
  simp[ρ',this,B]
 have p:ρ' (st.ep,i,0)=some L:=by simp[ρ']
 have O:∀b,b < w.heap.size->w'.heap[b]? =w.heap[b]? :=fun b m=>Zap hw m
 have R:Zcy S w w':=fun b m _=>O b (h.sIn b m)
 have W:w'.heap.size=w.heap.size+1:=by rw[hw];simp
 have q:∀j,w'.cell? ⟨w.heap.size,j,none⟩=us[j]? :=fun j=>by simp[World.cell?,Z2 hw]
 have F:∀j,w'.frozen? ⟨w.heap.size,j,none⟩=false:=fun j=>by simp[World.frozen?,Z2 hw]
 refine⟨_,_,w',s,.inl rfl,ρ',h.step ρ' hi ht (by omega) G (fun b m _=>O b m) (by simp) x ?_ (by simp) ?_ ?_ (by simp) ?_⟩
 ·intro id H;simp only[ρ']at H;split at H
  ·rename_i A;exact .inr A
  ·exact .inl H
 ·intro k o' c;rcases ZmN.1 c with c |c
  ·simp only[Zm0]at c;obtain⟨rfl,rfl⟩:=c;refine⟨L,p,fun b m=> ?_,fun S' V _ _=>⟨w.heap.size,rfl,by simp[L,Zdh],rfl,fun j d N=> ?_⟩⟩
   ·simp only[L,ZmZ]at m;subst m;exact⟨.inl (ZmT _),by omega⟩
   ·have y:j < l.length:=by have:=(ZmI.1 N).1;simpa[Zdh]using this
    have r:j < us.size:=by omega
    obtain⟨T,Y⟩:=v j us[j] l[j] (by simp[r]) (by simp[y]);obtain⟨d',z,Q⟩:=Zhw (i:=i) (ep:=st.ep) (k0:=1) R V x J (by simp[y]:l[j]? =some l[j]) T;rw[N]at z;obtain rfl:=ZmY z;refine⟨us[j], ?_, ?_,Y,Q⟩
    ·simp[L,q,r]
    ·simp[L,F]
  ·obtain⟨E,sz,I,rfl⟩:=Zaz _ _ _ _ c;refine⟨⟨none,0,sz,0,0⟩,J _ _ (by simp[Zi4,I,E]),by simp,fun S' _ _ _=>ZaM sz false⟩
 ·intro k Z L1 k' o2 L2 b c _ n m g _ K M;have P:∀k o L b,(k,o)∈ZZ 1 l->ρ' (st.ep,i,k)=some L->L.blk=some b->False:=by intro k o L b c n m;obtain⟨E,sz,I,_⟩:=Zaz _ _ _ _ c;rw[J _ ⟨none,0,sz,0,0⟩ (by simp[Zi4,I,E])]at n;cases n;simp at m
  rcases ZmN.1 c with c |c
  ·rcases ZmN.1 g with g |g
   ·simp only[Zm0]at c g;rw[c.1,g.1]
   ·exact(P _ _ _ _ g K M).elim
  ·exact(P _ _ _ _ c n m).elim
 ·intro S' _ _ d _;have:=RelD.ptr (w:=w') (S:=S') (ρ:=ρ') (st.ep,i,0) 0 0 L w.heap.size p (by simp[L]) rfl;simpa[L]using this
theorem Zu.arr {cells:Array Value} {t:TypeId} {fr:Nat×Nat} {sz len cap:Nat} {es:List P} {fs:List Id} {c:List Bool} {evs:Nat->Value} {w':World} (hw:w'.heap=w.heap.push (.cells cells t fr)) (E:ZS w w') (I:∀j,j < cells.size->¬(fr.1<=j/\j < fr.2))
  (p:(execOp a.eval o).run C.E.prog w= .ok (.value (.slice (some ⟨w.heap.size,0,none⟩) len cap)) w')
  (s:es.length=len) (y:len<=cap) (r:len<=Zah/\cap<=Zq) (O:cells.size=cap*sz) (F:∀j,j < len->(evs j).cells.size=sz)
  (m:∀(j k:Nat) v,j < len->(evs j).cells[k]? =some v->cells[j*sz+k]? =some v)
  (K:∀id,id∈fs->ρ id≠none)
  (q:∀S',(∀b,S b->S' b)->(∀id,id∈fs->∀o L b,st.objs id=some o->o≠ .gone->ρ id=some L->L.blk=some b->S' b)->∀(j:Nat) x,es[j]? =some x->RelP w S' (evs j) x)
  (Q:e={val:= .sl (st.ep,i,0) 0 len,new:=[(0,.arr sz es false)],frz:=fs,cond:=c}):Zu C X st a w i o e:=by
 subst Q;let L:Lay:=⟨some w.heap.size,0,sz,len,cap⟩;let ρ':Id->Option Lay:=upd ρ (st.ep,i,0) (some L);have f:=h.fresh hi;have J:∀id L,ρ id=some L->ρ' id=some L:=by
  intro id L' B;simp only[ρ',upd];split
  ·rename_i n;subst n;rw[f]at B;simp at B
  ·exact B
 have l:ρ' (st.ep,i,0)=some L:=by simp[ρ',upd]
 have M:∀b,b < w.heap.size->w'.heap[b]? =w.heap[b]? :=fun b g=>Zap hw g
 have T:w'.heap.size=w.heap.size+1:=by rw[hw];simp
 have n:∀j,w'.cell? ⟨w.heap.size,j,none⟩=cells[j]? :=fun j=>by simp[World.cell?,Z2 hw]
 have D:∀j,j < cells.size->w'.frozen? ⟨w.heap.size,j,none⟩=false:=fun j z=>by have:=I j z;simp only[World.frozen?,Z2 hw];simpa using this
 refine⟨_,_,w',p,.inl rfl,ρ',h.step ρ' hi ht (by omega) E (fun b g _=>M b g) (by simp) J ?_ (fun id H=>⟨K id H,by simp⟩) ?_ ?_ (by simp) ?_⟩
 ·intro id G;simp only[ρ',upd]at G;split at G
  ·rename_i n;subst n;exact .inr ⟨rfl,rfl⟩
  ·exact .inl G
 ·intro k o' A;simp only[ZmQ,Zm0]at A;obtain⟨rfl,rfl⟩:=A;refine⟨L,l,fun b g=> ?_,fun S' R N _=>⟨rfl,s,y,r.1,by simp[L],fun b g j z=> ?_,evs,F,fun b g j k v z V=> ?_,fun j x U=> ?_⟩⟩
  ·simp only[L,ZmZ]at g;subst g;exact⟨.inl (ZmT _),by omega⟩
  ·simp only[L,ZmZ]at g;subst g;simp only[L]at z;have:j < cells.size:=by omega
   exact⟨⟨cells[j],by simp[L,n,this]⟩,by simpa[L]using D j this⟩
  ·simp only[L,ZmZ]at g;subst g;simp only[L,Nat.zero_add,n];exact m j k v z V
  ·have:=q S' R N j x U;exact this.mono (fun b _ g=>M b g) fun _ h=>h
 ·intro k Z L1 k' o2 L2 b A _ B g u _ W Y;simp only[ZmQ,Zm0]at A u;rw[A.1,u.1]
 ·intro S' _ _ d _;exact .sl _ 0 len cap _ L l (by simp[L]) r y (.inr ⟨w.heap.size,rfl,by simp[L],by simp[L]⟩)
include hE
omit h hi ht in
theorem ZfL {t:Nat} {ti:TI} (hty:C.E.ty t=some ti):∃z,(∀w,(zeroValue t).run C.E.prog w= .ok z w)/\z.cells.size=(ti.zero.map Z.toD).length/\z.cells.size=ti.size/\
  ∀(j:Nat) u d,z.cells[j]? =some u->(ti.zero.map Z.toD)[j]? =some d->RelD w S ρ u d/\ZbP u:=by
 obtain⟨ii,ds,z,hti⟩:=hE.is hty
 obtain⟨hl,hz⟩:=Zdg hti.zs
 simp at hl
 refine⟨z,fun w=>Z1 hti.info hti.zero w,by simp[hl],by rw[hl];exact hti.zl,fun j u d hu hd=> ?_⟩
 rw[List.getElem?_map,Option.map_eq_some_iff]at hd
 obtain⟨y,hy,rfl⟩:=hd
 exact Zlr (hz j u y (by simpa using hu) hy)
theorem ZiN {t:TypeId} (ho:o.op= .alloc t) (hc:Zd C.E st.ep i o.op o.type st.slots st.objs=some e):Zu C X st a w i o e:=by rw[ho]at hc;simp only[Zd]at hc;split at hc;rotate_left;simp at hc;rename_i ti hty;simp only[ZmZ]at hc;obtain⟨z,hz,hl,_,hrel⟩:=ZfL (ρ:=ρ) (S:=S) (w:=w) hE hty;refine Zu.box h hi ht (us:=z.cells) (t:=t) (w':=w.alloc (.cells z.cells t)) rfl ⟨rfl,rfl⟩ ?_ hl hrel hc.symm;simp only[execOp,ho,Instr.alloc,Sem.run_bind,hz,Result.andThen_ok,newVar,newRow,run_newObj,Sem.run_pure,World.alloc_eq]
include hlit
theorem ZkU {t:TypeId} {x:Operand} (k:o.op= .box t x) (b:Zd C.E st.ep i o.op o.type st.slots st.objs=some e):Zu C X st a w i o e:=by
 rw[k]at b hlit;simp[Op.operands]at hlit;have l:=Zj h t hlit;simp only[Zd]at b;split at b;rotate_left;simp at b;rename_i ti m;split at b;rotate_left;simp at b;rename_i f;obtain⟨f,g⟩:=f;simp only[ZmZ]at b;have c:(execOp a.eval o).run C.E.prog w= .ok (.value (.pointer (some ⟨w.heap.size,0,none⟩))) (w.alloc (.cells (a.eval x).cells t)):=by simp[execOp,k,Instr.box,newVar,newRow]
 have cells:(a.eval x).cells.size=(ev C.E st.slots t x).cells.length/\∀(j:Nat) u d,(a.eval x).cells[j]? =some u->(ev C.E st.slots t x).cells[j]? =some d->RelD w S ρ u d/\ZbP u:=Zd6 l g;exact Zu.box h hi ht (w':=w.alloc (.cells (a.eval x).cells t)) rfl ⟨rfl,rfl⟩ c cells.1 cells.2 b.symm
end
end
end Eng
namespace Eng
open Go
section
variable {C:Ctx} {X:Nat->Prop} {ρ:Id->Option Lay} {S:Nat->Prop} {st:St} {a:Act} {w:World} {i:Nat} {o:Oper} {e:Eff}
section
variable (h:Rep C X ρ S st a.tmps w) (hi:¬X i) (ht:∀d,o.dst=some d->d < C.E.nt) (hlit:o.op.operands.all Zz=true) (hE:Zl C.E)
include h hi ht
theorem Zu.new1 {x:Go.Obj} {L:Lay} {F:Obj} {fs:List Id} {c:List Bool} {v:Value} {d:D} {w':World} (hw:w'.heap=w.heap.push x) (u:ZS w w')
  (m:(execOp a.eval o).run C.E.prog w= .ok (.value v) w') (t:L.blk=some w.heap.size) (E:∀id,id∈fs->ρ id≠none)
  (r:∀S' ρ',(∀b,S b->S' b)->(∀id,id∈fs->∀o L b,st.objs id=some o->o≠ .gone->ρ id=some L->L.blk=some b->S' b)->(∀id L,ρ id=some L->ρ' id=some L)->ρ' (st.ep,i,0)=some L->ZB w' S' ρ' L F)
  (p:∀S' ρ',(∀b,S b->S' b)->(∀id L,ρ id=some L->ρ' id=some L)->ρ' (st.ep,i,0)=some L->RelD w' S' ρ' v d)
  (H:e={val:=d,new:=[(0,F)],frz:=fs,cond:=c}):Zu C X st a w i o e:=by
 subst H;let ρ':Id->Option Lay:=upd ρ (st.ep,i,0) (some L);have f:=h.fresh hi;have l:∀id L,ρ id=some L->ρ' id=some L:=by
  intro id L' s;simp only[ρ',upd];split
  ·rename_i B;subst B;rw[f]at s;simp at s
  ·exact s
 have g:ρ' (st.ep,i,0)=some L:=by simp[ρ',upd]
 have I:∀b,b < w.heap.size->w'.heap[b]? =w.heap[b]? :=fun b j=>Zap hw j
 have J:w'.heap.size=w.heap.size+1:=by rw[hw];simp
 refine⟨_,_,w',m,.inl rfl,ρ',h.step ρ' hi ht (by omega) u (fun b j _=>I b j) (by simp) l ?_ (fun id A=>⟨E id A,by simp⟩) ?_ ?_ (by simp) ?_⟩
 ·intro id y;simp only[ρ',upd]at y;split at y
  ·rename_i B;subst B;exact .inr ⟨rfl,rfl⟩
  ·exact .inl y
 ·intro k o' q;simp only[ZmQ,Zm0]at q;obtain⟨rfl,rfl⟩:=q;refine⟨L,g,fun b j=> ?_,fun S' z G _=>r S' ρ' z G l g⟩;rw[t]at j;cases j;exact⟨.inl (ZmT _),by omega⟩
 ·intro k N L1 P O L2 b q _ s j n _ K M;simp only[ZmQ,Zm0]at q n;rw[q.1,n.1]
 ·intro S' z _ d _;exact p S' ρ' z l g
theorem Zgu {t:TypeId} (c:o.op= .makeMap t none) (b:Zd C.E st.ep i o.op o.type st.slots st.objs=some e):Zu C X st a w i o e:=by
 rw[c]at b;simp only[Zd,ZmZ]at b;refine Zu.new1 h hi ht (x:= .map #[] 0) (L:=⟨some w.heap.size,0,0,0,0⟩) (w':=w.alloc (.map #[] 0)) (v:= .map (some w.heap.size)) rfl ⟨rfl,rfl⟩ (by simp[execOp,c,Instr.makeMap]) rfl (fs:=[]) (by simp) ?_ ?_ b.symm
 ·intro S' ρ' _ _ _ _;exact⟨_,rfl, #[],0,[],Z2 rfl,.refl _,rfl,by simp,by simp,by simp,by simp,by simp⟩
 ·intro S' ρ' _ _ d;exact .map _ _ _ d rfl
include hlit hE
theorem ZiH {t:TypeId} {x:Operand} (N:o.op= .range t x) (m:Zd C.E st.ep i o.op o.type st.slots st.objs=some e):Zu C X st a w i o e:=by
 rw[N]at m hlit;simp[Op.operands]at hlit;have z:=Zj h 0 hlit;simp only[Zd]at m;split at m
 ·
  rename_i s u M;rw[M]at z;obtain⟨h2,Z⟩:=z.of_p.str_inv;simp only[ZmZ]at m;obtain⟨d,D,B⟩:=hE.und u;have y:d= .string:=by cases d<;>simp[Zau]at B<;>rfl
  subst y;refine Zu.new1 h hi ht (x:= .stringIter ⟨s.toArray⟩ 0) (L:=⟨some w.heap.size,0,0,0,0⟩) (w':=w.alloc (.stringIter ⟨s.toArray⟩ 0)) (v:= .pointer (some ⟨w.heap.size,0,none⟩)) rfl ⟨rfl,rfl⟩
   (by simp[execOp,N,Instr.range,h2,Za D]) rfl (fs:=[]) (by simp) ?_ ?_ m.symm
  ·intro S' ρ' _ _ _ _;exact⟨_,rfl,Z2 rfl,Z⟩
  ·intro S' ρ' _ _ n;exact .it _ _ _ n rfl
 ·
  rename_i k U td W u M;rw[M]at z;simp only[ZmZ]at m;obtain⟨d,D,B⟩:=hE.und u;have y:d= .map k U:=by cases d<;>simp[Zau]at B;simp[B]
  subst y;generalize hv:a.eval x=v at z;have z:=z.of_p;cases z with
  |nilmap=>
   refine Zu.new1 h hi ht (x:= .mapIter none 0 #[] 0) (L:=⟨some w.heap.size,0,0,0,0⟩) (w':=w.alloc (.mapIter none 0 #[] 0)) (v:= .pointer (some ⟨w.heap.size,0,none⟩)) rfl ⟨rfl,rfl⟩
    (by simp[execOp,N,Instr.range,hv,Za D]) rfl (fs:=[]) (by simp) ?_ ?_ m.symm
   ·intro S' ρ' _ _ _ _;exact⟨_,rfl,.inl ⟨0, #[],0,Z2 rfl,rfl,rfl⟩⟩
   ·intro S' ρ' _ _ n;exact .it _ _ _ n rfl
  |map td r es c W f hS p V F hk R T I g A=>
   refine Zu.new1 h hi ht (x:= .mapIter (some r) c #[] c) (L:=⟨some w.heap.size,0,0,0,0⟩) (w':=w.alloc (.mapIter (some r) c #[] c)) (v:= .pointer (some ⟨w.heap.size,0,none⟩)) rfl ⟨rfl,rfl⟩
    (by simp[execOp,N,Instr.range,hv,Za D,getObj,Sem.run,p]) rfl (fs:=[]) (by simp) ?_ ?_ m.symm
   ·intro S' ρ' l _ _ _;have H:Zcy S w (w.alloc (.mapIter (some r) c #[] c)):=fun b p _=>Zap rfl (h.sIn b p)
    refine⟨_,rfl,.inr ⟨r,es,c, #[],f,l r hS, ?_,Z2 rfl,F,fun j e q K E=>⟨(hk j e q K E).mono H l,(R j e q K E).mono H l⟩,g,A, ?_,rfl⟩⟩
    ·rw[Zap (w:=w) (x:= .mapIter (some r) c #[] c) rfl (ZdS p)];exact p
    ·have:(es.toList.zip f).filter (fun x=> !(#[]:Array Nat).contains x.1.born)=es.toList.zip f:=by simp
     rw[this,List.map_snd_zip (by simp[F])];exact V
   ·intro S' ρ' _ _ n;exact .it _ _ _ n rfl
 ·
  rename_i k U id u M;split at m;rotate_left;simp at m;rename_i td W Q;rw[M]at z;simp only[ZmZ]at m;obtain⟨d,D,B⟩:=hE.und u;have y:d= .map k U:=by cases d<;>simp[Zau]at B;simp[B]
  subst y;generalize hv:a.eval x=v at z;cases z with
  |map id L r n J=>
   obtain⟨L',P,r',G,es,c,f,p,V,F,O,T,I,g,A⟩:=h.objs id _ Q (by simp);rw[n]at P;obtain rfl:=ZmY P;rw[J]at G;obtain rfl:=ZmY G;refine Zu.new1 h hi ht (x:= .mapIter (some r) c #[] c) (L:=⟨some w.heap.size,0,0,0,0⟩) (w':=w.alloc (.mapIter (some r) c #[] c)) (v:= .pointer (some ⟨w.heap.size,0,none⟩)) rfl ⟨rfl,rfl⟩
    (by simp[execOp,N,Instr.range,hv,Za D,getObj,Sem.run,p]) rfl (fs:=[id]) (by simp[n]) ?_ ?_ m.symm
   ·intro S' ρ' l Y _ _;have H:Zcy S w (w.alloc (.mapIter (some r) c #[] c)):=fun b p _=>Zap rfl (h.sIn b p)
    refine⟨_,rfl,.inr ⟨r,es,c, #[],f,Y id (by simp) _ L r Q (by simp) n J, ?_,Z2 rfl,F,fun j e q K E=>⟨(O j e q K E).1.mono H l,(O j e q K E).2.mono H l⟩,g,A, ?_,rfl⟩⟩
    ·rw[Zap (w:=w) (x:= .mapIter (some r) c #[] c) rfl (ZdS p)];exact p
    ·have:(es.toList.zip f).filter (fun x=> !(#[]:Array Nat).contains x.1.born)=es.toList.zip f:=by simp
     rw[this,List.map_snd_zip (by simp[F])];exact V
   ·intro S' ρ' _ _ n;exact .it _ _ _ n rfl
 ·simp at m
omit h hi ht hlit in
theorem Zb9 {t:Nat} {ti:TI} (hty:C.E.ty t=some ti):∃z,(∀w,(zeroValue t).run C.E.prog w= .ok z w)/\z.cells.size=ti.size/\RelP w S z ti.zeroP:=by
 obtain⟨ii,ds,z,hti⟩:=hE.is hty
 obtain⟨hl,hz⟩:=Zdg hti.zs
 simp at hl
 have leaf:∀v z',zOk v z'=true->RelP w S v z'.toP/\ZbP v:=by
  intro v z' hz
  unfold zOk at hz
  split at hz
  ·exact⟨.bool false,rfl⟩
  ·rename_i k n k' m
   simp only[Bool.and_eq_true,beq_iff_eq]at hz
   obtain⟨⟨rfl,rfl⟩,rfl⟩:=hz
   refine⟨.int _ _ ?_ ?_,rfl⟩<;>cases k<;>decide
  ·rename_i s
   obtain⟨⟨l⟩⟩:=s
   simp at hz
   subst hz
   exact⟨.str [] (by simp),rfl⟩
  ·exact⟨.sl none 0 0 _ [] (fun _=>default) rfl (by simp) (by simp) (by simp) (by simp) (by simp),rfl⟩
  ·exact⟨.nilp,rfl⟩
  ·exact⟨.nilmap _,rfl⟩
  ·exact⟨.nilfn,rfl⟩
  ·simp at hz
 refine⟨z,fun w=>Z1 hti.info hti.zero w,by rw[hl];exact hti.zl, ?_⟩
 unfold TI.zeroP
 cases hg:ti.isAgg with
 |true=>
  obtain⟨cs,rfl⟩:=hti.agg hg
  simp only[if_true]
  simp only[Value.cells]at hl hz
  refine .agg cs _ (by simp[hl]) (fun j v hv=> ?_) (fun j v c hv hc=> ?_)
  ·have hj:j < ti.zero.length:=by have:=(Array.getElem?_eq_some_iff.1 hv).1;omega
   exact(leaf v ti.zero[j] (hz j v _ (by simpa using hv) (by simp[hj]))).2
  ·rw[List.getElem?_map,Option.map_eq_some_iff]at hc
   obtain⟨y,hy,rfl⟩:=hc
   exact(leaf v y (hz j v y (by simpa using hv) hy)).1
 |false=>
  obtain⟨hc1,hl1⟩:=hti.flat hg
  simp only[Bool.false_eq_true,if_false]
  obtain⟨y,hy⟩:∃y,ti.zero=[y]:=by
   match hq:ti.zero,hl1 with
   | [y],_=>exact⟨y,rfl⟩
  rw[hy]
  simp only[List.map_cons,List.map_nil,List.headD_cons]
  exact(leaf z y (hz 0 z y (by rw[hc1];rfl) (by rw[hy];rfl))).1
theorem Zes {t:TypeId} {l c:Operand} (ho:o.op= .makeSlice t l c) (hc:Zd C.E st.ep i o.op o.type st.slots st.objs=some e) (hcond:∀q∈e.cond,q=true):Zu C X st a w i o e:=by
 rw[ho]at hc hlit;simp[Op.operands]at hlit;have h1:=Zj h 0 hlit.1;have h2:=Zj h 0 hlit.2;simp only[Zd]at hc;split at hc;rotate_left;simp at hc;rename_i te k1 n1 k2 n2 hel hn1 hn2;simp only[ZmZ]at hc;rw[hn1]at h1;rw[hn2]at h2;obtain⟨e1,_,_⟩:=ZbL h1;obtain⟨e2,_,_⟩:=ZbL h2;subst hc;obtain⟨g0,g1,g2,g3⟩:=of_decide_eq_true (hcond _ ZmO);unfold Env.elem at hel;split at hel;rotate_left;simp at hel;rename_i el sz by_ ze hty;have hu:=hE.slice hty rfl;obtain⟨z,hz,hzs,hzr⟩:=Zb9 (w:=w) (S:=S) hE hel;obtain⟨ii,ds,z',hti⟩:=hE.is hel;have hzz:z'=z:=by have h1:=hz w;rw[Z1 hti.info hti.zero w]at h1;simpa using h1
 subst hzz;unfold ZO at g2 g3;have hr:=run_make (P:=C.E.prog) w t el ii z' hu hti.info hti.zero k1 k2 n1 n2 g0 g1 (by rw[hti.bytes,Int.mul_comm];omega) (by omega);rw[hti.size]at hr;have hcs:(madeCells z'.cells (n2.toNat*te.size)).size=n2.toNat*te.size:=size_madeCells _ _;have hcell:∀j,j < n2.toNat*te.size->(madeCells z'.cells (n2.toNat*te.size))[j]? =some (z'.cells[j % te.size]!):=fun j hj=>by simp[madeCells,hj,hzs]
 generalize hcc:madeCells z'.cells (n2.toNat*te.size)=cells at hr hcs hcell;refine Zu.arr h hi ht (cells:=cells) (t:=el) (sz:=te.size) (len:=n1.toNat) (cap:=n2.toNat) (es:=List.replicate n1.toNat te.zeroP) (evs:=fun _=>z') (w':=w.alloc (.cells cells el)) rfl ⟨rfl,rfl⟩ (by simp) ?_
  (by simp) (by omega) (by unfold Zah Zq;omega) hcs (fun _ _=>hzs) ?_ (fs:=[]) (by simp) ?_ rfl
 ·simp only[execOp,ho,e1,e2,Sem.run_bind,hr,Result.andThen_ok,Sem.run_pure]
 ·intro j k v hj hv;have hk:k < te.size:=by have:=(Zmy.1 hv).1;omega
  have hlt:j*te.size+k < n2.toNat*te.size:=by have:(j+1)*te.size<=n2.toNat*te.size:=ZmU _ (by omega);rw[ZmS]at this;omega
  rw[hcell _ hlt];have:(j*te.size+k) % te.size=k:=by rw[Nat.mul_comm,Nat.mul_add_mod];exact Nat.mod_eq_of_lt hk
  rw[this];rw[getElem!_def,hv]
 ·intro S' hS _ j x hx;rw[List.getElem?_replicate]at hx;split at hx;rotate_left;simp at hx;cases hx;exact hzr.mono (fun _ _ _=>rfl) hS
end
end
end Eng
namespace Eng
open Go
section
variable {C:Ctx} {X:Nat->Prop} {ρ:Id->Option Lay} {S:Nat->Prop} {st:St} {a:Act} {w:World} {i:Nat} {o:Oper} {e:Eff}
theorem Zhq {evs:Nat->Value} {es:List P} (e:es.all P.isU8=true) (g:∀(j:Nat) x,es[j]? =some x->RelP w S (evs j) x):
  ∃xs:List Int,xs.length=es.length/\(∀j,j < es.length->evs j= .int .u8 (xs.getD j 0))/\strOfNums xs=⟨(es.map P.byte).toArray⟩:=by
 let f:P->Int:=fun | .int _ n=>n |_=>0
 have key:∀x∈es,x= .int .u8 (f x):=by intro x b;have:=List.all_eq_true.1 e x b;cases x<;>simp[P.isU8]at this;rename_i k n;cases k<;>simp[P.isU8]at this;rfl
 refine⟨es.map f,by simp,fun j d=> ?_, ?_⟩
 ·have c:=g j es[j] (by simp[d]);rw[key es[j] (List.getElem_mem _)]at c;rw[c.int_inv.1];simp[d]
 ·have:(es.map f).map (fun n=>UInt8.ofNat n.toNat)=es.map P.byte:=by rw[List.map_map];apply List.map_congr_left;intro x b;have a:=key x b;rw[a];rfl
  simp only[strOfNums,this]
section
variable (h:Rep C X ρ S st a.tmps w) (hi:¬X i) (ht:∀d,o.dst=some d->d < C.E.nt) (hlit:o.op.operands.all Zz=true) (hE:Zl C.E)
include h hi ht hlit hE
theorem Zgw {s t:TypeId} {x:Operand} (V:o.op= .convert s t x) (r:Zd C.E st.ep i o.op o.type st.slots st.objs=some e) (z:∀q∈e.cond,q=true):Zu C X st a w i o e:=by
 rw[V]at r hlit;simp[Op.operands]at hlit;have H:=Zj h 0 hlit;simp only[Zd,Zar]at r;split at r
 ·
  rename_i k k' af n J y D;rw[D]at H;obtain⟨R,_,_⟩:=ZbL H;cases r;obtain⟨d,E,M⟩:=hE.und J;obtain⟨B,g,l⟩:=hE.und y;have e2:B= .int k':=by cases B<;>simp[Zau]at l;simp[l]
  subst e2;refine Zu.quiet h hi ht (v:= .int k' (k'.wrap n)) ?_ rfl rfl rfl (.p _ _ (.int _ _ (ZaY _ _).1 (ZaY _ _).2));cases d<;>simp[execOp,V,R,convert,Za E,Za g,Conv.intToInt]<;>rfl
 ·
  rename_i c J y D;rw[D]at H;obtain⟨R,e2⟩:=H.of_p.str_inv;cases r;obtain⟨d,E,M⟩:=hE.und J;obtain⟨B,g,l⟩:=hE.und y;have Q:d= .string:=by cases d<;>simp[Zau]at M;rfl
  have S:B= .string:=by cases B<;>simp[Zau]at l;rfl
  subst Q S;exact Zu.quiet h hi ht (v:= .string ⟨c.toArray⟩) (by simp[execOp,V,R,convert,Za E,Za g]) rfl rfl rfl (.p _ _ (.str _ e2))
 ·
  rename_i f c J y D;split at r;rotate_left;simp at r;rename_i K;rw[D]at H;obtain⟨R,e2⟩:=H.of_p.str_inv;simp only[ZmZ]at r;obtain⟨d,E,M⟩:=hE.und J;obtain⟨B,g,l⟩:=hE.und y;obtain⟨A,m,p⟩:=hE.und K;have Q:d= .string:=by cases d<;>simp[Zau]at M;rfl
  have S:B= .slice f:=by cases B<;>simp[Zau]at l;simp[l]
  have e5:A= .int .u8:=by cases A<;>simp[Zau]at p;simp[p]
  subst Q S e5;have Z:=run_bytes_of_string (P:=C.E.prog) w s t f ⟨c.toArray⟩ E g m;have F:=grownCap_ge w (ByteArray.size ⟨c.toArray⟩) 0 f;have U:ByteArray.size ⟨c.toArray⟩=c.length:=ZaZ c;rw[U]at Z F;have N:(bytesRow ⟨c.toArray⟩ (grownCap w c.length 0 f)).size=grownCap w c.length 0 f:=by simp[bytesRow,U];omega
  by_cases hbig:c.length<=Zah
  ·refine Zu.arr h hi ht (cells:=bytesRow ⟨c.toArray⟩ (grownCap w c.length 0 f)) (t:=f) (fr:=((bytesRow ⟨c.toArray⟩ (grownCap w c.length 0 f)).size,(bytesRow ⟨c.toArray⟩ (grownCap w c.length 0 f)).size+1)) (w':=w.drew.alloc (.cells (bytesRow ⟨c.toArray⟩ (grownCap w c.length 0 f)) f ((bytesRow ⟨c.toArray⟩ (grownCap w c.length 0 f)).size,(bytesRow ⟨c.toArray⟩ (grownCap w c.length 0 f)).size+1))) (sz:=1) (len:=c.length) (cap:=grownCap w c.length 0 f) (es:=ZaH c)
    (evs:=fun j=> .int .u8 (c.getD j 0).toNat) rfl ⟨rfl,rfl⟩ (fun j G=>by dsimp only;omega) (by simp only[execOp,V,R,Sem.run_bind,Z,Result.andThen_ok,Sem.run_pure])
    (by simp[ZaH]) F ⟨hbig,grownCap_le_maxLen w c.length 0 f (by unfold Zah at hbig;unfold maxLen;omega)⟩ (by rw[N];simp) (fun _ _=>rfl) ?_ (fs:=[]) (by simp) ?_ r.symm
   ·intro j k v G W;cases k with
    |succ k=>simp[Value.cells]at W
    |zero=>
     simp[Value.cells]at W;subst W;simp[bytesRow,Array.getElem?_append,G]
   ·intro S' _ _ j x D;have G:j < c.length:=by have:=(ZmI.1 D).1;simpa[ZaH]using this
    simp[ZaH,G]at D;subst D;have:(c.getD j 0)=c[j]:=by simp[G]
    rw[this];have hb:=c[j].toNat_lt;refine .int .u8 _ ?_ ?_<;>simp[IntKind.min,IntKind.max,IntKind.signed,IntKind.bits]<;>omega
  ·exact absurd (of_decide_eq_true (z _ (by rw[<-r];exact ZmO))) hbig
 ·
  rename_i _ f J y;split at r;rotate_left;simp at r;rename_i sz es K D;simp only[ZmZ]at r;have aa:es.all P.isU8=true:=z _ (by rw[<-r];exact ZmO);obtain⟨d,E,M⟩:=hE.und J;obtain⟨B,g,l⟩:=hE.und y;obtain⟨A,m,p⟩:=hE.und K;have Q:d= .slice f:=by cases d<;>simp[Zau]at M;simp[M]
  have S:B= .string:=by cases B<;>simp[Zau]at l;rfl
  have e5:A= .int .u8:=by cases A<;>simp[Zau]at p;simp[p]
  subst Q S e5;have hp:=ZaA (S':=fun _=>True) h.objs (fun _ _=>trivial) 1 _ _ _ H D (fun _ _ _ _ _ _=>trivial);subst r;generalize W:a.eval x=v at hp;cases hp with
  |sl ad len cap sz es evs hl hm ai N u Z=>
   obtain⟨xs,ah,ab,ae⟩:=Zhq aa Z;refine Zu.quiet h hi ht (v:= .string ⟨(es.map P.byte).toArray⟩) ?_ rfl rfl rfl (.p _ _ (.str _ (by simp;unfold Zah at hm;unfold Zq;omega)));have O:(convert s t (.slice ad len cap)).run C.E.prog w= .ok (.string ⟨(es.map P.byte).toArray⟩) w:=by
    cases ad with
    |none=>
     have h0:len=0:=by
      cases len with
      |zero=>rfl
      |succ n=>obtain⟨b,o',hb,_⟩:=u 0 (by omega);simp at hb
     subst h0;have I:es=[]:=List.eq_nil_of_length_eq_zero hl;subst I;rw[run_convert_bytes_nil w s f E m 0 cap t g];rfl
    |some ad=>
     by_cases h0:len=0
     ·subst h0;have I:es=[]:=List.eq_nil_of_length_eq_zero hl;subst I;rw[run_convert_bytes_string w s t f (some ad) 0 cap E m g,run_bytesToString w ad 0 cap [] (by simpa using run_loadCells_list (P:=C.E.prog) w ad [] (by simp))];rfl
     ·obtain⟨b,o',hb,_⟩:=u 0 (by omega);cases hb;rw[run_convert_bytes_arg w s f E m b o' len cap xs (by omega) (fun j G=>by obtain⟨b',ag,Y,_,ac⟩:=u j G;simp only[ZmZ,Addr.mk.injEq]at Y;obtain⟨rfl,rfl,_⟩:=Y;have T:=ab j (by omega);have L:=N j G;rw[T]at L;simp[Value.cells]at L;have:=ac 0 (.int .u8 (xs.getD j 0)) (by rw[T];rfl);rw[<-L]at this;simpa using this) t g,ae]
   simp only[execOp,V,W,Sem.run_bind,O,Result.andThen_ok,Sem.run_pure]
 ·simp at r
end
end
end Eng
namespace Eng
open Go
theorem ZhW (a:Nat):∀(l:List Value) (k:Nat) (cs:Array Value),
  ((l.zipIdx k).foldl (fun cs (c,j)=>cs.setIfInBounds (a+j) c) cs).size=cs.size/\
  ∀m,((l.zipIdx k).foldl (fun cs (c,j)=>cs.setIfInBounds (a+j) c) cs)[m]? =if a+k<=m/\m < a+k+l.length/\m < cs.size then l[m - (a+k)]? else cs[m]?
 | [],k,cs=>⟨rfl,fun m=>by simp;omega⟩
 |x::l,k,cs=>by
  obtain⟨e,d⟩:=ZhW a l (k+1) (cs.setIfInBounds (a+k) x);simp only[List.zipIdx_cons,List.foldl_cons];refine⟨by rw[e];simp,fun m=> ?_⟩;rw[d m];simp only[Array.size_setIfInBounds,List.length_cons]
  by_cases h:a+k<=m/\m < a+k+(l.length+1)/\m < cs.size
  ·by_cases b:m=a+k
   ·subst b;rw[if_neg (by omega),if_pos h];simp[Array.getElem?_setIfInBounds,h.2.2]
   ·rw[if_pos (by omega),if_pos h];have:m - (a+k)=(m - (a+(k+1)))+1:=by omega
    rw[this];simp
  ·rw[if_neg h,if_neg (by omega)];rw[Array.getElem?_setIfInBounds];split
   ·rename_i b;subst b;split
    ·omega
    ·rename_i f;simp[f]
   ·rfl
theorem ZdV (a:Nat) (v cs:Array Value):
  (v.zipIdx.foldl (fun cs (c,j)=>cs.setIfInBounds (a+j) c) cs).size=cs.size/\
  ∀m,(v.zipIdx.foldl (fun cs (c,j)=>cs.setIfInBounds (a+j) c) cs)[m]? =if a<=m/\m < a+v.size/\m < cs.size then v[m - a]? else cs[m]? :=by
 have:=ZhW a v.toList 0 cs;rw[<-Array.foldl_toList,Array.toList_zipIdx];simpa using this
theorem ZbC {b:Type} (xs:List b) (j:Nat) (a:List b) (h:j+a.length<=xs.length):(ZP xs j a).length=xs.length:=by simp[ZP];omega
theorem ZbD {b:Type} (xs:List b) (j:Nat) (a:List b) (h:j+a.length<=xs.length) (m:Nat):
  (ZP xs j a)[m]? =if j<=m/\m < j+a.length then a[m - j]? else xs[m]? :=by
 unfold ZP;have c:(xs.take j).length=j:=by simp;omega
 by_cases h1:m < j
 ·rw[if_neg (by omega),List.append_assoc,List.getElem?_append_left (by omega),ZmK,if_pos h1]
 ·by_cases h2:m < j+a.length
  ·rw[if_pos (by omega),List.append_assoc,List.getElem?_append_right (by omega),c,List.getElem?_append_left (by omega)]
  ·rw[if_neg (by omega),List.getElem?_append_right (by simp;omega),ZmG];congr 1;simp;omega
theorem Zbj {lk:Id->Option Obj}:∀(n:Nat) (d:D) (x:P),d.toP lk n=some x->∀id,id∈d.ids lk n->∃o,lk id=some o/\o≠ .gone:=by
 have base:∀(n:Nat) (d:D) (x:P),(∀cs,d≠ .agg cs)->(∀id i j,d≠ .ptr id i j)->(∀f a b,d≠ .fn f a b)->d.toP lk n=some x->∀id,id∈d.ids lk n->∃o,lk id=some o/\o≠ .gone:=by
  intro n d x A z B g id hi;cases d with
  |sl q C len=>
   simp only[ids_sl,ZmQ]at hi;subst hi;rw[Zbh]at g;split at g;rotate_left;simp at g;rename_i sz es fix h;exact⟨_,h,by simp⟩
  |map q=>
   simp only[Zl0,ZmQ]at hi;subst hi;rw[Zbi]at g;split at g;rotate_left;simp at g;rename_i h;exact⟨_,h,by simp⟩
  |agg cs=>exact absurd rfl (A cs)
  |ptr id i j=>exact absurd rfl (z id i j)
  |fn f a b=>exact absurd rfl (B f a b)
  |it id=>cases n<;>simp[D.toP]at g
  |tup vs=>cases n<;>simp[D.toP]at g
  |_=>cases n<;>simp[D.ids]at hi
 intro n
 induction n with
 |zero=>
  intro d x g;refine base 0 d x ?_ ?_ ?_ g
  all_goals (intros;intro t;subst t;simp[D.toP]at g)
 |succ n w=>
  have l:∀(cs:List D) p,Zh (D.toP lk n) cs=some p->∀id,id∈cs.flatMap (D.ids lk n)->∃o,lk id=some o/\o≠ .gone:=by intro cs p m id e;obtain⟨v,hi⟩:=Zk m;obtain⟨c,t,e⟩:=ZmP.1 e;obtain⟨k,u,rfl⟩:=List.mem_iff_getElem.1 t;exact w _ _ (hi k cs[k] p[k] (by simp[u]) (by simp[v,u])) id e
  intro d x g id e;cases d with
  |agg cs=>
   simp only[D.toP,ZmX]at g;obtain⟨p,m,rfl⟩:=g;exact l cs p m id (by simpa[D.ids]using e)
  |ptr q i j=>
   simp only[D.toP]at g;simp only[D.ids,ZmN]at e;split at g
   ·rename_i cs h;rcases e with rfl |e
    ·exact⟨_,h,by simp⟩
    ·rw[h]at e;split at g;rotate_left;simp at g;simp only[ZmX]at g;obtain⟨p,m,rfl⟩:=g;exact l _ p m id e
   ·rename_i sz es fix h;rcases e with rfl |e
    ·exact⟨_,h,by simp⟩
    ·rw[h]at e;simp at e
   ·simp at g
  |fn f a b=>
   simp only[D.toP]at g;simp only[D.ids,ZmM]at e;split at g;rotate_left;simp at g;rename_i pa y s r;rcases e with e |e
   ·exact l a pa s id e
   ·exact l b y r id e
  |_=>exact base (n+1) _ x (by simp) (by simp) (by simp) g id e
section
variable {C:Ctx} {X:Nat->Prop} {ρ:Id->Option Lay} {S:Nat->Prop} {st:St} {a:Act} {w:World} {i:Nat} {o:Oper} {e:Eff}
theorem Zgc {us:Array Value} {cs:List D} (f:us.size=cs.length) (h:∀(j:Nat) u d,us[j]? =some u->cs[j]? =some d->RelD w S ρ u d/\ZbP u):RelD w S ρ (.agg us) (.mkAgg cs):=by
 unfold D.mkAgg;split
 ·rename_i g i;have:=Zt i;subst this;refine .p _ _ (.agg us g (by simpa using f) (fun j v a=> ?_) (fun j v c a e=> ?_))
  ·have b:j < (g.map D.p).length:=by have:=(Zmy.1 a).1;omega
   exact(h j v _ a (ZmH b)).2
  ·exact(h j v (.p c) a (by simp[e])).1.of_p
 ·refine .agg us cs f (fun j v a=> ?_) (fun j v c a e=>(h j v c a e).1);have b:j < cs.length:=by have:=(Zmy.1 a).1;omega
  exact(h j v _ a (ZmH b)).2
section
variable (h:Rep C X ρ S st a.tmps w) (hi:¬X i) (ht:∀d,o.dst=some d->d < C.E.nt) (hlit:o.op.operands.all Zz=true) (hE:Zl C.E)
include h
theorem ZeV {ti:TI} {place:Nat->Option (Nat×Nat)} (A:∀i e t o,ti.part C.E i=some (e,t)->C.E.ty t=some o->place i=some (e,o.size)):
  ∀(b:List (Nat×Operand)),(∀p∈b,Zz p.2=true)->∀(us:Array Value) (cs cs':List D),us.size=cs.length->(∀(j:Nat) u d,us[j]? =some u->cs[j]? =some d->RelD w S ρ u d/\ZbP u)->
   ZbS C.E st.slots ti b cs=some cs'->
   ∃f,Instr.fill place us (b.map fun p=>(p.1,a.eval p.2))=some f/\f.size=cs'.length/\∀(j:Nat) u d,f[j]? =some u->cs'[j]? =some d->RelD w S ρ u d/\ZbP u:=by
 intro b
 induction b with
 |nil=>intro _ us cs cs' q r g;simp only[ZbS,ZmZ]at g;subst g;exact⟨us,rfl,q,r⟩
 |cons p b K=>
  intro l us cs cs' q r g;obtain⟨k,x⟩:=p;simp only[ZbS]at g;split at g;rotate_left;simp at g;rename_i e t s;split at g;rotate_left;simp at g;rename_i o z;split at g;rotate_left;simp at g;rename_i y;obtain⟨N,B,G⟩:=y;have L:=Zj h t (x:=x) (l (k,x) (by simp));obtain⟨M,v⟩:=Zd6 L G;obtain⟨F,I⟩:=ZdV e (a.eval x).cells us;obtain⟨f,H,J,E⟩:=K (fun p A=>l p (by simp[A])) ((a.eval x).cells.zipIdx.foldl (fun cs (c,j)=>cs.setIfInBounds (e+j) c) us) _ cs' (by rw[F,ZbC _ _ _ B];exact q) (by
   intro j u d m n;rw[I]at m;rw[ZbD _ _ _ B]at n
   by_cases hj:e<=j/\j < e+(a.eval x).cells.size
   ·rw[if_pos ⟨hj.1,hj.2,by omega⟩]at m;rw[if_pos (by omega)]at n;exact v _ u d m n
   ·rw[if_neg (by omega)]at m;rw[if_neg (by omega)]at n;exact r j u d m n) g
  refine⟨f, ?_,J,E⟩;simp only[ZmL,Instr.fill,A k e t o s z];rw[if_neg (by simp;omega)];exact H
include hi ht hE hlit
theorem ZiL {t:TypeId} {c:Array (Nat×Operand)} (ho:o.op= .build t c) (E:Zd C.E st.ep i o.op o.type st.slots st.objs=some e):Zu C X st a w i o e:=by
 rw[ho]at E;have O:∀p∈c.toList,Zz p.2=true:=by intro p F;rw[ho]at hlit;simp only[Op.operands,Array.all_eq_true_iff_forall_mem]at hlit;exact hlit p.2 (by simp;exact⟨p.1,by simpa using F⟩)
 simp only[Zd]at E;split at E;rotate_left;simp at E;rename_i ti Y;split at E;rotate_left;simp at E;rename_i ac;split at E;rotate_left;simp at E;rename_i cs R;simp only[ZmZ]at E;obtain⟨ii,ds,z,g⟩:=hE.is Y;obtain⟨z',hz,U,af,G⟩:=ZfL (ρ:=ρ) (S:=S) (w:=w) hE Y;have aa:z'=z:=by have h1:=hz w;rw[Z1 g.info g.zero w]at h1;simpa using h1.symm
 subst aa;have ae:∃r,C.E.prog.built t (c.map fun p=>(p.1,a.eval p.2)).toList=some r/\r.size=cs.length/\∀(j:Nat) u d,r[j]? =some u->cs[j]? =some d->RelD w S ρ u d/\ZbP u:=by
  cases L:ti.d with
  |struct fs=>
   have x:=g.td;have y:=g.eq;rw[L]at x y;cases ds<;>simp[Zau]at x;rename_i gs;simp only[ZmC,List.all_eq_true]at y;have D:∃b,gs.toList.mapM (fun f=>(C.E.prog.info? f.type).map fun i=>(f.offset,i.size))=some b/\
     ∀(k:Nat) m B A,fs[k]? =some (m,B)->C.E.ty B=some A->b.toArray[k]? =some (m,A.size):=by
    have Z:∀(l:List Field),(∀f∈l,(C.E.prog.info? f.type).isSome=true)->∃b,l.mapM (fun f=>(C.E.prog.info? f.type).map fun i=>(f.offset,i.size))=some b/\
      ∀(k:Nat) m B A,(l.map fun f=>(f.offset,f.type))[k]? =some (m,B)->C.E.ty B=some A->b.toArray[k]? =some (m,A.size):=by
     intro l
     induction l with
     |nil=>intro _;exact⟨[],rfl,by simp⟩
     |cons f l ih=>
      intro I;obtain⟨p1,q1,T⟩:=ih fun f hf=>I f (by simp[hf])
      obtain⟨ab,J⟩:=Option.isSome_iff_exists.1 (I f (by simp));refine⟨(f.offset,ab.size)::p1,by simp[List.mapM_cons,J,q1],fun k m B A M s=> ?_⟩;cases k with
      |zero=>
       simp only[ZmL,List.getElem?_cons_zero,ZmZ,Zm0]at M;obtain⟨rfl,rfl⟩:=M;obtain⟨W,q,K,_⟩:=hE.info s;rw[J]at q;obtain rfl:=ZmY q;simp[K]
      |succ k=>
       simp only[ZmL,List.getElem?_cons_succ]at M;have:=T k m B A M s;simpa using this
    obtain⟨p1,q1,T⟩:=Z gs.toList (fun f hf=>by have:=y.2 (f.offset,f.type) (by rw[<-x.1];exact List.mem_map.2 ⟨f,hf,rfl⟩);simpa using this)
    exact⟨p1,q1,fun k m B A M s=>T k m B A (by rw[x.1];exact M) s⟩
   obtain⟨b,q1,T⟩:=D;obtain⟨r,Q,V,N⟩:=ZeV h (ti:=ti) (place:=(b.toArray[·]?)) (fun k m B A F s=>by simp only[TI.part,L]at F;exact T k m B A F s) c.toList O z'.cells _ cs (by simpa using U) G R
   refine⟨r, ?_,V,N⟩;simp only[Program.built,g.info,g.und,g.zero,q1];simpa using Q
  |arr n el=>
   have x:=g.td;rw[L]at x;cases ds<;>simp[Zau]at x;obtain⟨rfl,rfl⟩:=x;rename_i n el;have y:=g.eq;rw[L]at y;cases hte:C.E.prog.info? el with
   |none=>simp[hte]at y
   |some ie=>
    obtain⟨r,Q,V,N⟩:=ZeV h (ti:=ti) (place:=fun k=>some (k*ie.size,ie.size)) (fun k m B A F s=>by
     simp only[TI.part,L]at F;split at F
     ·rename_i te H;simp only[ZmZ,Zm0]at F;obtain⟨rfl,rfl⟩:=F;rw[H]at s;obtain rfl:=ZmY s;obtain⟨W,q,K,_⟩:=hE.info H;rw[hte]at q;obtain rfl:=ZmY q;rw[K]
     ·simp at F) c.toList O z'.cells _ cs (by simpa using U) G R
    refine⟨r, ?_,V,N⟩;simp only[Program.built,g.info,g.und,g.zero,hte];simpa using Q
  |_=>simp[TI.isAgg,L]at ac
 obtain⟨r,Q,V,N⟩:=ae;subst E;refine Zu.quiet h hi ht (v:= .agg r) ?_ rfl rfl rfl (Zgc V N);have:=run_build (P:=C.E.prog) w t (c.map fun p=>(p.1,a.eval p.2)) r Q;simp only[execOp,ho,Sem.run_bind,this,Result.andThen_ok,Sem.run_pure]
def Zi1 (w:World) (S:Nat->Prop) (sz:Nat) (us:Array Value) (es:List P):Prop:=
 us.size=es.length*sz/\∃evs:Nat->Value,(∀j,j < es.length->(evs j).cells.size=sz/\∀(k:Nat) v,(evs j).cells[k]? =some v->us[j*sz+k]? =some v)/\∀(j:Nat) x,es[j]? =some x->RelP w S (evs j) x
omit h hi ht hlit hE in
theorem Zi1.set {sz:Nat} {us:Array Value} {es:List P} (hr:Zi1 w S sz us es) {k:Nat} {v:Value} {y:P} (hk:k < es.length) (hv:v.cells.size=sz) (hy:RelP w S v y):
  Zi1 w S sz (v.cells.zipIdx.foldl (fun cs (c,j)=>cs.setIfInBounds (k*sz+j) c) us) (es.set k y):=by
 obtain⟨h1,evs,h2,h3⟩:=hr
 obtain⟨g1,g2⟩:=ZdV (k*sz) v.cells us
 have hks:(k+1)*sz<=es.length*sz:=Nat.mul_le_mul_right _ hk
 rw[Nat.add_mul,Nat.one_mul]at hks
 refine⟨by rw[g1,h1];simp,fun j=>if j=k then v else evs j,fun j hj=> ?_,fun j x hx=> ?_⟩
 ·simp only[List.length_set]at hj
  by_cases hjk:j=k
  ·subst hjk
   simp only[if_true]
   refine⟨hv,fun m u hu=> ?_⟩
   have hm:m < sz:=by have:=(Array.getElem?_eq_some_iff.1 hu).1;omega
   rw[g2,if_pos (by omega),show j*sz+m - j*sz=m by omega]
   exact hu
  ·simp only[hjk,if_false]
   refine⟨(h2 j hj).1,fun m u hu=> ?_⟩
   have hm:m < sz:=by have:=(Array.getElem?_eq_some_iff.1 hu).1;have:=(h2 j hj).1;omega
   rw[g2,if_neg]
   ·exact(h2 j hj).2 m u hu
   ·rintro⟨q1,q2,_⟩
    rcases Nat.lt_or_gt_of_ne hjk with hlt |hgt
    ·have:(j+1)*sz<=k*sz:=Nat.mul_le_mul_right _ hlt
     rw[Nat.add_mul,Nat.one_mul]at this;omega
    ·have:(k+1)*sz<=j*sz:=Nat.mul_le_mul_right _ hgt
     rw[Nat.add_mul,Nat.one_mul]at this;omega
 ·by_cases hjk:j=k
  ·subst hjk
   rw[List.getElem?_set_self hk]at hx
   cases hx
   simpa using hy
  ·rw[List.getElem?_set_ne (Ne.symm hjk)]at hx
   simpa[hjk]using h3 j x hx
omit hi ht hlit hE in
theorem Zfy {t:Nat} {te:TI} {S':Nat->Prop} (hS:∀b,S b->S' b):
  ∀(parts:List (Nat×Operand)),(∀p∈parts,Zz p.2=true)->(∀id,id∈ZcP C.E st.slots st.objs t parts->∀L b,ρ id=some L->L.blk=some b->S' b)->∀(us:Array Value) (es es':List P),Zi1 w S' te.size us es->
   ZD C.E st.slots st.objs t te parts es=some es'->
   ∃us',Instr.fill (fun i=>some (i*te.size,te.size)) us (parts.map fun p=>(p.1,a.eval p.2))=some us'/\Zi1 w S' te.size us' es':=by
 intro parts
 induction parts with
 |nil=>intro _ _ us es es' hr hf;simp only[ZD,Option.some.injEq]at hf;subst hf;exact⟨us,rfl,hr⟩
 |cons p parts ih=>
  intro hlp hids us es es' hr hf
  obtain⟨k,x⟩:=p
  simp only[ZD]at hf
  split at hf
  rotate_left
  simp at hf
  rename_i y hy
  split at hf
  rotate_left
  simp at hf
  rename_i hsz
  obtain⟨h1,h2⟩:=hsz
  have hx:=Zj h t (x:=x) (hlp (k,x) (by simp))
  have hp:=ZaA (S':=S') h.objs hS depth _ _ _ hx hy (fun id hid=>hids id (by
   simp only[ZcP,List.flatMap_cons,List.mem_append];exact .inl hid))
  have hsv:(a.eval x).cells.size=te.size:=by rw[hp.size];exact h1
  obtain⟨us',e1,e2⟩:=ih (fun p hp=>hlp p (by simp[hp])) (fun id hid=>hids id (by
   simp only[ZcP,List.flatMap_cons,List.mem_append];exact .inr hid)) _ _ es' (hr.set h2 hsv hp) hf
  refine⟨us', ?_,e2⟩
  simp only[List.map_cons,Instr.fill]
  have hks:(k+1)*te.size<=es.length*te.size:=Nat.mul_le_mul_right _ h2
  rw[Nat.add_mul,Nat.one_mul]at hks
  rw[if_neg (by simp[hr.1];omega)]
  exact e1
theorem Zd3 {t:TypeId} {n:Nat} {c:Array (Nat×Operand)} (ho:o.op= .buildSlice t n c) (m:Zd C.E st.ep i o.op o.type st.slots st.objs=some e):Zu C X st a w i o e:=by
 rw[ho]at m;have U:∀p∈c.toList,Zz p.2=true:=by intro p hp;rw[ho]at hlit;simp only[Op.operands,Array.all_eq_true_iff_forall_mem]at hlit;exact hlit p.2 (by simp;exact⟨p.1,by simpa using hp⟩)
 simp only[Zd]at m;split at m;rotate_left;simp at m;rename_i A sz ab ze aa;split at m;rotate_left;simp at m;rename_i te H;split at m;rotate_left;simp at m;rename_i es s;split at m;rotate_left;simp at m;rename_i B;obtain⟨B,ac⟩:=B;simp only[ZmZ]at m;have hu:=hE.slice aa rfl;obtain⟨z,hz,J,Y⟩:=Zb9 (w:=w) (S:=S) hE H;have G:∀w,(Go.sizeOf A).run C.E.prog w= .ok te.size w:=ZM hE H;have O:∀(c:List (Nat×Operand)) es g,ZD C.E st.slots st.objs A te c es=some g->g.length=es.length:=by
  intro c
  induction c with
  |nil=>intro es g f;simp only[ZD,ZmZ]at f;subst f;rfl
  |cons p c ih=>
   intro es g f;obtain⟨k,x⟩:=p;simp only[ZD]at f;split at f;rotate_left;simp at f;split at f;rotate_left;simp at f;rw[ih _ _ f];simp
 have N:es.length=n:=by rw[O _ _ _ s];simp
 obtain⟨r,l,I⟩:∃r:Array Value,(Array.range (n*te.size)).map (z.cells[· % z.cells.size]!)=r/\Zi1 w S te.size r (List.replicate n te.zeroP):=by
  refine⟨(Array.range (n*te.size)).map (z.cells[· % z.cells.size]!),rfl,by simp,fun _=>z,fun j Q=>⟨J,fun k v R=> ?_⟩,fun j x D=> ?_⟩
  ·have hk:k < te.size:=by have:k < z.cells.size:=(Zmy.1 R).1;omega
   simp only[List.length_replicate]at Q;have Z:j*te.size+k < n*te.size:=by have:(j+1)*te.size<=n*te.size:=ZmU _ Q;rw[ZmS]at this;omega
   have:(j*te.size+k) % te.size=k:=by rw[Nat.mul_comm,Nat.mul_add_mod];exact Nat.mod_eq_of_lt hk
   simp only[Array.getElem?_map,J];rw[Array.getElem?_range,if_pos Z];simp only[Option.map_some,this,getElem!_def,R]
  ·rw[List.getElem?_replicate]at D;split at D;rotate_left;simp at D;cases D;exact Y
 have E:∀(c:List (Nat×Operand)) es g,ZD C.E st.slots st.objs A te c es=some g->∀id,id∈ZcP C.E st.slots st.objs A c->∃o,st.objs id=some o/\o≠ .gone:=by
  intro c
  induction c with
  |nil=>intro _ _ _ id d;simp[ZcP]at d
  |cons p c ih=>
   intro es g f id d;obtain⟨k,x⟩:=p;simp only[ZD]at f;simp only[ZcP,List.flatMap_cons,ZmM]at d;split at f;rotate_left;simp at f;rename_i y hy;split at f;rotate_left;simp at f;rcases d with d |d
   ·exact Zbj depth _ _ hy id d
   ·exact ih _ _ f id d
 let FS:Nat->Prop:=fun b=>S b\/∃id o L,id∈ZcP C.E st.slots st.objs A c.toList/\st.objs id=some o/\o≠ .gone/\ρ id=some L/\L.blk=some b
 obtain⟨us,q,K,evs,P,M⟩:=Zfy (a:=a) h (t:=A) (te:=te) (S':=FS) (fun b u=> .inl u) c.toList U (fun id d L b V u=>by
  obtain⟨o',T,h2⟩:=E _ _ _ s id d;exact .inr ⟨id,o',L,d,T,h2,V,u⟩) r _ es (⟨I.1,by obtain⟨evs,q1,W⟩:=I.2;exact⟨evs,q1,fun j x D=>(W j x D).mono (fun _ _ _=>rfl) fun b u=> .inl u⟩⟩) s
 refine Zu.arr h hi ht (cells:=us) (t:=A) (sz:=te.size) (len:=n) (cap:=n) (es:=es) (evs:=evs) (w':=w.alloc (.cells us A)) rfl ⟨rfl,rfl⟩ (by simp) ?_ N (ZmT _) ?_ (by rw[K,N]) (fun j Q=>(P j (by omega)).1)
  (fun j k v Q R=>(P j (by omega)).2 k v R) (fs:=ZcP C.E st.slots st.objs A c.toList) (fun id d=> ?_) (fun S' hS hF j x D=> ?_) m.symm
 ·have F:¬(n*te.size > 2 ^ 24):=by omega
  simp only[execOp,ho,Instr.buildSlice,Sem.run_bind,Za hu,Result.andThen_ok,G,F,if_false,Sem.run_pure]
  by_cases h0:n*te.size=0
  ·rw[h0]at l;simp only[Array.range_zero',Array.map_empty]at l;subst l;simp[h0,Array.range_zero',q,newRow]
  ·simp only[h0,if_false];simp[hz,l,q,newRow]
 ·unfold Zah Zq;omega
 ·obtain⟨o',T,h2⟩:=E _ _ _ s id d;obtain⟨L,V,_⟩:=h.objs id o' T h2;simp[V]
 ·refine(M j x D).mono (fun _ _ _=>rfl) fun b u=> ?_
  rcases u with u |⟨id,o',L,q1,W,q3,q4,q5⟩
  ·exact hS b u
  ·exact hF id q1 o' L b W q3 q4 q5
end
end
end Eng
namespace Eng
open Go
theorem ZV (b:Nat):∀(vs:List Value) (o:Nat) (w:World),(w.setCells b o vs).heap.size=w.heap.size
 | [],_,_=>rfl
 |v::r,o,w=>by rw[World.setCells,ZV b r];simp
theorem Zp (b:Nat):∀(vs:List Value) (o:Nat) (w:World) (k:Nat),k≠b->(w.setCells b o vs).heap[k]? =w.heap[k]?
 | [],_,_,_,_=>rfl
 |v::r,o,w,k,h=>by rw[World.setCells,Zp b r _ _ k h];simp only[World.setCell];rw[Array.getElem?_modify];simp[Ne.symm h]
theorem Zad {w:World} {b o:Nat} {vs:List Value} (a:∀j,j < vs.length->(w.cell? ⟨b,o+j,none⟩).isSome=true) (m:Nat):
  (w.setCells b o vs).cell? ⟨b,m,none⟩=if o<=m/\m < o+vs.length then vs[m - o]? else w.cell? ⟨b,m,none⟩:=by
 by_cases h:o<=m/\m < o+vs.length
 ·rw[if_pos h];have:=World.cell?_setCells_in b vs o w a (m - o) (by omega);rw[show o+(m - o)=m by omega]at this;rw[this];simp
 ·rw[if_neg h];exact World.cell?_setCells_out b vs o w _ (fun _ _=>by simp;omega)
section
variable {C:Ctx} {X:Nat->Prop} {ρ:Id->Option Lay} {S:Nat->Prop} {st:St} {a:Act} {w:World} {i:Nat} {o:Oper} {e:Eff}
theorem Zdt {t:TypeId} {ti:TI} {b o':Nat} {v:Value} (i:Zl C.E) (d:C.E.ty t=some ti) (g:v.cells.size=ti.size)
  (e:∀j,j < v.cells.size->(w.cell? ⟨b,o'+j,none⟩).isSome=true) (f:∀j,j < v.cells.size->w.frozen? ⟨b,o'+j,none⟩=false) (h:∀u∈v.cells.toList,u.oneCell'=true):
  (Instr.storeAt t (.pointer (some ⟨b,o',none⟩)) v).run C.E.prog w= .ok () (w.setCells b o' v.cells.toList):=by
 have a:=run_storeCells_cells (P:=C.E.prog) b o' v.cells.toList 0 w (by simpa using e) (by simpa using f) h;have c:(Go.sizeOf t).run C.E.prog w= .ok ti.size w:=ZM i d w;simp only[Nat.add_zero]at a;simp[Instr.storeAt,Instr.sureAddr,storeVar,c,g,a]
section
variable (h:Rep C X ρ S st a.tmps w) (hi:¬X i) (ht:∀d,o.dst=some d->d < C.E.nt) (hlit:o.op.operands.all Zz=true) (hE:Zl C.E)
include h hi ht hlit hE
theorem ZiF {t:TypeId} {ad x:Operand} (ho:o.op= .store t ad x) (s:Zd C.E st.ep i o.op o.type st.slots st.objs=some e) (hw:Zem st e=true):Zu C X st a w i o e:=by
 rw[ho]at s hlit;simp[Op.operands]at hlit;have h1:=Zj h 0 hlit.1;have h2:=Zj h t hlit.2;simp only[Zd]at s;split at s;rotate_left;simp at s;rename_i ti a5;split at s;rotate_left;simp at s;rename_i id i' j hp;rw[hp]at h1;generalize hv:a.eval ad=pv at h1;cases h1 with
 |ptr _ _ _ L b D ay r=>
 split at s
 ·
  rename_i cs E;split at s;rotate_left;simp at s;rename_i Y;obtain⟨rfl,hl,ax,bd⟩:=Y;cases s;simp only[Nat.zero_mul,Nat.add_zero]at hv;obtain⟨bg,az⟩:=Zd6 h2 bd;obtain⟨L',G,b',af,ao,ba,A⟩:=h.objs id _ E (by simp);rw[D]at G;obtain rfl:=ZmY G;rw[r]at af;obtain rfl:=ZmY af;have R:st.fz id=false:=by simpa[Zem]using hw
  have W:=h.own id _ L b E (by simp) D r;have Z:¬S b:=W.2.2.2 R;have al:∀(m:Nat) (g:m < cs.length),∃v,w.cell? ⟨b,L.base+m,none⟩=some v/\w.frozen? ⟨b,L.base+m,none⟩=false/\ZbP v/\RelD w S ρ v cs[m]:=fun m g=>A m cs[m] (by simp[g])
  have Q:∀m,m < (a.eval x).cells.size->(w.cell? ⟨b,L.base+j+m,none⟩).isSome=true:=fun m g=>by obtain⟨v,q,_⟩:=al (j+m) (by omega);rw[show L.base+j+m=L.base+(j+m) by omega,q];rfl
  have V:=Zdt (w:=w) (b:=b) (o':=L.base+j) (v:=a.eval x) hE a5 (by omega) Q (fun m g=>by
   obtain⟨v,_,q,_⟩:=al (j+m) (by omega);rw[show L.base+j+m=L.base+(j+m) by omega];exact q) (fun u l=>by
   obtain⟨m,g,rfl⟩:=List.mem_iff_getElem.1 l;simp at g;exact(az m _ _ (by simp[g]) (ZmH (by omega))).2)
  let w':=w.setCells b (L.base+j) (a.eval x).cells.toList;have n:=fun m=>Zad (w:=w) (b:=b) (o:=L.base+j) (vs:=(a.eval x).cells.toList) (by simpa using Q) m
  have kS:Zcy S w w':=fun b' F _=>Zp b _ _ _ b' (fun e=>Z (e▸F))
  let O:=(ev C.E st.slots t x).cells;have bm:O.length=(ev C.E st.slots t x).cells.length:=rfl;let ρ':Id->Option Lay:=fun id=>if id.1=st.ep/\id.2.1=i then Zi4 O 0 id.2.2 else ρ id
  have f:=h.fresh hi;have ar:∀id L,ρ id=some L->ρ' id=some L:=by
   intro id L' D;simp only[ρ'];split
   ·rename_i s;obtain⟨ep,jj,k⟩:=id;simp only at s;obtain⟨rfl,rfl⟩:=s;rw[f k]at D;simp at D
   ·exact D
  have as:∀k L,Zi4 O 0 k=some L->ρ' (st.ep,i,k)=some L:=fun k L' hk=>by simp[ρ',hk]
  have nv:∀k o L b,(k,o)∈ZZ 0 O->ρ' (st.ep,i,k)=some L->L.blk=some b->False:=by intro k o L b g D T;obtain⟨h1,sz,h2,_⟩:=Zaz _ _ _ _ g;rw[as _ ⟨none,0,sz,0,0⟩ (by simp[Zi4];rw[show k - 0=k by omega]at h2;rw[h2])]at D;cases D;simp at T
  refine⟨.skip,undef,w', ?_,.inr ⟨rfl,rfl⟩,ρ',h.step ρ' hi ht (by rw[show w'.heap.size=w.heap.size from ZV _ _ _ _];exact ZmT _) (ZS.setCells _ _ _ _) ?_ ?_ ar ?_ (by simp) ?_ ?_ ?_ ?_⟩
  ·simp only[execOp,ho,hv,Sem.run_bind,V,Result.andThen_ok,Sem.run_pure];rfl
  ·intro b' F aj;exact Zp b _ _ _ b' (fun e=>aj id _ L (ZmQ.2 rfl) D (e▸r))
  ·intro p o' g;simp only[ZmQ,Zm0]at g;obtain⟨rfl,rfl⟩:=g;exact⟨R,_,E,by simp⟩
  ·intro p hn;simp only[ρ']at hn;split at hn
   ·rename_i s;exact .inr s
   ·exact .inl hn
  ·intro k o' g;obtain⟨h1,sz,h2,rfl⟩:=Zaz _ _ _ _ g;refine⟨⟨none,0,sz,0,0⟩,as _ _ (by simp[Zi4];rw[show k - 0=k by omega]at h2;rw[h2]),by simp,fun S' _ _ _=>ZaM sz false⟩
  ·intro k o1 L1 k' o2 L2 b1 g _ H I _ _ _ _;exact(nv _ _ _ _ g H I).elim
  ·intro p o' L1 g _ H S' hS _;simp only[ZmQ,Zm0]at g;obtain⟨rfl,rfl⟩:=g;rw[D]at H;obtain rfl:=ZmY H;have B:(ZeA st.ep i 0 O).length=O.length:=Zdh _ _ _ _;have a8:=ZbC cs j (ZeA st.ep i 0 O) (by rw[B];exact ax);refine⟨b,r,by rw[a8];exact ao,ba,fun m d hd=> ?_⟩;have g:m < cs.length:=by have:m < (ZP cs j (ZeA st.ep i 0 O)).length:=(ZmI.1 hd).1;omega
   rw[ZbD _ _ _ (by rw[B];exact ax)]at hd;obtain⟨v0,q1,N,q3,q4⟩:=al m g;rw[show w'.frozen? ⟨b,L.base+m,none⟩=w.frozen? ⟨b,L.base+m,none⟩from World.frozen?_setCells _ _ _ _ _];rw[n (L.base+m)]
   by_cases hin:j<=m/\m < j+O.length
   ·rw[if_pos (by rw[B];exact hin)]at hd;have l:m - j < (a.eval x).cells.size:=by rw[bg];omega
    rw[if_pos (by simp;omega)];have a4:m - j < O.length:=by omega
    obtain⟨r1,r2⟩:=az (m - j) (a.eval x).cells[m - j] O[m - j] (by simp[l]) (ZmH a4);obtain⟨d',a3,hr⟩:=Zhw (i:=i) (ep:=st.ep) (k0:=0) kS hS ar as (ZmH a4:O[m - j]? =some O[m - j]) r1;rw[hd]at a3;obtain rfl:=ZmY a3;refine⟨(a.eval x).cells[m - j], ?_,N,r2,hr⟩;rw[show L.base+m - (L.base+j)=m - j by omega];simp[l]
   ·rw[if_neg (by rw[B];exact hin)]at hd;rw[if_neg (by simp;omega)];rw[ZmH g]at hd;obtain rfl:=ZmY hd;exact⟨v0,q1,N,q3,q4.mono kS hS ar⟩
  ·intro S' _ _ d _;exact .undef
 ·
  rename_i sz es fix E;split at s;rotate_left;simp at s;rename_i y hy;split at s;rotate_left;simp at s;rename_i Y;obtain⟨bb,bl,bj⟩:=Y;cases s;obtain⟨L',G,ao,bf,bi,bh,bc,K,evs,an,A,ag⟩:=h.objs id _ E (by simp);rw[D]at G;obtain rfl:=ZmY G;subst ao;have ae:=Zbj depth _ _ hy;have M:∀f,f∈(ev C.E st.slots t x).ids st.objs depth->id≠f:=by simp only[Zem,ZmC,List.all_eq_true,ZmQ,forall_eq,decide_eq_true_eq]at hw;exact hw.2
  let FS:Nat->Prop:=fun b=>S b\/∃p o L,p∈(ev C.E st.slots t x).ids st.objs depth/\st.objs p=some o/\o≠ .gone/\ρ p=some L/\L.blk=some b
  have aa:RelP w FS (a.eval x) y:=ZaA (S':=FS) h.objs (fun b T=> .inl T) depth _ _ _ h2 hy (fun p U L b D T=>by obtain⟨o',q1,N⟩:=ae p U;exact .inr ⟨p,o',L,U,q1,N,D,T⟩)
  have a7:(a.eval x).cells.size=ti.size:=by rw[aa.size];exact bb
  have R:st.fz id=false:=by simp only[Zem,ZmC,List.all_eq_true,ZmQ,forall_eq,Bool.not_eq_true']at hw;exact hw.1
  have W:=h.own id _ L b E (by simp) D r;have Z:¬S b:=W.2.2.2 R;have a6:(i'+1)*L.sz<=L.cap*L.sz:=ZmU _ (by omega);rw[ZmS,ZmV]at a6;have Q:∀m,m < (a.eval x).cells.size->(w.cell? ⟨b,L.base+i'*L.sz+j+m,none⟩).isSome=true/\w.frozen? ⟨b,L.base+i'*L.sz+j+m,none⟩=false:=fun m g=>by obtain⟨⟨v,q⟩,N⟩:=K b r (i'*L.sz+j+m) (by omega);rw[show L.base+i'*L.sz+j+m=L.base+(i'*L.sz+j+m) by omega,q,N];exact⟨rfl,rfl⟩
  have a1:∀u∈(a.eval x).cells.toList,u.oneCell'=true:=fun u l=>by obtain⟨m,g,rfl⟩:=List.mem_iff_getElem.1 l;simp at g;exact(aa.cell (j:=m) (u:=(a.eval x).cells[m]) (c:=y.cells[m]'(by omega)) (by simp[g]) (ZmH (by omega))).2
  have V:=Zdt (w:=w) (b:=b) (o':=L.base+i'*L.sz+j) (v:=a.eval x) hE a5 a7 (fun m g=>(Q m g).1) (fun m g=>(Q m g).2) a1;let w':=w.setCells b (L.base+i'*L.sz+j) (a.eval x).cells.toList;have n:=fun m=>Zad (w:=w) (b:=b) (o:=L.base+i'*L.sz+j) (vs:=(a.eval x).cells.toList) (by simpa using fun m g=>(Q m g).1) m
  have kS:Zcy S w w':=fun b' F _=>Zp b _ _ _ b' (fun e=>Z (e▸F))
  refine⟨.skip,undef,w', ?_,.inr ⟨rfl,rfl⟩,ρ,h.step ρ hi ht (by rw[show w'.heap.size=w.heap.size from ZV _ _ _ _];exact ZmT _) (ZS.setCells _ _ _ _) ?_ ?_ (fun _ _ h=>h) (fun id h=> .inl h) ?_ (fun _ _ g=>by simp at g) (fun _ _ _ _ _ _ _ g=>by simp at g) ?_ ?_⟩
  ·simp only[execOp,ho,hv,Sem.run_bind,V,Result.andThen_ok,Sem.run_pure];rfl
  ·intro b' F aj;exact Zp b _ _ _ b' (fun e=>aj id _ L (ZmQ.2 rfl) D (e▸r))
  ·intro p o' g;simp only[ZmQ,Zm0]at g;obtain⟨rfl,rfl⟩:=g;exact⟨R,_,E,by simp⟩
  ·intro p U;obtain⟨o',q1,N⟩:=ae p U;obtain⟨L',G,_⟩:=h.objs p o' q1 N;refine⟨by simp[G],fun bn g=> ?_⟩;simp only[ZmQ,Zm0]at g;obtain⟨rfl,_⟩:=g;exact M _ U rfl
  ·intro p o' L1 g _ H S' hS hF;simp only[ZmQ,Zm0]at g;obtain⟨rfl,rfl⟩:=g;rw[D]at H;obtain rfl:=ZmY H;have au:i' < es.length:=by omega
   have am:es.getD i' default=es[i']:=by simp[au]
   have a2:∀b,FS b->S' b:=fun b T=>by
    rcases T with T |⟨av,o',L,q1,N,q3,q4,q5⟩
    ·exact hS b T
    ·exact hF av q1 o' L b N q3 q4 q5
   have kF:Zcy FS w w':=fun b' F aq=>by
    refine Zp b _ _ _ b' (fun e=> ?_);subst e;rcases F with T |⟨av,o',L',q1,N,q3,q4,q5⟩
    ·exact Z T
    ·have:=h.inj av o' L' p _ L b' N q3 q4 q5 E (by simp) D r;subst this;exact M _ q1 rfl
   have ab:=ag i' es[i'] (by simp[au]);have ak:=ab.size;have ah:=an i' ay;have aw:∃v':Value,v'.cells.size=L.sz/\(∀(k:Nat) u,v'.cells[k]? =some u->w'.cell? ⟨b,L.base+i'*L.sz+k,none⟩=some u)/\RelP w' S' v' (es[i'].put L.sz j y):=by
    have J:∀(k:Nat) u,(evs i').cells[k]? =some u->w.cell? ⟨b,L.base+i'*L.sz+k,none⟩=some u:=fun k u l=>A b r i' k u ay l
    unfold P.put;split
    ·rename_i ac;obtain⟨rfl,bp⟩:=ac;refine⟨a.eval x,by omega,fun k u l=> ?_,aa.mono kF a2⟩;have hk:k < (a.eval x).cells.size:=(Zmy.1 l).1;rw[n,if_pos (by simp;omega)];rw[show L.base+i'*L.sz+k - (L.base+i'*L.sz+0)=k by omega];simpa using l
    ·rename_i ap;have bk:2<=L.sz:=by
      rcases Nat.lt_or_ge L.sz 2 with aq |am
      ·exact absurd ⟨by omega,by omega⟩ ap
      ·exact am
     generalize hex:es[i']=ex at ab ak;generalize hevv:evs i'=ev' at ab ak ah J;cases ab with
     |agg vs cs hl ho hr=>
      dsimp only;have bo:cs.length=L.sz:=by rw[<-hl];simpa[Value.cells]using ah
      obtain⟨g1,g2⟩:=ZdV j (a.eval x).cells vs;generalize (a.eval x).cells.zipIdx.foldl (fun cs (c,m)=>cs.setIfInBounds (j+m) c) vs=nv at g1 g2;have J:∀(k:Nat) u,vs[k]? =some u->w.cell? ⟨b,L.base+i'*L.sz+k,none⟩=some u:=J;refine⟨.agg nv,show nv.size=L.sz by omega,fun k u l=> ?_, ?_⟩
      ·replace l:nv[k]? =some u:=l;rw[g2]at l;rw[n]
       by_cases hin:j<=k/\k < j+(a.eval x).cells.size
       ·rw[if_pos ⟨hin.1,hin.2,by omega⟩]at l;rw[if_pos (by simp;omega),show L.base+i'*L.sz+k - (L.base+i'*L.sz+j)=k - j by omega];simpa using l
       ·rw[if_neg (by omega)]at l;rw[if_neg (by simp;omega)];exact J k u l
      ·have a9:=ZbC cs j y.cells (by omega);refine .agg _ _ (by rw[g1,a9];exact hl) (fun k u l=> ?_) (fun k u c l s=> ?_)
       ·rw[g2]at l
        by_cases hin:j<=k/\k < j+(a.eval x).cells.size/\k < vs.size
        ·rw[if_pos hin]at l;exact a1 u (by have:=Array.mem_of_getElem? l;simpa using this)
        ·rw[if_neg hin]at l;exact ho k u l
       ·rw[g2]at l;rw[ZbD _ _ _ (by omega)]at s
        by_cases hin:j<=k/\k < j+(a.eval x).cells.size
        ·rw[if_pos ⟨hin.1,hin.2,by omega⟩]at l;rw[if_pos (by omega)]at s;exact((aa.cell l s).1).mono kF a2
        ·rw[if_neg (by omega)]at l;rw[if_neg (by omega)]at s;exact(hr k u c l s).mono kS hS
     |_=>simp[P.cells]at ak;omega
   obtain⟨v',p1,p2,p3⟩:=aw;have ai:∀(q k:Nat),q≠i'->k < L.sz->w'.cell? ⟨b,L.base+q*L.sz+k,none⟩=w.cell? ⟨b,L.base+q*L.sz+k,none⟩:=by
    intro q k hq hk;rw[n,if_neg];simp only[Array.length_toList];rintro⟨r1,r2⟩;rcases Nat.lt_or_gt_of_ne hq with aq |be
    ·have:(q+1)*L.sz<=i'*L.sz:=ZmU _ aq;rw[ZmS,ZmV]at this;omega
    ·have:(i'+1)*L.sz<=q*L.sz:=ZmU _ be;rw[ZmS,ZmV]at this;omega
   refine⟨rfl,by simpa using bf,bi,bh,bc,fun b1 I m g=> ?_,fun q=>if q=i' then v' else evs q,fun q hq=> ?_,fun b1 I q k u hq l=> ?_,fun q z hz=> ?_⟩
   ·rw[r]at I;obtain rfl:=ZmY I;obtain⟨⟨v0,q1⟩,N⟩:=K b r m g;rw[show w'.frozen? ⟨b,L.base+m,none⟩=w.frozen? ⟨b,L.base+m,none⟩from World.frozen?_setCells _ _ _ _ _];refine⟨?_,N⟩;rw[n]
    by_cases hin:L.base+i'*L.sz+j<=L.base+m/\L.base+m < L.base+i'*L.sz+j+(a.eval x).cells.toList.length
    ·rw[if_pos hin];exact⟨_,ZmH (by omega)⟩
    ·rw[if_neg hin];exact⟨v0,q1⟩
   ·by_cases hqi:q=i'
    ·simp only[hqi,if_true];exact p1
    ·simp only[hqi,if_false];exact an q hq
   ·rw[r]at I;obtain rfl:=ZmY I
    by_cases hqi:q=i'
    ·subst hqi;simp only[if_true]at l;exact p2 k u l
    ·simp only[hqi,if_false]at l;have hk:k < L.sz:=by have:=(Zmy.1 l).1;have:=an q hq;omega
     rw[ai q k hqi hk];exact A b r q k u hq l
   ·by_cases hqi:q=i'
    ·subst hqi;rw[List.getElem?_set_self au]at hz;simp only[ZmZ]at hz;rw[am]at hz;subst hz;simpa using p3
    ·rw[List.getElem?_set_ne (Ne.symm hqi)]at hz;simp only[hqi,if_false];exact(ag q z hz).mono kS hS
  ·intro S' _ _ d _;exact .undef
 ·simp at s
end
end
end Eng
