/- Printed by wip/tools/tgen.py: tables. -/
import Derived.Test.YteopakpakelkoaaGreatDoorUpS
import Derived.Test.YteopakpakelkoaaGreatDoorUpWX
import Derived.Test.YteopakpakelkoaaGreatDoorProg
import Derived.KernelRfl
set_option linter.all false
namespace Go.Proofs
open Go Eng
set_option maxRecDepth 100000
def ZHb (x:G_api_Cell):List (Lf Zz1):=[⟨.bool,x.Null⟩,⟨.str,x.Text⟩]
def ZG2:List (Lf Zz1)->Option G_api_Cell
 | [c0,c1]=>(c0.as .bool).bind fun a=>(c1.as .str).bind fun b=>some (G_api_Cell.mk a b)
 |_=>none
theorem ZJd (a:List (Lf Zz1)) (x:G_api_Cell) (h:ZG2 a=some x):ZHb x=a:=by
 unfold ZG2 at h;split at h;rotate_left;simp at h
 repeat (replace h:=ZEs h;obtain⟨_,rfl,h⟩:=h)
 obtain rfl:=Option.some.inj h;rfl
def ZzY (x:G_api_Cell):P:= .agg [.bool x.Null,.str x.Text]
def ZGf (x:G_api_Column):List (Lf Zz1):=[⟨.str,x.Name⟩,⟨(.sl (.st 0)),x.Cells⟩]
def ZF1:List (Lf Zz1)->Option G_api_Column
 | [c0,c1]=>(c0.as .str).bind fun a=>(c1.as (.sl (.st 0))).bind fun b=>some (G_api_Column.mk a b)
 |_=>none
theorem ZIr (a:List (Lf Zz1)) (x:G_api_Column) (h:ZF1 a=some x):ZGf x=a:=by
 unfold ZF1 at h;split at h;rotate_left;simp at h
 repeat (replace h:=ZEs h;obtain⟨_,rfl,h⟩:=h)
 obtain rfl:=Option.some.inj h;rfl
def Zus (x:G_api_Column):P:= .agg [.str x.Name,.sl 2 (x.Cells.map ZzY)]
def ZGO (x:G_api_Table):List (Lf Zz1):=[⟨(.int .i64),x.ID⟩,⟨.str,x.Name⟩,⟨(.sl (.st 1)),x.Columns⟩]
def ZGr:List (Lf Zz1)->Option G_api_Table
 | [c0,c1,c2]=>(c0.as (.int .i64)).bind fun c=>(c1.as .str).bind fun b=>(c2.as (.sl (.st 1))).bind fun a=>some (G_api_Table.mk c b a)
 |_=>none
theorem ZIO (a:List (Lf Zz1)) (x:G_api_Table) (h:ZGr a=some x):ZGO x=a:=by
 unfold ZGr at h;split at h;rotate_left;simp at h
 repeat (replace h:=ZEs h;obtain⟨_,rfl,h⟩:=h)
 obtain rfl:=Option.some.inj h;rfl
def ZHF (x:G_api_Table):P:= .agg [.int .i64 x.ID,.str x.Name,.sl 2 (x.Columns.map Zus)]
def ZHH (x:Zgo):List (Lf Zz1):=[⟨.bool,x.Neg⟩,⟨(.sl (.int .u32)),x.Words⟩]
def ZHA:List (Lf Zz1)->Option Zgo
 | [c0,c1]=>(c0.as .bool).bind fun a=>(c1.as (.sl (.int .u32))).bind fun b=>some (Zgo.mk a b)
 |_=>none
theorem ZJP (a:List (Lf Zz1)) (x:Zgo) (h:ZHA a=some x):ZHH x=a:=by
 unfold ZHA at h;split at h;rotate_left;simp at h
 repeat (replace h:=ZEs h;obtain⟨_,rfl,h⟩:=h)
 obtain rfl:=Option.some.inj h;rfl
def ZKY (x:Zgo):P:= .agg [.bool x.Neg,.sl 1 (x.Words.map (fun x=> .int .u32 x))]
def ZFo (x:ZbF):List (Lf Zz1):=[⟨.bool,x.Num.Neg⟩,⟨(.sl (.int .u32)),x.Num.Words⟩,⟨.bool,x.Den.Neg⟩,⟨(.sl (.int .u32)),x.Den.Words⟩]
def ZEp:List (Lf Zz1)->Option ZbF
 | [c0,c1,c2,c3]=>(c0.as .bool).bind fun d=>(c1.as (.sl (.int .u32))).bind fun c=>(c2.as .bool).bind fun a=>(c3.as (.sl (.int .u32))).bind fun b=>some (ZbF.mk (Zgo.mk d c) (Zgo.mk a b))
 |_=>none
theorem ZHV (a:List (Lf Zz1)) (x:ZbF) (h:ZEp a=some x):ZFo x=a:=by
 unfold ZEp at h;split at h;rotate_left;simp at h
 repeat (replace h:=ZEs h;obtain⟨_,rfl,h⟩:=h)
 obtain rfl:=Option.some.inj h;rfl
def ZD6 (x:ZbF):P:= .agg [.bool x.Num.Neg,.sl 1 (x.Num.Words.map (fun x=> .int .u32 x)),.bool x.Den.Neg,.sl 1 (x.Den.Words.map (fun x=> .int .u32 x))]
def Zz0 (x:ZdN):List (Lf Zz1):=[⟨(.int .u8),x.lo⟩,⟨(.int .u8),x.hi⟩]
def ZwX:List (Lf Zz1)->Option ZdN
 | [c0,c1]=>(c0.as (.int .u8)).bind fun a=>(c1.as (.int .u8)).bind fun b=>some (ZdN.mk a b)
 |_=>none
theorem ZEe (a:List (Lf Zz1)) (x:ZdN) (h:ZwX a=some x):Zz0 x=a:=by
 unfold ZwX at h;split at h;rotate_left;simp at h
 repeat (replace h:=ZEs h;obtain⟨_,rfl,h⟩:=h)
 obtain rfl:=Option.some.inj h;rfl
def ZE2 (x:ZdN):P:= .agg [.int .u8 x.lo,.int .u8 x.hi]
def ZGe (x:Zp0):List (Lf Zz1):=[⟨.str,x.word⟩,⟨.fnc,x.canonical⟩,⟨.fnc,x.value⟩]
def ZFZ:List (Lf Zz1)->Option Zp0
 | [c0,c1,c2]=>(c0.as .str).bind fun c=>(c1.as .fnc).bind fun b=>(c2.as .fnc).bind fun a=>some (Zp0.mk c b a)
 |_=>none
theorem ZIq (a:List (Lf Zz1)) (x:Zp0) (h:ZFZ a=some x):ZGe x=a:=by
 unfold ZFZ at h;split at h;rotate_left;simp at h
 repeat (replace h:=ZEs h;obtain⟨_,rfl,h⟩:=h)
 obtain rfl:=Option.some.inj h;rfl
def ZJe (x:Zp0):P:= .agg [.str x.word,Zkw x.canonical,Zkw x.value]
def ZHa (x:Ziw):List (Lf Zz1):=[⟨(.int .i64),x.e0⟩,⟨(.int .i64),x.e1⟩]
def ZG1:List (Lf Zz1)->Option Ziw
 | [c0,c1]=>(c0.as (.int .i64)).bind fun a=>(c1.as (.int .i64)).bind fun b=>some (Ziw.mk a b)
 |_=>none
theorem ZJc (a:List (Lf Zz1)) (x:Ziw) (h:ZG1 a=some x):ZHa x=a:=by
 unfold ZG1 at h;split at h;rotate_left;simp at h
 repeat (replace h:=ZEs h;obtain⟨_,rfl,h⟩:=h)
 obtain rfl:=Option.some.inj h;rfl
def ZH1 (x:Ziw):P:= .agg [.int .i64 x.e0,.int .i64 x.e1]
def ZDk (x:Zrw):List (Lf Zz1):=[⟨(.sl (.sl (.st 4))),x.w_⟩,⟨(.map (.st 7) (.st 4)),x.best⟩]
def ZBC:List (Lf Zz1)->Option Zrw
 | [c0,c1]=>(c0.as (.sl (.sl (.st 4)))).bind fun a=>(c1.as (.map (.st 7) (.st 4))).bind fun b=>some (Zrw.mk a b)
 |_=>none
theorem ZGq (a:List (Lf Zz1)) (x:Zrw) (h:ZBC a=some x):ZDk x=a:=by
 unfold ZBC at h;split at h;rotate_left;simp at h
 repeat (replace h:=ZEs h;obtain⟨_,rfl,h⟩:=h)
 obtain rfl:=Option.some.inj h;rfl
def ZG5 (x:Zrw):P:= .agg [.sl 1 (x.w_.map (fun x=> .sl 4 (x.map ZD6))),.map (.arr 2 0) (x.best.map fun e=>(ZH1 e.1,ZD6 e.2))]
def ZCF (x:ZbZ):List (Lf Zz1):=[⟨(.sl (.int .i64)),x.l⟩,⟨(.int .i64),x.at_⟩]
def ZAp:List (Lf Zz1)->Option ZbZ
 | [c0,c1]=>(c0.as (.sl (.int .i64))).bind fun a=>(c1.as (.int .i64)).bind fun b=>some (ZbZ.mk a b)
 |_=>none
theorem ZF0 (a:List (Lf Zz1)) (x:ZbZ) (h:ZAp a=some x):ZCF x=a:=by
 unfold ZAp at h;split at h;rotate_left;simp at h
 repeat (replace h:=ZEs h;obtain⟨_,rfl,h⟩:=h)
 obtain rfl:=Option.some.inj h;rfl
def ZGs (x:ZbZ):P:= .agg [.sl 1 (x.l.map (fun x=> .int .i64 x)),.int .i64 x.at_]
def ZH2 (x:Zlj):List (Lf Zz1):=[⟨(.int .i64),x.Kind⟩,⟨(.int .i64),x.Column⟩,⟨.str,x.Text⟩,⟨(.sl (.int .i64)),x.Columns⟩]
def ZH5:List (Lf Zz1)->Option Zlj
 | [c0,c1,c2,c3]=>(c0.as (.int .i64)).bind fun d=>(c1.as (.int .i64)).bind fun c=>(c2.as .str).bind fun a=>(c3.as (.sl (.int .i64))).bind fun b=>some (Zlj.mk d c a b)
 |_=>none
theorem ZKc (a:List (Lf Zz1)) (x:Zlj) (h:ZH5 a=some x):ZH2 x=a:=by
 unfold ZH5 at h;split at h;rotate_left;simp at h
 repeat (replace h:=ZEs h;obtain⟨_,rfl,h⟩:=h)
 obtain rfl:=Option.some.inj h;rfl
def ZLL (x:Zlj):P:= .agg [.int .i64 x.Kind,.int .i64 x.Column,.str x.Text,.sl 1 (x.Columns.map (fun x=> .int .i64 x))]
def ZDE (x:ZjT):List (Lf Zz1):=[⟨(.int .i64),x.e0.ID⟩,⟨.str,x.e0.Name⟩,⟨(.sl (.st 1)),x.e0.Columns⟩,⟨(.int .i64),x.e1.ID⟩,⟨.str,x.e1.Name⟩,⟨(.sl (.st 1)),x.e1.Columns⟩]
def ZCD:List (Lf Zz1)->Option ZjT
 | [c0,c1,c2,c3,c4,c5]=>(c0.as (.int .i64)).bind fun f=>(c1.as .str).bind fun c=>(c2.as (.sl (.st 1))).bind fun e=>(c3.as (.int .i64)).bind fun b=>(c4.as .str).bind fun a=>(c5.as (.sl (.st 1))).bind fun d=>some (ZjT.mk (G_api_Table.mk f c e) (G_api_Table.mk b a d))
 |_=>none
theorem ZGJ (a:List (Lf Zz1)) (x:ZjT) (h:ZCD a=some x):ZDE x=a:=by
 unfold ZCD at h;split at h;rotate_left;simp at h
 repeat (replace h:=ZEs h;obtain⟨_,rfl,h⟩:=h)
 obtain rfl:=Option.some.inj h;rfl
def ZHg (x:ZjT):P:= .agg [.int .i64 x.e0.ID,.str x.e0.Name,.sl 2 (x.e0.Columns.map Zus),.int .i64 x.e1.ID,.str x.e1.Name,.sl 2 (x.e1.Columns.map Zus)]
def Zzu (x:Zys):List (Lf Zz1):=x.1.map fun y=>⟨(.int .u8),y⟩
def ZD4 (a:List (Lf Zz1)):Option Zys:=match Zj (fun c=>c.as (.int .u8)) a with
 |some l=>if h:l.length=256 then some ⟨l,h⟩else none
 |none=>none
theorem ZHz (a:List (Lf Zz1)) (x:Zys) (h:ZD4 a=some x):Zzu x=a:=by unfold ZD4 at h;split at h;rotate_left;simp at h;rename_i l b;split at h;rotate_left;simp at h;simp only[Option.some.injEq]at h;subst h;exact(Zm5 b).symm
def ZDr (x:Zys):P:= .agg (x.1.map fun y=> .int .u8 y)
def Zvq (x:ZoW):List (Lf Zz1):=[⟨(.int .u8),x.e0.lo⟩,⟨(.int .u8),x.e0.hi⟩,⟨(.int .u8),x.e1.lo⟩,⟨(.int .u8),x.e1.hi⟩,⟨(.int .u8),x.e2.lo⟩,⟨(.int .u8),x.e2.hi⟩,⟨(.int .u8),x.e3.lo⟩,⟨(.int .u8),x.e3.hi⟩,⟨(.int .u8),x.e4.lo⟩,⟨(.int .u8),x.e4.hi⟩,⟨(.int .u8),x.e5.lo⟩,⟨(.int .u8),x.e5.hi⟩,⟨(.int .u8),x.e6.lo⟩,⟨(.int .u8),x.e6.hi⟩,⟨(.int .u8),x.e7.lo⟩,⟨(.int .u8),x.e7.hi⟩,⟨(.int .u8),x.e8.lo⟩,⟨(.int .u8),x.e8.hi⟩,⟨(.int .u8),x.e9.lo⟩,⟨(.int .u8),x.e9.hi⟩,⟨(.int .u8),x.e10.lo⟩,⟨(.int .u8),x.e10.hi⟩,⟨(.int .u8),x.e11.lo⟩,⟨(.int .u8),x.e11.hi⟩,⟨(.int .u8),x.e12.lo⟩,⟨(.int .u8),x.e12.hi⟩,⟨(.int .u8),x.e13.lo⟩,⟨(.int .u8),x.e13.hi⟩,⟨(.int .u8),x.e14.lo⟩,⟨(.int .u8),x.e14.hi⟩,⟨(.int .u8),x.e15.lo⟩,⟨(.int .u8),x.e15.hi⟩]
def Zr1:List (Lf Zz1)->Option ZoW
 | [c0,c1,c2,c3,c4,c5,c6,c7,c8,c9,c10,c11,c12,c13,c14,c15,c16,c17,c18,c19,c20,c21,c22,c23,c24,c25,c26,c27,c28,c29,c30,c31]=>(c0.as (.int .u8)).bind fun F=>(c1.as (.int .u8)).bind fun x=>(c2.as (.int .u8)).bind fun E=>(c3.as (.int .u8)).bind fun w=>(c4.as (.int .u8)).bind fun z=>(c5.as (.int .u8)).bind fun y=>(c6.as (.int .u8)).bind fun A=>(c7.as (.int .u8)).bind fun C=>(c8.as (.int .u8)).bind fun D=>(c9.as (.int .u8)).bind fun B=>(c10.as (.int .u8)).bind fun i=>(c11.as (.int .u8)).bind fun s=>(c12.as (.int .u8)).bind fun m=>(c13.as (.int .u8)).bind fun e=>(c14.as (.int .u8)).bind fun g=>(c15.as (.int .u8)).bind fun c=>(c16.as (.int .u8)).bind fun u=>(c17.as (.int .u8)).bind fun k=>(c18.as (.int .u8)).bind fun q=>(c19.as (.int .u8)).bind fun h=>(c20.as (.int .u8)).bind fun l=>(c21.as (.int .u8)).bind fun v=>(c22.as (.int .u8)).bind fun n=>(c23.as (.int .u8)).bind fun r=>(c24.as (.int .u8)).bind fun a=>(c25.as (.int .u8)).bind fun j=>(c26.as (.int .u8)).bind fun b=>(c27.as (.int .u8)).bind fun p=>(c28.as (.int .u8)).bind fun f=>(c29.as (.int .u8)).bind fun t=>(c30.as (.int .u8)).bind fun d=>(c31.as (.int .u8)).bind fun o=>some (ZoW.mk (ZdN.mk F x) (ZdN.mk E w) (ZdN.mk z y) (ZdN.mk A C) (ZdN.mk D B) (ZdN.mk i s) (ZdN.mk m e) (ZdN.mk g c) (ZdN.mk u k) (ZdN.mk q h) (ZdN.mk l v) (ZdN.mk n r) (ZdN.mk a j) (ZdN.mk b p) (ZdN.mk f t) (ZdN.mk d o))
 |_=>none
theorem ZB1 (a:List (Lf Zz1)) (x:ZoW) (h:Zr1 a=some x):Zvq x=a:=by
 unfold Zr1 at h;split at h;rotate_left;simp at h
 repeat (replace h:=ZEs h;obtain⟨_,rfl,h⟩:=h)
 obtain rfl:=Option.some.inj h;rfl
def ZCP (x:ZoW):P:= .agg [.int .u8 x.e0.lo,.int .u8 x.e0.hi,.int .u8 x.e1.lo,.int .u8 x.e1.hi,.int .u8 x.e2.lo,.int .u8 x.e2.hi,.int .u8 x.e3.lo,.int .u8 x.e3.hi,.int .u8 x.e4.lo,.int .u8 x.e4.hi,.int .u8 x.e5.lo,.int .u8 x.e5.hi,.int .u8 x.e6.lo,.int .u8 x.e6.hi,.int .u8 x.e7.lo,.int .u8 x.e7.hi,.int .u8 x.e8.lo,.int .u8 x.e8.hi,.int .u8 x.e9.lo,.int .u8 x.e9.hi,.int .u8 x.e10.lo,.int .u8 x.e10.hi,.int .u8 x.e11.lo,.int .u8 x.e11.hi,.int .u8 x.e12.lo,.int .u8 x.e12.hi,.int .u8 x.e13.lo,.int .u8 x.e13.hi,.int .u8 x.e14.lo,.int .u8 x.e14.hi,.int .u8 x.e15.lo,.int .u8 x.e15.hi]
def ZWg:(n:Nat)->Zz1 n->List (Lf Zz1)
 |0,x=>ZHb x
 |1,x=>ZGf x
 |2,x=>ZGO x
 |3,x=>ZHH x
 |4,x=>ZFo x
 |5,x=>Zz0 x
 |6,x=>ZGe x
 |7,x=>ZHa x
 |8,x=>ZDk x
 |9,x=>ZCF x
 |10,x=>ZH2 x
 |11,x=>ZDE x
 |12,x=>Zzu x
 |13,x=>Zvq x
 |_+14,_=>[]
def ofU:(n:Nat)->List (Lf Zz1)->Option (Zz1 n)
 |0,cs=>ZG2 cs
 |1,cs=>ZF1 cs
 |2,cs=>ZGr cs
 |3,cs=>ZHA cs
 |4,cs=>ZEp cs
 |5,cs=>ZwX cs
 |6,cs=>ZFZ cs
 |7,cs=>ZG1 cs
 |8,cs=>ZBC cs
 |9,cs=>ZAp cs
 |10,cs=>ZH5 cs
 |11,cs=>ZCD cs
 |12,cs=>ZD4 cs
 |13,cs=>Zr1 cs
 |_+14,cs=>match cs with | []=>some () |_=>none
def encU:(n:Nat)->Zz1 n->P
 |0,x=>ZzY x
 |1,x=>Zus x
 |2,x=>ZHF x
 |3,x=>ZKY x
 |4,x=>ZD6 x
 |5,x=>ZE2 x
 |6,x=>ZJe x
 |7,x=>ZH1 x
 |8,x=>ZG5 x
 |9,x=>ZGs x
 |10,x=>ZLL x
 |11,x=>ZHg x
 |12,x=>ZDr x
 |13,x=>ZCP x
 |_+14,_=> .agg []
@[reducible] def U:Zd:=⟨Zz1,ZYE,ZWg,ofU,encU⟩
theorem ZHh (x:Zys):ZDr x= .agg ((Zzu x).map U.encL):=by unfold ZDr Zzu;rw[List.map_map];rfl
theorem uok:UOk U where
 of_cells:=fun n a x h=>match n,x,h with
  |0,x,h=>ZJd a x h
  |1,x,h=>ZIr a x h
  |2,x,h=>ZIO a x h
  |3,x,h=>ZJP a x h
  |4,x,h=>ZHV a x h
  |5,x,h=>ZEe a x h
  |6,x,h=>ZIq a x h
  |7,x,h=>ZJc a x h
  |8,x,h=>ZGq a x h
  |9,x,h=>ZF0 a x h
  |10,x,h=>ZKc a x h
  |11,x,h=>ZGJ a x h
  |12,x,h=>ZHz a x h
  |13,x,h=>ZB1 a x h
  |_+14,x,h=>by
   match a,h with
   | [],h=>rfl
 enc_cells:=fun n x=>match n,x with
  |0,x=>rfl
  |1,x=>rfl
  |2,x=>rfl
  |3,x=>rfl
  |4,x=>rfl
  |5,x=>rfl
  |6,x=>rfl
  |7,x=>rfl
  |8,x=>rfl
  |9,x=>rfl
  |10,x=>rfl
  |11,x=>rfl
  |12,x=>ZHh x
  |13,x=>rfl
  |_+14,x=>rfl
 len:=fun n x=>match n,x with
  |0,x=>rfl
  |1,x=>rfl
  |2,x=>rfl
  |3,x=>rfl
  |4,x=>rfl
  |5,x=>rfl
  |6,x=>rfl
  |7,x=>rfl
  |8,x=>rfl
  |9,x=>rfl
  |10,x=>rfl
  |11,x=>rfl
  |12,x=>(List.length_map ..).trans x.2
  |13,x=>rfl
  |_+14,x=>rfl
noncomputable def tt0:List (Option (TT U)):=[
 none,
 some ⟨⟨.func,1,8,[.p .nilfn]⟩,none,.fnc,[.nilfn],some ⟨.fnc,(none:Option Nat)⟩⟩,
 some ⟨⟨.int .i64,1,8,[.p (.int .i64 0)]⟩,none,(.int .i64),[.v (.int .i64) (0:Int)],some ⟨(.int .i64),(0:Int)⟩⟩,
 some ⟨⟨.int .i64,1,8,[.p (.int .i64 0)]⟩,none,(.int .i64),[.v (.int .i64) (0:Int)],some ⟨(.int .i64),(0:Int)⟩⟩,
 some ⟨⟨.bool,1,1,[.p (.bool false)]⟩,none,.bool,[.v .bool false],some ⟨.bool,false⟩⟩,
 some ⟨⟨.int .u8,1,1,[.p (.int .u8 0)]⟩,none,(.int .u8),[.v (.int .u8) (0:Int)],some ⟨(.int .u8),(0:Int)⟩⟩,
 none,
 none,
 none,
 some ⟨⟨.str,1,16,[.p (.str [])]⟩,none,.str,[.v .str ([]:Str)],some ⟨.str,([]:Str)⟩⟩,
 none,
 none,
 some ⟨⟨.int .u64,1,8,[.p (.int .u64 0)]⟩,none,(.int .u64),[.v (.int .u64) (0:Int)],some ⟨(.int .u64),(0:Int)⟩⟩,
 none,
 none,
 none,
 none,
 none,
 none,
 none,
 none,
 none,
 some ⟨⟨.sl 37,1,24,[.nils 2]⟩,none,(.sl (.st 1)),[.nils (.st 1)],some ⟨(.sl (.st 1)),[]⟩⟩,
 some ⟨⟨.struct [(0,3),(1,9),(2,22)],3,48,[.p (.int .i64 0),.p (.str []),.nils 2]⟩,some 2,(.st 2),[.v (.int .i64) (0:Int),.v .str ([]:Str),.nils (.st 1)],some ⟨(.st 2),(G_api_Table.mk 0 ([]:Str) ([]:(List G_api_Column)))⟩⟩,
 some ⟨⟨.struct [(0,3),(1,9),(2,22)],3,48,[.p (.int .i64 0),.p (.str []),.nils 2]⟩,some 2,(.st 2),[.v (.int .i64) (0:Int),.v .str ([]:Str),.nils (.st 1)],some ⟨(.st 2),(G_api_Table.mk 0 ([]:Str) ([]:(List G_api_Column)))⟩⟩,
 some ⟨⟨.sl 3,1,24,[.nils 1]⟩,none,(.sl (.int .i64)),[.nils (.int .i64)],some ⟨(.sl (.int .i64)),[]⟩⟩,
 none,
 none,
 none,
 some ⟨⟨.ptr 68,1,8,[.p .nilp]⟩,none,.bool,[.nilp],none⟩,
 none,
 none,
 none,
 none,
 none,
 some ⟨⟨.sl 64,1,24,[.nils 2]⟩,none,(.sl (.st 0)),[.nils (.st 0)],some ⟨(.sl (.st 0)),[]⟩⟩,
 some ⟨⟨.struct [(0,9),(1,35)],2,40,[.p (.str []),.nils 2]⟩,some 1,(.st 1),[.v .str ([]:Str),.nils (.st 0)],some ⟨(.st 1),(G_api_Column.mk ([]:Str) ([]:(List G_api_Cell)))⟩⟩,
 some ⟨⟨.struct [(0,9),(1,35)],2,40,[.p (.str []),.nils 2]⟩,some 1,(.st 1),[.v .str ([]:Str),.nils (.st 0)],some ⟨(.st 1),(G_api_Column.mk ([]:Str) ([]:(List G_api_Cell)))⟩⟩,
 some ⟨⟨.arr 2 24,6,96,[.p (.int .i64 0),.p (.str []),.nils 2,.p (.int .i64 0),.p (.str []),.nils 2]⟩,some 11,(.st 11),[.v (.int .i64) (0:Int),.v .str ([]:Str),.nils (.st 1),.v (.int .i64) (0:Int),.v .str ([]:Str),.nils (.st 1)],some ⟨(.st 11),(ZjT.mk (G_api_Table.mk 0 ([]:Str) ([]:(List G_api_Column))) (G_api_Table.mk 0 ([]:Str) ([]:(List G_api_Column))))⟩⟩,
 some ⟨⟨.sl 38,1,24,[.nils 6]⟩,none,(.sl (.st 11)),[.nils (.st 11)],some ⟨(.sl (.st 11)),[]⟩⟩,
 some ⟨⟨.sl 123,1,24,[.nils 1]⟩,none,(.sl (.int .u32)),[.nils (.int .u32)],some ⟨(.sl (.int .u32)),[]⟩⟩,
 some ⟨⟨.struct [(0,4),(1,40)],2,32,[.p (.bool false),.nils 1]⟩,some 3,(.st 3),[.v .bool false,.nils (.int .u32)],some ⟨(.st 3),(Zgo.mk false ([]:(List Int)))⟩⟩,
 some ⟨⟨.struct [(0,4),(1,40)],2,32,[.p (.bool false),.nils 1]⟩,some 3,(.st 3),[.v .bool false,.nils (.int .u32)],some ⟨(.st 3),(Zgo.mk false ([]:(List Int)))⟩⟩,
 some ⟨⟨.struct [(0,42),(2,42)],4,64,[.p (.bool false),.nils 1,.p (.bool false),.nils 1]⟩,some 4,(.st 4),[.v .bool false,.nils (.int .u32),.v .bool false,.nils (.int .u32)],some ⟨(.st 4),(ZbF.mk (Zgo.mk false ([]:(List Int))) (Zgo.mk false ([]:(List Int))))⟩⟩,
 some ⟨⟨.struct [(0,42),(2,42)],4,64,[.p (.bool false),.nils 1,.p (.bool false),.nils 1]⟩,some 4,(.st 4),[.v .bool false,.nils (.int .u32),.v .bool false,.nils (.int .u32)],some ⟨(.st 4),(ZbF.mk (Zgo.mk false ([]:(List Int))) (Zgo.mk false ([]:(List Int))))⟩⟩,
 some ⟨⟨.int .i64,1,8,[.p (.int .i64 0)]⟩,none,(.int .i64),[.v (.int .i64) (0:Int)],some ⟨(.int .i64),(0:Int)⟩⟩,
 none,
 none,
 none,
 none,
 some ⟨⟨.sl 25,1,24,[.nils 1]⟩,none,(.sl (.sl (.int .i64))),[.nils (.sl (.int .i64))],some ⟨(.sl (.sl (.int .i64))),[]⟩⟩,
 none,
 none,
 none,
 none,
 none,
 none,
 none,
 none,
 none,
 none,
 none,
 some ⟨⟨.func,1,8,[.p .nilfn]⟩,none,.fnc,[.nilfn],some ⟨.fnc,(none:Option Nat)⟩⟩,
 some ⟨⟨.struct [(0,4),(1,9)],2,24,[.p (.bool false),.p (.str [])]⟩,some 0,(.st 0),[.v .bool false,.v .str ([]:Str)],some ⟨(.st 0),(G_api_Cell.mk false ([]:Str))⟩⟩,
 some ⟨⟨.struct [(0,4),(1,9)],2,24,[.p (.bool false),.p (.str [])]⟩,some 0,(.st 0),[.v .bool false,.v .str ([]:Str)],some ⟨(.st 0),(G_api_Cell.mk false ([]:Str))⟩⟩,
 none,
 none,
 some ⟨⟨.struct [(0,25),(1,3)],2,32,[.nils 1,.p (.int .i64 0)]⟩,some 9,(.st 9),[.nils (.int .i64),.v (.int .i64) (0:Int)],some ⟨(.st 9),(ZbZ.mk ([]:(List Int)) 0)⟩⟩,
 some ⟨⟨.struct [(0,25),(1,3)],2,32,[.nils 1,.p (.int .i64 0)]⟩,some 9,(.st 9),[.nils (.int .i64),.v (.int .i64) (0:Int)],some ⟨(.st 9),(ZbZ.mk ([]:(List Int)) 0)⟩⟩,
 none,
 none,
 none,
 some ⟨⟨.struct [(0,3),(1,3),(2,9),(3,25)],4,56,[.p (.int .i64 0),.p (.int .i64 0),.p (.str []),.nils 1]⟩,some 10,(.st 10),[.v (.int .i64) (0:Int),.v (.int .i64) (0:Int),.v .str ([]:Str),.nils (.int .i64)],some ⟨(.st 10),(Zlj.mk 0 0 ([]:Str) ([]:(List Int)))⟩⟩,
 some ⟨⟨.struct [(0,3),(1,3),(2,9),(3,25)],4,56,[.p (.int .i64 0),.p (.int .i64 0),.p (.str []),.nils 1]⟩,some 10,(.st 10),[.v (.int .i64) (0:Int),.v (.int .i64) (0:Int),.v .str ([]:Str),.nils (.int .i64)],some ⟨(.st 10),(Zlj.mk 0 0 ([]:Str) ([]:(List Int)))⟩⟩,
 none,
 some ⟨⟨.sl 73,1,24,[.nils 4]⟩,none,(.sl (.st 10)),[.nils (.st 10)],some ⟨(.sl (.st 10)),[]⟩⟩,
 none,
 some ⟨⟨.sl 78,1,24,[.nils 1]⟩,none,(.sl (.sl (.st 4))),[.nils (.sl (.st 4))],some ⟨(.sl (.sl (.st 4))),[]⟩⟩,
 some ⟨⟨.sl 44,1,24,[.nils 4]⟩,none,(.sl (.st 4)),[.nils (.st 4)],some ⟨(.sl (.st 4)),[]⟩⟩,
 none,
 none,
 none,
 none,
 none,
 none,
 none,
 none,
 none,
 none,
 none,
 none,
 none,
 none,
 none,
 none,
 some ⟨⟨.sl 9,1,24,[.nils 1]⟩,none,(.sl .str),[.nils .str],some ⟨(.sl .str),[]⟩⟩,
 none,
 none,
 none,
 none,
 none,
 none,
 none,
 some ⟨⟨.func,1,8,[.p .nilfn]⟩,none,.fnc,[.nilfn],some ⟨.fnc,(none:Option Nat)⟩⟩,
 some ⟨⟨.func,1,8,[.p .nilfn]⟩,none,.fnc,[.nilfn],some ⟨.fnc,(none:Option Nat)⟩⟩,
 none,
 none,
 none,
 none,
 some ⟨⟨.ptr 112,1,8,[.p .nilp]⟩,none,.bool,[.nilp],none⟩,
 some ⟨⟨.map 138 44,1,8,[.p (.map (.arr 2 0) [])]⟩,none,(.map (.st 7) (.st 4)),[.v (.map (.st 7) (.st 4)) []],some ⟨(.map (.st 7) (.st 4)),[]⟩⟩,
 some ⟨⟨.struct [(0,77),(1,110)],2,32,[.nils 1,.p (.map (.arr 2 0) [])]⟩,some 8,(.st 8),[.nils (.sl (.st 4)),.v (.map (.st 7) (.st 4)) []],some ⟨(.st 8),(Zrw.mk ([]:(List (List ZbF))) ([]:(List (Ziw×ZbF))))⟩⟩,
 some ⟨⟨.struct [(0,77),(1,110)],2,32,[.nils 1,.p (.map (.arr 2 0) [])]⟩,some 8,(.st 8),[.nils (.sl (.st 4)),.v (.map (.st 7) (.st 4)) []],some ⟨(.st 8),(Zrw.mk ([]:(List (List ZbF))) ([]:(List (Ziw×ZbF))))⟩⟩,
 none,
 none,
 none,
 none,
 none,
 none,
 none,
 none,
 none,
 some ⟨⟨.int .u64,1,8,[.p (.int .u64 0)]⟩,none,(.int .u64),[.v (.int .u64) (0:Int)],some ⟨(.int .u64),(0:Int)⟩⟩,
 some ⟨⟨.int .u32,1,4,[.p (.int .u32 0)]⟩,none,(.int .u32),[.v (.int .u32) (0:Int)],some ⟨(.int .u32),(0:Int)⟩⟩,
 none,
 none,
 none,
 none,
 none,
 none,
 none,
 none,
 none,
 none,
 none,
 none,
 none,
 none,
 some ⟨⟨.arr 2 3,2,16,[.p (.int .i64 0),.p (.int .i64 0)]⟩,some 7,(.st 7),[.v (.int .i64) (0:Int),.v (.int .i64) (0:Int)],some ⟨(.st 7),(Ziw.mk 0 0)⟩⟩,
 none,
 none,
 some ⟨⟨.func,1,8,[.p .nilfn]⟩,none,.fnc,[.nilfn],some ⟨.fnc,(none:Option Nat)⟩⟩,
 some ⟨⟨.func,1,8,[.p .nilfn]⟩,none,.fnc,[.nilfn],some ⟨.fnc,(none:Option Nat)⟩⟩,
 none,
 none,
 none,
 none,
 some ⟨⟨.int .u64,1,8,[.p (.int .u64 0)]⟩,none,(.int .u64),[.v (.int .u64) (0:Int)],some ⟨(.int .u64),(0:Int)⟩⟩,
 none,
 none,
 none,
 none,
 none,
 none,
 none,
 none,
 none,
 none,
 none,
 none,
 none,
 none,
 none,
 none,
 none,
 none,
 some ⟨⟨.sl 5,1,24,[.nils 1]⟩,none,(.sl (.int .u8)),[.nils (.int .u8)],some ⟨(.sl (.int .u8)),[]⟩⟩,
 none,
 none,
 none,
 none,
 none,
 none,
 none,
 none,
 none,
 none,
 none,
 none,
 none,
 none,
 some ⟨⟨.sl 123,1,24,[.nils 1]⟩,none,(.sl (.int .u32)),[.nils (.int .u32)],some ⟨(.sl (.int .u32)),[]⟩⟩,
 none,
 none,
 none,
 none,
 none,
 none,
 none,
 none,
 none,
 none,
 none,
 none,
 none,
 none,
 none,
 none,
 none,
 none,
 none,
 none,
 none,
 none,
 none,
 none,
 none,
 none,
 none,
 some ⟨⟨.arr 256 5,256,256,[.p (.int .u8 0),.p (.int .u8 0),.p (.int .u8 0),.p (.int .u8 0),.p (.int .u8 0),.p (.int .u8 0),.p (.int .u8 0),.p (.int .u8 0),.p (.int .u8 0),.p (.int .u8 0),.p (.int .u8 0),.p (.int .u8 0),.p (.int .u8 0),.p (.int .u8 0),.p (.int .u8 0),.p (.int .u8 0),.p (.int .u8 0),.p (.int .u8 0),.p (.int .u8 0),.p (.int .u8 0),.p (.int .u8 0),.p (.int .u8 0),.p (.int .u8 0),.p (.int .u8 0),.p (.int .u8 0),.p (.int .u8 0),.p (.int .u8 0),.p (.int .u8 0),.p (.int .u8 0),.p (.int .u8 0),.p (.int .u8 0),.p (.int .u8 0),.p (.int .u8 0),.p (.int .u8 0),.p (.int .u8 0),.p (.int .u8 0),.p (.int .u8 0),.p (.int .u8 0),.p (.int .u8 0),.p (.int .u8 0),.p (.int .u8 0),.p (.int .u8 0),.p (.int .u8 0),.p (.int .u8 0),.p (.int .u8 0),.p (.int .u8 0),.p (.int .u8 0),.p (.int .u8 0),.p (.int .u8 0),.p (.int .u8 0),.p (.int .u8 0),.p (.int .u8 0),.p (.int .u8 0),.p (.int .u8 0),.p (.int .u8 0),.p (.int .u8 0),.p (.int .u8 0),.p (.int .u8 0),.p (.int .u8 0),.p (.int .u8 0),.p (.int .u8 0),.p (.int .u8 0),.p (.int .u8 0),.p (.int .u8 0),.p (.int .u8 0),.p (.int .u8 0),.p (.int .u8 0),.p (.int .u8 0),.p (.int .u8 0),.p (.int .u8 0),.p (.int .u8 0),.p (.int .u8 0),.p (.int .u8 0),.p (.int .u8 0),.p (.int .u8 0),.p (.int .u8 0),.p (.int .u8 0),.p (.int .u8 0),.p (.int .u8 0),.p (.int .u8 0),.p (.int .u8 0),.p (.int .u8 0),.p (.int .u8 0),.p (.int .u8 0),.p (.int .u8 0),.p (.int .u8 0),.p (.int .u8 0),.p (.int .u8 0),.p (.int .u8 0),.p (.int .u8 0),.p (.int .u8 0),.p (.int .u8 0),.p (.int .u8 0),.p (.int .u8 0),.p (.int .u8 0),.p (.int .u8 0),.p (.int .u8 0),.p (.int .u8 0),.p (.int .u8 0),.p (.int .u8 0),.p (.int .u8 0),.p (.int .u8 0),.p (.int .u8 0),.p (.int .u8 0),.p (.int .u8 0),.p (.int .u8 0),.p (.int .u8 0),.p (.int .u8 0),.p (.int .u8 0),.p (.int .u8 0),.p (.int .u8 0),.p (.int .u8 0),.p (.int .u8 0),.p (.int .u8 0),.p (.int .u8 0),.p (.int .u8 0),.p (.int .u8 0),.p (.int .u8 0),.p (.int .u8 0),.p (.int .u8 0),.p (.int .u8 0),.p (.int .u8 0),.p (.int .u8 0),.p (.int .u8 0),.p (.int .u8 0),.p (.int .u8 0),.p (.int .u8 0),.p (.int .u8 0),.p (.int .u8 0),.p (.int .u8 0),.p (.int .u8 0),.p (.int .u8 0),.p (.int .u8 0),.p (.int .u8 0),.p (.int .u8 0),.p (.int .u8 0),.p (.int .u8 0),.p (.int .u8 0),.p (.int .u8 0),.p (.int .u8 0),.p (.int .u8 0),.p (.int .u8 0),.p (.int .u8 0),.p (.int .u8 0),.p (.int .u8 0),.p (.int .u8 0),.p (.int .u8 0),.p (.int .u8 0),.p (.int .u8 0),.p (.int .u8 0),.p (.int .u8 0),.p (.int .u8 0),.p (.int .u8 0),.p (.int .u8 0),.p (.int .u8 0),.p (.int .u8 0),.p (.int .u8 0),.p (.int .u8 0),.p (.int .u8 0),.p (.int .u8 0),.p (.int .u8 0),.p (.int .u8 0),.p (.int .u8 0),.p (.int .u8 0),.p (.int .u8 0),.p (.int .u8 0),.p (.int .u8 0),.p (.int .u8 0),.p (.int .u8 0),.p (.int .u8 0),.p (.int .u8 0),.p (.int .u8 0),.p (.int .u8 0),.p (.int .u8 0),.p (.int .u8 0),.p (.int .u8 0),.p (.int .u8 0),.p (.int .u8 0),.p (.int .u8 0),.p (.int .u8 0),.p (.int .u8 0),.p (.int .u8 0),.p (.int .u8 0),.p (.int .u8 0),.p (.int .u8 0),.p (.int .u8 0),.p (.int .u8 0),.p (.int .u8 0),.p (.int .u8 0),.p (.int .u8 0),.p (.int .u8 0),.p (.int .u8 0),.p (.int .u8 0),.p (.int .u8 0),.p (.int .u8 0),.p (.int .u8 0),.p (.int .u8 0),.p (.int .u8 0),.p (.int .u8 0),.p (.int .u8 0),.p (.int .u8 0),.p (.int .u8 0),.p (.int .u8 0),.p (.int .u8 0),.p (.int .u8 0),.p (.int .u8 0),.p (.int .u8 0),.p (.int .u8 0),.p (.int .u8 0),.p (.int .u8 0),.p (.int .u8 0),.p (.int .u8 0),.p (.int .u8 0),.p (.int .u8 0),.p (.int .u8 0),.p (.int .u8 0),.p (.int .u8 0),.p (.int .u8 0),.p (.int .u8 0),.p (.int .u8 0),.p (.int .u8 0),.p (.int .u8 0),.p (.int .u8 0),.p (.int .u8 0),.p (.int .u8 0),.p (.int .u8 0),.p (.int .u8 0),.p (.int .u8 0),.p (.int .u8 0),.p (.int .u8 0),.p (.int .u8 0),.p (.int .u8 0),.p (.int .u8 0),.p (.int .u8 0),.p (.int .u8 0),.p (.int .u8 0),.p (.int .u8 0),.p (.int .u8 0),.p (.int .u8 0),.p (.int .u8 0),.p (.int .u8 0),.p (.int .u8 0),.p (.int .u8 0),.p (.int .u8 0),.p (.int .u8 0),.p (.int .u8 0),.p (.int .u8 0),.p (.int .u8 0),.p (.int .u8 0),.p (.int .u8 0),.p (.int .u8 0),.p (.int .u8 0),.p (.int .u8 0),.p (.int .u8 0),.p (.int .u8 0),.p (.int .u8 0)]⟩,some 12,(.st 12),List.replicate 256 (.v (.int .u8) (0:Int)),some ⟨(.st 12),(⟨List.replicate 256 (0:Int),List.length_replicate⟩:Zys)⟩⟩,
 some ⟨⟨.struct [(0,5),(1,5)],2,2,[.p (.int .u8 0),.p (.int .u8 0)]⟩,some 5,(.st 5),[.v (.int .u8) (0:Int),.v (.int .u8) (0:Int)],some ⟨(.st 5),(ZdN.mk 0 0)⟩⟩,
 some ⟨⟨.struct [(0,5),(1,5)],2,2,[.p (.int .u8 0),.p (.int .u8 0)]⟩,some 5,(.st 5),[.v (.int .u8) (0:Int),.v (.int .u8) (0:Int)],some ⟨(.st 5),(ZdN.mk 0 0)⟩⟩,
 some ⟨⟨.arr 16 211,32,32,[.p (.int .u8 0),.p (.int .u8 0),.p (.int .u8 0),.p (.int .u8 0),.p (.int .u8 0),.p (.int .u8 0),.p (.int .u8 0),.p (.int .u8 0),.p (.int .u8 0),.p (.int .u8 0),.p (.int .u8 0),.p (.int .u8 0),.p (.int .u8 0),.p (.int .u8 0),.p (.int .u8 0),.p (.int .u8 0),.p (.int .u8 0),.p (.int .u8 0),.p (.int .u8 0),.p (.int .u8 0),.p (.int .u8 0),.p (.int .u8 0),.p (.int .u8 0),.p (.int .u8 0),.p (.int .u8 0),.p (.int .u8 0),.p (.int .u8 0),.p (.int .u8 0),.p (.int .u8 0),.p (.int .u8 0),.p (.int .u8 0),.p (.int .u8 0)]⟩,some 13,(.st 13),[.v (.int .u8) (0:Int),.v (.int .u8) (0:Int),.v (.int .u8) (0:Int),.v (.int .u8) (0:Int),.v (.int .u8) (0:Int),.v (.int .u8) (0:Int),.v (.int .u8) (0:Int),.v (.int .u8) (0:Int),.v (.int .u8) (0:Int),.v (.int .u8) (0:Int),.v (.int .u8) (0:Int),.v (.int .u8) (0:Int),.v (.int .u8) (0:Int),.v (.int .u8) (0:Int),.v (.int .u8) (0:Int),.v (.int .u8) (0:Int),.v (.int .u8) (0:Int),.v (.int .u8) (0:Int),.v (.int .u8) (0:Int),.v (.int .u8) (0:Int),.v (.int .u8) (0:Int),.v (.int .u8) (0:Int),.v (.int .u8) (0:Int),.v (.int .u8) (0:Int),.v (.int .u8) (0:Int),.v (.int .u8) (0:Int),.v (.int .u8) (0:Int),.v (.int .u8) (0:Int),.v (.int .u8) (0:Int),.v (.int .u8) (0:Int),.v (.int .u8) (0:Int),.v (.int .u8) (0:Int)],some ⟨(.st 13),(ZoW.mk (ZdN.mk 0 0) (ZdN.mk 0 0) (ZdN.mk 0 0) (ZdN.mk 0 0) (ZdN.mk 0 0) (ZdN.mk 0 0) (ZdN.mk 0 0) (ZdN.mk 0 0) (ZdN.mk 0 0) (ZdN.mk 0 0) (ZdN.mk 0 0) (ZdN.mk 0 0) (ZdN.mk 0 0) (ZdN.mk 0 0) (ZdN.mk 0 0) (ZdN.mk 0 0))⟩⟩,
 none,
 none,
 none,
 none,
 none,
 none,
 some ⟨⟨.func,1,8,[.p .nilfn]⟩,none,.fnc,[.nilfn],some ⟨.fnc,(none:Option Nat)⟩⟩,
 some ⟨⟨.func,1,8,[.p .nilfn]⟩,none,.fnc,[.nilfn],some ⟨.fnc,(none:Option Nat)⟩⟩,
 some ⟨⟨.struct [(0,9),(1,219),(2,220)],3,32,[.p (.str []),.p .nilfn,.p .nilfn]⟩,some 6,(.st 6),[.v .str ([]:Str),.nilfn,.nilfn],some ⟨(.st 6),(Zp0.mk ([]:Str) (none:Option Nat) (none:Option Nat))⟩⟩,
 some ⟨⟨.struct [(0,9),(1,219),(2,220)],3,32,[.p (.str []),.p .nilfn,.p .nilfn]⟩,some 6,(.st 6),[.v .str ([]:Str),.nilfn,.nilfn],some ⟨(.st 6),(Zp0.mk ([]:Str) (none:Option Nat) (none:Option Nat))⟩⟩,
 some ⟨⟨.map 3 222,1,8,[.p (.map (.int .i64) [])]⟩,none,(.map (.int .i64) (.st 6)),[.v (.map (.int .i64) (.st 6)) []],some ⟨(.map (.int .i64) (.st 6)),[]⟩⟩,
 none,
 some ⟨⟨.sl 42,1,24,[.nils 2]⟩,none,(.sl (.st 3)),[.nils (.st 3)],some ⟨(.sl (.st 3)),[]⟩⟩,
 none,
 none,
 none,
 none,
 none,
 none,
 none,
 none,
 none,
 none,
 none,
 none,
 none,
 none,
 none,
 none,
 none,
 none,
 none,
 none,
 none,
 none,
 none,
 none,
 none,
 none,
 none,
 none,
 none,
 none,
 none,
 none,
 none,
 none,
 none,
 none,
 none,
 none,
 none,
 none,
 none,
 none,
 none,
 none,
 none,
 none,
 none,
 none,
 none,
 none,
 none,
 none,
 none,
 none,
 none,
 none,
 none,
 none,
 none,
 none,
 none,
 none,
 none,
 none,
 none,
 none,
 none,
 none,
 none,
 none,
 none,
 none,
 none,
 none,
 none,
 none,
 none,
 none,
 none,
 none,
 none,
 none,
 none,
 none,
 none,
 none,
 none,
 none,
 none,
 none,
 none,
 none,
 none,
 none,
 none,
 none,
 none,
 none,
 none,
 none,
 none,
 none,
 none,
 none,
 none,
 none,
 none,
 none,
 none,
 none,
 none,
 none]
noncomputable def X0:ZG U:=⟨Tryz.prog,tt0,[(0,ZIS),(1,ZD5),(2,Zu3),(3,ZDD)],0,[⟨999999,1,1,(.st 0)⟩],[7],ZJs⟩
theorem tok0:TOk X0:=tok_of (by kernel_rfl) (by kernel_rfl) (by kernel_rfl) (own1 (by decide) (fun x=>x.Cells) (fun _=>rfl) own0) (key1 (fun x=>x.e0) (fun x=>x.e1) (fun _=>rfl) (fun _ _=>rfl) key0)
theorem eok0:Zl X0.E:=⟨by kernel_rfl⟩
theorem mixed:X0.prog.follows .mixedOrders=true:=by kernel_rfl
theorem G0:Gnd X0:=⟨uok,tok0,eok0,mixed⟩
noncomputable def ZGg:ZkU U:=⟨(List Str),[37],[.p],[some 1],[.p (.st 1)],fun v=>ZwT v.1,fun q=>⟨[.p ⟨(.sl .str),q⟩],[]⟩⟩
noncomputable def ZFq:ZkU U:=⟨(List Str),[9],[.p],[none],[.p .str],fun v=>Zug v.1,fun q=>⟨[.p ⟨(.sl .str),q⟩],[]⟩⟩
noncomputable def ZFj:ZkU U:=⟨Str,[9,9],[.p,.p],[none,none],[.p .str,.p .str],fun v=>ZDf v.1 v.2.1,fun q=>⟨[.p ⟨.str,q⟩],[]⟩⟩
noncomputable def ZyN:ZkU U:=⟨Int,[9,5],[.p,.p],[none,none],[.p .str,.p (.int .u8)],fun v=>Zrb v.1 v.2.1,fun q=>⟨[.p ⟨(.int .i64),q⟩],[]⟩⟩
noncomputable def ZFp:ZkU U:=⟨Str,[9,9],[.p,.p],[none,none],[.p .str,.p .str],fun v=>ZBV v.1 v.2.1,fun q=>⟨[.p ⟨.str,q⟩],[]⟩⟩
noncomputable def ZE4:ZkU U:=⟨Str,[9,9],[.p,.p],[none,none],[.p .str,.p .str],fun v=>ZDm v.1 v.2.1,fun q=>⟨[.p ⟨.str,q⟩],[]⟩⟩
noncomputable def ZFk:ZkU U:=⟨Str,[3],[.p],[none],[.p (.int .i64)],fun v=>ZBj v.1,fun q=>⟨[.p ⟨.str,q⟩],[]⟩⟩
end Go.Proofs
