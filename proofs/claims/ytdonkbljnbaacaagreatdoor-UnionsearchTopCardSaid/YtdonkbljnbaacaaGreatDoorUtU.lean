/- Printed by wip/tools/tgen.py: tables. -/
import Derived.Test.YtdonkbljnbaacaaGreatDoorUtS
import Derived.Test.YtdonkbljnbaacaaGreatDoorUtWX
import Derived.Test.YtdonkbljnbaacaaGreatDoorProg
import Derived.KernelRfl
set_option linter.all false
namespace Go.Proofs
open Go Eng
set_option maxRecDepth 100000
def ZHX (x:G_api_Cell):List (Lf ZAj):=[⟨.bool,x.Null⟩,⟨.str,x.Text⟩]
def ZHL:List (Lf ZAj)->Option G_api_Cell
 | [c0,c1]=>(c0.as .bool).bind fun b=>(c1.as .str).bind fun a=>some (G_api_Cell.mk b a)
 |_=>none
theorem ZJ7 (a:List (Lf ZAj)) (x:G_api_Cell) (h:ZHL a=some x):ZHX x=a:=by
 unfold ZHL at h;split at h;rotate_left;simp at h
 repeat (replace h:=ZE0 h;obtain⟨_,rfl,h⟩:=h)
 obtain rfl:=Option.some.inj h;rfl
def ZAg (x:G_api_Cell):P:= .agg [.bool x.Null,.str x.Text]
def ZGQ (x:G_api_Column):List (Lf ZAj):=[⟨.str,x.Name⟩,⟨(.sl (.st 0)),x.Cells⟩]
def ZGB:List (Lf ZAj)->Option G_api_Column
 | [c0,c1]=>(c0.as .str).bind fun b=>(c1.as (.sl (.st 0))).bind fun a=>some (G_api_Column.mk b a)
 |_=>none
theorem ZJd (a:List (Lf ZAj)) (x:G_api_Column) (h:ZGB a=some x):ZGQ x=a:=by
 unfold ZGB at h;split at h;rotate_left;simp at h
 repeat (replace h:=ZE0 h;obtain⟨_,rfl,h⟩:=h)
 obtain rfl:=Option.some.inj h;rfl
def Zzo (x:G_api_Column):P:= .agg [.str x.Name,.sl 2 (x.Cells.map ZAg)]
def ZHu (x:G_api_Table):List (Lf ZAj):=[⟨(.int .i64),x.ID⟩,⟨.str,x.Name⟩,⟨(.sl (.st 1)),x.Columns⟩]
def ZG7:List (Lf ZAj)->Option G_api_Table
 | [c0,c1,c2]=>(c0.as (.int .i64)).bind fun c=>(c1.as .str).bind fun b=>(c2.as (.sl (.st 1))).bind fun a=>some (G_api_Table.mk c b a)
 |_=>none
theorem ZJG (a:List (Lf ZAj)) (x:G_api_Table) (h:ZG7 a=some x):ZHu x=a:=by
 unfold ZG7 at h;split at h;rotate_left;simp at h
 repeat (replace h:=ZE0 h;obtain⟨_,rfl,h⟩:=h)
 obtain rfl:=Option.some.inj h;rfl
def ZIs (x:G_api_Table):P:= .agg [.int .i64 x.ID,.str x.Name,.sl 2 (x.Columns.map Zzo)]
def ZIu (x:Zgo):List (Lf ZAj):=[⟨.bool,x.Neg⟩,⟨(.sl (.int .u32)),x.Words⟩]
def ZIl:List (Lf ZAj)->Option Zgo
 | [c0,c1]=>(c0.as .bool).bind fun b=>(c1.as (.sl (.int .u32))).bind fun a=>some (Zgo.mk b a)
 |_=>none
theorem ZKF (a:List (Lf ZAj)) (x:Zgo) (h:ZIl a=some x):ZIu x=a:=by
 unfold ZIl at h;split at h;rotate_left;simp at h
 repeat (replace h:=ZE0 h;obtain⟨_,rfl,h⟩:=h)
 obtain rfl:=Option.some.inj h;rfl
def ZLU (x:Zgo):P:= .agg [.bool x.Neg,.sl 1 (x.Words.map (fun x=> .int .u32 x))]
def ZFU (x:ZbF):List (Lf ZAj):=[⟨.bool,x.Num.Neg⟩,⟨(.sl (.int .u32)),x.Num.Words⟩,⟨.bool,x.Den.Neg⟩,⟨(.sl (.int .u32)),x.Den.Words⟩]
def ZEX:List (Lf ZAj)->Option ZbF
 | [c0,c1,c2,c3]=>(c0.as .bool).bind fun d=>(c1.as (.sl (.int .u32))).bind fun b=>(c2.as .bool).bind fun c=>(c3.as (.sl (.int .u32))).bind fun a=>some (ZbF.mk (Zgo.mk d b) (Zgo.mk c a))
 |_=>none
theorem ZIH (a:List (Lf ZAj)) (x:ZbF) (h:ZEX a=some x):ZFU x=a:=by
 unfold ZEX at h;split at h;rotate_left;simp at h
 repeat (replace h:=ZE0 h;obtain⟨_,rfl,h⟩:=h)
 obtain rfl:=Option.some.inj h;rfl
def ZEB (x:ZbF):P:= .agg [.bool x.Num.Neg,.sl 1 (x.Num.Words.map (fun x=> .int .u32 x)),.bool x.Den.Neg,.sl 1 (x.Den.Words.map (fun x=> .int .u32 x))]
def ZAi (x:ZdN):List (Lf ZAj):=[⟨(.int .u8),x.lo⟩,⟨(.int .u8),x.hi⟩]
def ZwZ:List (Lf ZAj)->Option ZdN
 | [c0,c1]=>(c0.as (.int .u8)).bind fun b=>(c1.as (.int .u8)).bind fun a=>some (ZdN.mk b a)
 |_=>none
theorem ZEJ (a:List (Lf ZAj)) (x:ZdN) (h:ZwZ a=some x):ZAi x=a:=by
 unfold ZwZ at h;split at h;rotate_left;simp at h
 repeat (replace h:=ZE0 h;obtain⟨_,rfl,h⟩:=h)
 obtain rfl:=Option.some.inj h;rfl
def ZFu (x:ZdN):P:= .agg [.int .u8 x.lo,.int .u8 x.hi]
def ZGP (x:Zp0):List (Lf ZAj):=[⟨.str,x.word⟩,⟨.fnc,x.canonical⟩,⟨.fnc,x.value⟩]
def ZGz:List (Lf ZAj)->Option Zp0
 | [c0,c1,c2]=>(c0.as .str).bind fun c=>(c1.as .fnc).bind fun b=>(c2.as .fnc).bind fun a=>some (Zp0.mk c b a)
 |_=>none
theorem ZJc (a:List (Lf ZAj)) (x:Zp0) (h:ZGz a=some x):ZGP x=a:=by
 unfold ZGz at h;split at h;rotate_left;simp at h
 repeat (replace h:=ZE0 h;obtain⟨_,rfl,h⟩:=h)
 obtain rfl:=Option.some.inj h;rfl
def ZJ8 (x:Zp0):P:= .agg [.str x.word,Zkw x.canonical,Zkw x.value]
def ZHW (x:Ziw):List (Lf ZAj):=[⟨(.int .i64),x.e0⟩,⟨(.int .i64),x.e1⟩]
def ZHK:List (Lf ZAj)->Option Ziw
 | [c0,c1]=>(c0.as (.int .i64)).bind fun b=>(c1.as (.int .i64)).bind fun a=>some (Ziw.mk b a)
 |_=>none
theorem ZJ6 (a:List (Lf ZAj)) (x:Ziw) (h:ZHK a=some x):ZHW x=a:=by
 unfold ZHK at h;split at h;rotate_left;simp at h
 repeat (replace h:=ZE0 h;obtain⟨_,rfl,h⟩:=h)
 obtain rfl:=Option.some.inj h;rfl
def ZIN (x:Ziw):P:= .agg [.int .i64 x.e0,.int .i64 x.e1]
def ZDQ (x:Zrw):List (Lf ZAj):=[⟨(.sl (.sl (.st 4))),x.w_⟩,⟨(.map (.st 7) (.st 4)),x.best⟩]
def ZBY:List (Lf ZAj)->Option Zrw
 | [c0,c1]=>(c0.as (.sl (.sl (.st 4)))).bind fun b=>(c1.as (.map (.st 7) (.st 4))).bind fun a=>some (Zrw.mk b a)
 |_=>none
theorem ZG6 (a:List (Lf ZAj)) (x:Zrw) (h:ZBY a=some x):ZDQ x=a:=by
 unfold ZBY at h;split at h;rotate_left;simp at h
 repeat (replace h:=ZE0 h;obtain⟨_,rfl,h⟩:=h)
 obtain rfl:=Option.some.inj h;rfl
def ZHP (x:Zrw):P:= .agg [.sl 1 (x.w_.map (fun x=> .sl 4 (x.map ZEB))),.map (.arr 2 0) (x.best.map fun e=>(ZIN e.1,ZEB e.2))]
def ZDb (x:ZbZ):List (Lf ZAj):=[⟨(.sl (.int .i64)),x.l⟩,⟨(.int .i64),x.at_⟩]
def ZAP:List (Lf ZAj)->Option ZbZ
 | [c0,c1]=>(c0.as (.sl (.int .i64))).bind fun b=>(c1.as (.int .i64)).bind fun a=>some (ZbZ.mk b a)
 |_=>none
theorem ZGA (a:List (Lf ZAj)) (x:ZbZ) (h:ZAP a=some x):ZDb x=a:=by
 unfold ZAP at h;split at h;rotate_left;simp at h
 repeat (replace h:=ZE0 h;obtain⟨_,rfl,h⟩:=h)
 obtain rfl:=Option.some.inj h;rfl
def ZG9 (x:ZbZ):P:= .agg [.sl 1 (x.l.map (fun x=> .int .i64 x)),.int .i64 x.at_]
def ZIO (x:Zk3):List (Lf ZAj):=[⟨(.int .i64),x.Kind⟩,⟨(.int .i64),x.Column⟩,⟨.str,x.Text⟩,⟨(.sl (.int .i64)),x.Columns⟩]
def ZIR:List (Lf ZAj)->Option Zk3
 | [c0,c1,c2,c3]=>(c0.as (.int .i64)).bind fun d=>(c1.as (.int .i64)).bind fun b=>(c2.as .str).bind fun c=>(c3.as (.sl (.int .i64))).bind fun a=>some (Zk3.mk d b c a)
 |_=>none
theorem ZK6 (a:List (Lf ZAj)) (x:Zk3) (h:ZIR a=some x):ZIO x=a:=by
 unfold ZIR at h;split at h;rotate_left;simp at h
 repeat (replace h:=ZE0 h;obtain⟨_,rfl,h⟩:=h)
 obtain rfl:=Option.some.inj h;rfl
def ZMG (x:Zk3):P:= .agg [.int .i64 x.Kind,.int .i64 x.Column,.str x.Text,.sl 1 (x.Columns.map (fun x=> .int .i64 x))]
def ZHv (x:ZkC):List (Lf ZAj):=[⟨(.int .i64),x.Table⟩,⟨(.sl (.int .i64)),x.Align⟩,⟨.bool,x.Score.Num.Neg⟩,⟨(.sl (.int .u32)),x.Score.Num.Words⟩,⟨.bool,x.Score.Den.Neg⟩,⟨(.sl (.int .u32)),x.Score.Den.Words⟩]
def ZG8:List (Lf ZAj)->Option ZkC
 | [c0,c1,c2,c3,c4,c5]=>(c0.as (.int .i64)).bind fun f=>(c1.as (.sl (.int .i64))).bind fun c=>(c2.as .bool).bind fun d=>(c3.as (.sl (.int .u32))).bind fun b=>(c4.as .bool).bind fun a=>(c5.as (.sl (.int .u32))).bind fun e=>some (ZkC.mk f c (ZbF.mk (Zgo.mk d b) (Zgo.mk a e)))
 |_=>none
theorem ZJH (a:List (Lf ZAj)) (x:ZkC) (h:ZG8 a=some x):ZHv x=a:=by
 unfold ZG8 at h;split at h;rotate_left;simp at h
 repeat (replace h:=ZE0 h;obtain⟨_,rfl,h⟩:=h)
 obtain rfl:=Option.some.inj h;rfl
def ZKR (x:ZkC):P:= .agg [.int .i64 x.Table,.sl 1 (x.Align.map (fun x=> .int .i64 x)),.bool x.Score.Num.Neg,.sl 1 (x.Score.Num.Words.map (fun x=> .int .u32 x)),.bool x.Score.Den.Neg,.sl 1 (x.Score.Den.Words.map (fun x=> .int .u32 x))]
def ZzI (x:ZyB):List (Lf ZAj):=x.1.map fun y=>⟨(.int .u8),y⟩
def ZEy (a:List (Lf ZAj)):Option ZyB:=match Zj (fun c=>c.as (.int .u8)) a with
 |some l=>if h:l.length=256 then some ⟨l,h⟩else none
 |none=>none
theorem ZIk (a:List (Lf ZAj)) (x:ZyB) (h:ZEy a=some x):ZzI x=a:=by unfold ZEy at h;split at h;rotate_left;simp at h;rename_i l b;split at h;rotate_left;simp at h;simp only[Option.some.injEq]at h;subst h;exact(Zm5 b).symm
def ZDX (x:ZyB):P:= .agg (x.1.map fun y=> .int .u8 y)
def Zvr (x:ZoU):List (Lf ZAj):=[⟨(.int .u8),x.e0.lo⟩,⟨(.int .u8),x.e0.hi⟩,⟨(.int .u8),x.e1.lo⟩,⟨(.int .u8),x.e1.hi⟩,⟨(.int .u8),x.e2.lo⟩,⟨(.int .u8),x.e2.hi⟩,⟨(.int .u8),x.e3.lo⟩,⟨(.int .u8),x.e3.hi⟩,⟨(.int .u8),x.e4.lo⟩,⟨(.int .u8),x.e4.hi⟩,⟨(.int .u8),x.e5.lo⟩,⟨(.int .u8),x.e5.hi⟩,⟨(.int .u8),x.e6.lo⟩,⟨(.int .u8),x.e6.hi⟩,⟨(.int .u8),x.e7.lo⟩,⟨(.int .u8),x.e7.hi⟩,⟨(.int .u8),x.e8.lo⟩,⟨(.int .u8),x.e8.hi⟩,⟨(.int .u8),x.e9.lo⟩,⟨(.int .u8),x.e9.hi⟩,⟨(.int .u8),x.e10.lo⟩,⟨(.int .u8),x.e10.hi⟩,⟨(.int .u8),x.e11.lo⟩,⟨(.int .u8),x.e11.hi⟩,⟨(.int .u8),x.e12.lo⟩,⟨(.int .u8),x.e12.hi⟩,⟨(.int .u8),x.e13.lo⟩,⟨(.int .u8),x.e13.hi⟩,⟨(.int .u8),x.e14.lo⟩,⟨(.int .u8),x.e14.hi⟩,⟨(.int .u8),x.e15.lo⟩,⟨(.int .u8),x.e15.hi⟩]
def Zr8:List (Lf ZAj)->Option ZoU
 | [c0,c1,c2,c3,c4,c5,c6,c7,c8,c9,c10,c11,c12,c13,c14,c15,c16,c17,c18,c19,c20,c21,c22,c23,c24,c25,c26,c27,c28,c29,c30,c31]=>(c0.as (.int .u8)).bind fun z=>(c1.as (.int .u8)).bind fun C=>(c2.as (.int .u8)).bind fun y=>(c3.as (.int .u8)).bind fun B=>(c4.as (.int .u8)).bind fun E=>(c5.as (.int .u8)).bind fun D=>(c6.as (.int .u8)).bind fun w=>(c7.as (.int .u8)).bind fun x=>(c8.as (.int .u8)).bind fun A=>(c9.as (.int .u8)).bind fun F=>(c10.as (.int .u8)).bind fun r=>(c11.as (.int .u8)).bind fun i=>(c12.as (.int .u8)).bind fun m=>(c13.as (.int .u8)).bind fun g=>(c14.as (.int .u8)).bind fun l=>(c15.as (.int .u8)).bind fun h=>(c16.as (.int .u8)).bind fun k=>(c17.as (.int .u8)).bind fun a=>(c18.as (.int .u8)).bind fun f=>(c19.as (.int .u8)).bind fun o=>(c20.as (.int .u8)).bind fun d=>(c21.as (.int .u8)).bind fun u=>(c22.as (.int .u8)).bind fun q=>(c23.as (.int .u8)).bind fun p=>(c24.as (.int .u8)).bind fun n=>(c25.as (.int .u8)).bind fun c=>(c26.as (.int .u8)).bind fun j=>(c27.as (.int .u8)).bind fun s=>(c28.as (.int .u8)).bind fun b=>(c29.as (.int .u8)).bind fun v=>(c30.as (.int .u8)).bind fun e=>(c31.as (.int .u8)).bind fun t=>some (ZoU.mk (ZdN.mk z C) (ZdN.mk y B) (ZdN.mk E D) (ZdN.mk w x) (ZdN.mk A F) (ZdN.mk r i) (ZdN.mk m g) (ZdN.mk l h) (ZdN.mk k a) (ZdN.mk f o) (ZdN.mk d u) (ZdN.mk q p) (ZdN.mk n c) (ZdN.mk j s) (ZdN.mk b v) (ZdN.mk e t))
 |_=>none
theorem ZCr (a:List (Lf ZAj)) (x:ZoU) (h:Zr8 a=some x):Zvr x=a:=by
 unfold Zr8 at h;split at h;rotate_left;simp at h
 repeat (replace h:=ZE0 h;obtain⟨_,rfl,h⟩:=h)
 obtain rfl:=Option.some.inj h;rfl
def ZDl (x:ZoU):P:= .agg [.int .u8 x.e0.lo,.int .u8 x.e0.hi,.int .u8 x.e1.lo,.int .u8 x.e1.hi,.int .u8 x.e2.lo,.int .u8 x.e2.hi,.int .u8 x.e3.lo,.int .u8 x.e3.hi,.int .u8 x.e4.lo,.int .u8 x.e4.hi,.int .u8 x.e5.lo,.int .u8 x.e5.hi,.int .u8 x.e6.lo,.int .u8 x.e6.hi,.int .u8 x.e7.lo,.int .u8 x.e7.hi,.int .u8 x.e8.lo,.int .u8 x.e8.hi,.int .u8 x.e9.lo,.int .u8 x.e9.hi,.int .u8 x.e10.lo,.int .u8 x.e10.hi,.int .u8 x.e11.lo,.int .u8 x.e11.hi,.int .u8 x.e12.lo,.int .u8 x.e12.hi,.int .u8 x.e13.lo,.int .u8 x.e13.hi,.int .u8 x.e14.lo,.int .u8 x.e14.hi,.int .u8 x.e15.lo,.int .u8 x.e15.hi]
def ZXL:(n:Nat)->ZAj n->List (Lf ZAj)
 |0,x=>ZHX x
 |1,x=>ZGQ x
 |2,x=>ZHu x
 |3,x=>ZIu x
 |4,x=>ZFU x
 |5,x=>ZAi x
 |6,x=>ZGP x
 |7,x=>ZHW x
 |8,x=>ZDQ x
 |9,x=>ZDb x
 |10,x=>ZIO x
 |11,x=>ZHv x
 |12,x=>ZzI x
 |13,x=>Zvr x
 |_+14,_=>[]
def ofU:(n:Nat)->List (Lf ZAj)->Option (ZAj n)
 |0,cs=>ZHL cs
 |1,cs=>ZGB cs
 |2,cs=>ZG7 cs
 |3,cs=>ZIl cs
 |4,cs=>ZEX cs
 |5,cs=>ZwZ cs
 |6,cs=>ZGz cs
 |7,cs=>ZHK cs
 |8,cs=>ZBY cs
 |9,cs=>ZAP cs
 |10,cs=>ZIR cs
 |11,cs=>ZG8 cs
 |12,cs=>ZEy cs
 |13,cs=>Zr8 cs
 |_+14,cs=>match cs with | []=>some () |_=>none
def encU:(n:Nat)->ZAj n->P
 |0,x=>ZAg x
 |1,x=>Zzo x
 |2,x=>ZIs x
 |3,x=>ZLU x
 |4,x=>ZEB x
 |5,x=>ZFu x
 |6,x=>ZJ8 x
 |7,x=>ZIN x
 |8,x=>ZHP x
 |9,x=>ZG9 x
 |10,x=>ZMG x
 |11,x=>ZKR x
 |12,x=>ZDX x
 |13,x=>ZDl x
 |_+14,_=> .agg []
@[reducible] def U:Zd:=⟨ZAj,Z0h,ZXL,ofU,encU⟩
theorem ZH2 (x:ZyB):ZDX x= .agg ((ZzI x).map U.encL):=by unfold ZDX ZzI;rw[List.map_map];rfl
theorem uok:UOk U where
 of_cells:=fun n a x h=>match n,x,h with
  |0,x,h=>ZJ7 a x h
  |1,x,h=>ZJd a x h
  |2,x,h=>ZJG a x h
  |3,x,h=>ZKF a x h
  |4,x,h=>ZIH a x h
  |5,x,h=>ZEJ a x h
  |6,x,h=>ZJc a x h
  |7,x,h=>ZJ6 a x h
  |8,x,h=>ZG6 a x h
  |9,x,h=>ZGA a x h
  |10,x,h=>ZK6 a x h
  |11,x,h=>ZJH a x h
  |12,x,h=>ZIk a x h
  |13,x,h=>ZCr a x h
  |_+14,x,h=>by
   match a,h with
   | [],h=>rfl
 enc_cells:=fun n x=>match n,x with
  |0,x=>rfl
  |1,x=>rfl
  |2,x=>rfl
  |3,x=>rfl
  |4,x=>rfl
  |5,x=>rfl
  |6,x=>rfl
  |7,x=>rfl
  |8,x=>rfl
  |9,x=>rfl
  |10,x=>rfl
  |11,x=>rfl
  |12,x=>ZH2 x
  |13,x=>rfl
  |_+14,x=>rfl
 len:=fun n x=>match n,x with
  |0,x=>rfl
  |1,x=>rfl
  |2,x=>rfl
  |3,x=>rfl
  |4,x=>rfl
  |5,x=>rfl
  |6,x=>rfl
  |7,x=>rfl
  |8,x=>rfl
  |9,x=>rfl
  |10,x=>rfl
  |11,x=>rfl
  |12,x=>(List.length_map ..).trans x.2
  |13,x=>rfl
  |_+14,x=>rfl
noncomputable def tt0:List (Option (TT U)):=[
 none,
 some ⟨⟨.func,1,8,[.p .nilfn]⟩,none,.fnc,[.nilfn],some ⟨.fnc,(none:Option Nat)⟩⟩,
 some ⟨⟨.int .i64,1,8,[.p (.int .i64 0)]⟩,none,(.int .i64),[.v (.int .i64) (0:Int)],some ⟨(.int .i64),(0:Int)⟩⟩,
 some ⟨⟨.int .i64,1,8,[.p (.int .i64 0)]⟩,none,(.int .i64),[.v (.int .i64) (0:Int)],some ⟨(.int .i64),(0:Int)⟩⟩,
 some ⟨⟨.bool,1,1,[.p (.bool false)]⟩,none,.bool,[.v .bool false],some ⟨.bool,false⟩⟩,
 some ⟨⟨.int .u8,1,1,[.p (.int .u8 0)]⟩,none,(.int .u8),[.v (.int .u8) (0:Int)],some ⟨(.int .u8),(0:Int)⟩⟩,
 none,
 none,
 none,
 some ⟨⟨.str,1,16,[.p (.str [])]⟩,none,.str,[.v .str ([]:Str)],some ⟨.str,([]:Str)⟩⟩,
 none,
 none,
 some ⟨⟨.int .u64,1,8,[.p (.int .u64 0)]⟩,none,(.int .u64),[.v (.int .u64) (0:Int)],some ⟨(.int .u64),(0:Int)⟩⟩,
 none,
 none,
 none,
 none,
 none,
 none,
 none,
 none,
 none,
 some ⟨⟨.sl 37,1,24,[.nils 2]⟩,none,(.sl (.st 1)),[.nils (.st 1)],some ⟨(.sl (.st 1)),[]⟩⟩,
 some ⟨⟨.struct [(0,3),(1,9),(2,22)],3,48,[.p (.int .i64 0),.p (.str []),.nils 2]⟩,some 2,(.st 2),[.v (.int .i64) (0:Int),.v .str ([]:Str),.nils (.st 1)],some ⟨(.st 2),(G_api_Table.mk 0 ([]:Str) ([]:(List G_api_Column)))⟩⟩,
 some ⟨⟨.struct [(0,3),(1,9),(2,22)],3,48,[.p (.int .i64 0),.p (.str []),.nils 2]⟩,some 2,(.st 2),[.v (.int .i64) (0:Int),.v .str ([]:Str),.nils (.st 1)],some ⟨(.st 2),(G_api_Table.mk 0 ([]:Str) ([]:(List G_api_Column)))⟩⟩,
 some ⟨⟨.sl 3,1,24,[.nils 1]⟩,none,(.sl (.int .i64)),[.nils (.int .i64)],some ⟨(.sl (.int .i64)),[]⟩⟩,
 some ⟨⟨.func,1,8,[.p .nilfn]⟩,none,.fnc,[.nilfn],some ⟨.fnc,(none:Option Nat)⟩⟩,
 none,
 none,
 some ⟨⟨.ptr 68,1,8,[.p .nilp]⟩,none,.bool,[.nilp],none⟩,
 none,
 none,
 none,
 none,
 none,
 some ⟨⟨.sl 64,1,24,[.nils 2]⟩,none,(.sl (.st 0)),[.nils (.st 0)],some ⟨(.sl (.st 0)),[]⟩⟩,
 some ⟨⟨.struct [(0,9),(1,35)],2,40,[.p (.str []),.nils 2]⟩,some 1,(.st 1),[.v .str ([]:Str),.nils (.st 0)],some ⟨(.st 1),(G_api_Column.mk ([]:Str) ([]:(List G_api_Cell)))⟩⟩,
 some ⟨⟨.struct [(0,9),(1,35)],2,40,[.p (.str []),.nils 2]⟩,some 1,(.st 1),[.v .str ([]:Str),.nils (.st 0)],some ⟨(.st 1),(G_api_Column.mk ([]:Str) ([]:(List G_api_Cell)))⟩⟩,
 none,
 none,
 some ⟨⟨.sl 123,1,24,[.nils 1]⟩,none,(.sl (.int .u32)),[.nils (.int .u32)],some ⟨(.sl (.int .u32)),[]⟩⟩,
 some ⟨⟨.struct [(0,4),(1,40)],2,32,[.p (.bool false),.nils 1]⟩,some 3,(.st 3),[.v .bool false,.nils (.int .u32)],some ⟨(.st 3),(Zgo.mk false ([]:(List Int)))⟩⟩,
 some ⟨⟨.struct [(0,4),(1,40)],2,32,[.p (.bool false),.nils 1]⟩,some 3,(.st 3),[.v .bool false,.nils (.int .u32)],some ⟨(.st 3),(Zgo.mk false ([]:(List Int)))⟩⟩,
 some ⟨⟨.struct [(0,42),(2,42)],4,64,[.p (.bool false),.nils 1,.p (.bool false),.nils 1]⟩,some 4,(.st 4),[.v .bool false,.nils (.int .u32),.v .bool false,.nils (.int .u32)],some ⟨(.st 4),(ZbF.mk (Zgo.mk false ([]:(List Int))) (Zgo.mk false ([]:(List Int))))⟩⟩,
 some ⟨⟨.struct [(0,42),(2,42)],4,64,[.p (.bool false),.nils 1,.p (.bool false),.nils 1]⟩,some 4,(.st 4),[.v .bool false,.nils (.int .u32),.v .bool false,.nils (.int .u32)],some ⟨(.st 4),(ZbF.mk (Zgo.mk false ([]:(List Int))) (Zgo.mk false ([]:(List Int))))⟩⟩,
 some ⟨⟨.int .i64,1,8,[.p (.int .i64 0)]⟩,none,(.int .i64),[.v (.int .i64) (0:Int)],some ⟨(.int .i64),(0:Int)⟩⟩,
 none,
 none,
 none,
 none,
 none,
 none,
 none,
 none,
 none,
 some ⟨⟨.sl 24,1,24,[.nils 3]⟩,none,(.sl (.st 2)),[.nils (.st 2)],some ⟨(.sl (.st 2)),[]⟩⟩,
 none,
 some ⟨⟨.sl 55,1,24,[.nils 1]⟩,none,(.sl (.sl (.st 2))),[.nils (.sl (.st 2))],some ⟨(.sl (.sl (.st 2))),[]⟩⟩,
 some ⟨⟨.sl 91,1,24,[.nils 6]⟩,none,(.sl (.st 11)),[.nils (.st 11)],some ⟨(.sl (.st 11)),[]⟩⟩,
 none,
 none,
 none,
 some ⟨⟨.func,1,8,[.p .nilfn]⟩,none,.fnc,[.nilfn],some ⟨.fnc,(none:Option Nat)⟩⟩,
 some ⟨⟨.struct [(0,4),(1,9)],2,24,[.p (.bool false),.p (.str [])]⟩,some 0,(.st 0),[.v .bool false,.v .str ([]:Str)],some ⟨(.st 0),(G_api_Cell.mk false ([]:Str))⟩⟩,
 some ⟨⟨.struct [(0,4),(1,9)],2,24,[.p (.bool false),.p (.str [])]⟩,some 0,(.st 0),[.v .bool false,.v .str ([]:Str)],some ⟨(.st 0),(G_api_Cell.mk false ([]:Str))⟩⟩,
 none,
 none,
 some ⟨⟨.struct [(0,25),(1,3)],2,32,[.nils 1,.p (.int .i64 0)]⟩,some 9,(.st 9),[.nils (.int .i64),.v (.int .i64) (0:Int)],some ⟨(.st 9),(ZbZ.mk ([]:(List Int)) 0)⟩⟩,
 some ⟨⟨.struct [(0,25),(1,3)],2,32,[.nils 1,.p (.int .i64 0)]⟩,some 9,(.st 9),[.nils (.int .i64),.v (.int .i64) (0:Int)],some ⟨(.st 9),(ZbZ.mk ([]:(List Int)) 0)⟩⟩,
 none,
 none,
 none,
 some ⟨⟨.struct [(0,3),(1,3),(2,9),(3,25)],4,56,[.p (.int .i64 0),.p (.int .i64 0),.p (.str []),.nils 1]⟩,some 10,(.st 10),[.v (.int .i64) (0:Int),.v (.int .i64) (0:Int),.v .str ([]:Str),.nils (.int .i64)],some ⟨(.st 10),(Zk3.mk 0 0 ([]:Str) ([]:(List Int)))⟩⟩,
 some ⟨⟨.struct [(0,3),(1,3),(2,9),(3,25)],4,56,[.p (.int .i64 0),.p (.int .i64 0),.p (.str []),.nils 1]⟩,some 10,(.st 10),[.v (.int .i64) (0:Int),.v (.int .i64) (0:Int),.v .str ([]:Str),.nils (.int .i64)],some ⟨(.st 10),(Zk3.mk 0 0 ([]:Str) ([]:(List Int)))⟩⟩,
 none,
 some ⟨⟨.sl 73,1,24,[.nils 4]⟩,none,(.sl (.st 10)),[.nils (.st 10)],some ⟨(.sl (.st 10)),[]⟩⟩,
 none,
 some ⟨⟨.sl 78,1,24,[.nils 1]⟩,none,(.sl (.sl (.st 4))),[.nils (.sl (.st 4))],some ⟨(.sl (.sl (.st 4))),[]⟩⟩,
 some ⟨⟨.sl 44,1,24,[.nils 4]⟩,none,(.sl (.st 4)),[.nils (.st 4)],some ⟨(.sl (.st 4)),[]⟩⟩,
 none,
 none,
 none,
 none,
 none,
 none,
 none,
 none,
 none,
 none,
 none,
 some ⟨⟨.struct [(0,3),(1,25),(2,44)],6,96,[.p (.int .i64 0),.nils 1,.p (.bool false),.nils 1,.p (.bool false),.nils 1]⟩,some 11,(.st 11),[.v (.int .i64) (0:Int),.nils (.int .i64),.v .bool false,.nils (.int .u32),.v .bool false,.nils (.int .u32)],some ⟨(.st 11),(ZkC.mk 0 ([]:(List Int)) (ZbF.mk (Zgo.mk false ([]:(List Int))) (Zgo.mk false ([]:(List Int)))))⟩⟩,
 some ⟨⟨.struct [(0,3),(1,25),(2,44)],6,96,[.p (.int .i64 0),.nils 1,.p (.bool false),.nils 1,.p (.bool false),.nils 1]⟩,some 11,(.st 11),[.v (.int .i64) (0:Int),.nils (.int .i64),.v .bool false,.nils (.int .u32),.v .bool false,.nils (.int .u32)],some ⟨(.st 11),(ZkC.mk 0 ([]:(List Int)) (ZbF.mk (Zgo.mk false ([]:(List Int))) (Zgo.mk false ([]:(List Int)))))⟩⟩,
 none,
 some ⟨⟨.func,1,8,[.p .nilfn]⟩,none,.fnc,[.nilfn],some ⟨.fnc,(none:Option Nat)⟩⟩,
 none,
 some ⟨⟨.sl 9,1,24,[.nils 1]⟩,none,(.sl .str),[.nils .str],some ⟨(.sl .str),[]⟩⟩,
 none,
 none,
 none,
 none,
 none,
 none,
 none,
 some ⟨⟨.func,1,8,[.p .nilfn]⟩,none,.fnc,[.nilfn],some ⟨.fnc,(none:Option Nat)⟩⟩,
 some ⟨⟨.func,1,8,[.p .nilfn]⟩,none,.fnc,[.nilfn],some ⟨.fnc,(none:Option Nat)⟩⟩,
 none,
 none,
 none,
 none,
 some ⟨⟨.ptr 112,1,8,[.p .nilp]⟩,none,.bool,[.nilp],none⟩,
 some ⟨⟨.map 138 44,1,8,[.p (.map (.arr 2 0) [])]⟩,none,(.map (.st 7) (.st 4)),[.v (.map (.st 7) (.st 4)) []],some ⟨(.map (.st 7) (.st 4)),[]⟩⟩,
 some ⟨⟨.struct [(0,77),(1,110)],2,32,[.nils 1,.p (.map (.arr 2 0) [])]⟩,some 8,(.st 8),[.nils (.sl (.st 4)),.v (.map (.st 7) (.st 4)) []],some ⟨(.st 8),(Zrw.mk ([]:(List (List ZbF))) ([]:(List (Ziw×ZbF))))⟩⟩,
 some ⟨⟨.struct [(0,77),(1,110)],2,32,[.nils 1,.p (.map (.arr 2 0) [])]⟩,some 8,(.st 8),[.nils (.sl (.st 4)),.v (.map (.st 7) (.st 4)) []],some ⟨(.st 8),(Zrw.mk ([]:(List (List ZbF))) ([]:(List (Ziw×ZbF))))⟩⟩,
 none,
 none,
 none,
 none,
 none,
 none,
 none,
 none,
 none,
 some ⟨⟨.int .u64,1,8,[.p (.int .u64 0)]⟩,none,(.int .u64),[.v (.int .u64) (0:Int)],some ⟨(.int .u64),(0:Int)⟩⟩,
 some ⟨⟨.int .u32,1,4,[.p (.int .u32 0)]⟩,none,(.int .u32),[.v (.int .u32) (0:Int)],some ⟨(.int .u32),(0:Int)⟩⟩,
 none,
 none,
 none,
 none,
 none,
 none,
 none,
 none,
 none,
 none,
 none,
 none,
 none,
 none,
 some ⟨⟨.arr 2 3,2,16,[.p (.int .i64 0),.p (.int .i64 0)]⟩,some 7,(.st 7),[.v (.int .i64) (0:Int),.v (.int .i64) (0:Int)],some ⟨(.st 7),(Ziw.mk 0 0)⟩⟩,
 none,
 none,
 some ⟨⟨.func,1,8,[.p .nilfn]⟩,none,.fnc,[.nilfn],some ⟨.fnc,(none:Option Nat)⟩⟩,
 some ⟨⟨.func,1,8,[.p .nilfn]⟩,none,.fnc,[.nilfn],some ⟨.fnc,(none:Option Nat)⟩⟩,
 none,
 none,
 none,
 none,
 some ⟨⟨.int .u64,1,8,[.p (.int .u64 0)]⟩,none,(.int .u64),[.v (.int .u64) (0:Int)],some ⟨(.int .u64),(0:Int)⟩⟩,
 none,
 none,
 none,
 none,
 none,
 none,
 none,
 none,
 none,
 none,
 none,
 none,
 none,
 none,
 none,
 none,
 none,
 none,
 some ⟨⟨.sl 5,1,24,[.nils 1]⟩,none,(.sl (.int .u8)),[.nils (.int .u8)],some ⟨(.sl (.int .u8)),[]⟩⟩,
 none,
 none,
 none,
 none,
 none,
 none,
 none,
 none,
 none,
 none,
 none,
 none,
 none,
 none,
 some ⟨⟨.sl 123,1,24,[.nils 1]⟩,none,(.sl (.int .u32)),[.nils (.int .u32)],some ⟨(.sl (.int .u32)),[]⟩⟩,
 none,
 none,
 none,
 none,
 none,
 none,
 none,
 none,
 none,
 none,
 none,
 none,
 none,
 some ⟨⟨.int .i64,1,8,[.p (.int .i64 0)]⟩,none,(.int .i64),[.v (.int .i64) (0:Int)],some ⟨(.int .i64),(0:Int)⟩⟩,
 none,
 none,
 none,
 none,
 none,
 none,
 none,
 none,
 none,
 none,
 none,
 none,
 none,
 some ⟨⟨.arr 256 5,256,256,[.p (.int .u8 0),.p (.int .u8 0),.p (.int .u8 0),.p (.int .u8 0),.p (.int .u8 0),.p (.int .u8 0),.p (.int .u8 0),.p (.int .u8 0),.p (.int .u8 0),.p (.int .u8 0),.p (.int .u8 0),.p (.int .u8 0),.p (.int .u8 0),.p (.int .u8 0),.p (.int .u8 0),.p (.int .u8 0),.p (.int .u8 0),.p (.int .u8 0),.p (.int .u8 0),.p (.int .u8 0),.p (.int .u8 0),.p (.int .u8 0),.p (.int .u8 0),.p (.int .u8 0),.p (.int .u8 0),.p (.int .u8 0),.p (.int .u8 0),.p (.int .u8 0),.p (.int .u8 0),.p (.int .u8 0),.p (.int .u8 0),.p (.int .u8 0),.p (.int .u8 0),.p (.int .u8 0),.p (.int .u8 0),.p (.int .u8 0),.p (.int .u8 0),.p (.int .u8 0),.p (.int .u8 0),.p (.int .u8 0),.p (.int .u8 0),.p (.int .u8 0),.p (.int .u8 0),.p (.int .u8 0),.p (.int .u8 0),.p (.int .u8 0),.p (.int .u8 0),.p (.int .u8 0),.p (.int .u8 0),.p (.int .u8 0),.p (.int .u8 0),.p (.int .u8 0),.p (.int .u8 0),.p (.int .u8 0),.p (.int .u8 0),.p (.int .u8 0),.p (.int .u8 0),.p (.int .u8 0),.p (.int .u8 0),.p (.int .u8 0),.p (.int .u8 0),.p (.int .u8 0),.p (.int .u8 0),.p (.int .u8 0),.p (.int .u8 0),.p (.int .u8 0),.p (.int .u8 0),.p (.int .u8 0),.p (.int .u8 0),.p (.int .u8 0),.p (.int .u8 0),.p (.int .u8 0),.p (.int .u8 0),.p (.int .u8 0),.p (.int .u8 0),.p (.int .u8 0),.p (.int .u8 0),.p (.int .u8 0),.p (.int .u8 0),.p (.int .u8 0),.p (.int .u8 0),.p (.int .u8 0),.p (.int .u8 0),.p (.int .u8 0),.p (.int .u8 0),.p (.int .u8 0),.p (.int .u8 0),.p (.int .u8 0),.p (.int .u8 0),.p (.int .u8 0),.p (.int .u8 0),.p (.int .u8 0),.p (.int .u8 0),.p (.int .u8 0),.p (.int .u8 0),.p (.int .u8 0),.p (.int .u8 0),.p (.int .u8 0),.p (.int .u8 0),.p (.int .u8 0),.p (.int .u8 0),.p (.int .u8 0),.p (.int .u8 0),.p (.int .u8 0),.p (.int .u8 0),.p (.int .u8 0),.p (.int .u8 0),.p (.int .u8 0),.p (.int .u8 0),.p (.int .u8 0),.p (.int .u8 0),.p (.int .u8 0),.p (.int .u8 0),.p (.int .u8 0),.p (.int .u8 0),.p (.int .u8 0),.p (.int .u8 0),.p (.int .u8 0),.p (.int .u8 0),.p (.int .u8 0),.p (.int .u8 0),.p (.int .u8 0),.p (.int .u8 0),.p (.int .u8 0),.p (.int .u8 0),.p (.int .u8 0),.p (.int .u8 0),.p (.int .u8 0),.p (.int .u8 0),.p (.int .u8 0),.p (.int .u8 0),.p (.int .u8 0),.p (.int .u8 0),.p (.int .u8 0),.p (.int .u8 0),.p (.int .u8 0),.p (.int .u8 0),.p (.int .u8 0),.p (.int .u8 0),.p (.int .u8 0),.p (.int .u8 0),.p (.int .u8 0),.p (.int .u8 0),.p (.int .u8 0),.p (.int .u8 0),.p (.int .u8 0),.p (.int .u8 0),.p (.int .u8 0),.p (.int .u8 0),.p (.int .u8 0),.p (.int .u8 0),.p (.int .u8 0),.p (.int .u8 0),.p (.int .u8 0),.p (.int .u8 0),.p (.int .u8 0),.p (.int .u8 0),.p (.int .u8 0),.p (.int .u8 0),.p (.int .u8 0),.p (.int .u8 0),.p (.int .u8 0),.p (.int .u8 0),.p (.int .u8 0),.p (.int .u8 0),.p (.int .u8 0),.p (.int .u8 0),.p (.int .u8 0),.p (.int .u8 0),.p (.int .u8 0),.p (.int .u8 0),.p (.int .u8 0),.p (.int .u8 0),.p (.int .u8 0),.p (.int .u8 0),.p (.int .u8 0),.p (.int .u8 0),.p (.int .u8 0),.p (.int .u8 0),.p (.int .u8 0),.p (.int .u8 0),.p (.int .u8 0),.p (.int .u8 0),.p (.int .u8 0),.p (.int .u8 0),.p (.int .u8 0),.p (.int .u8 0),.p (.int .u8 0),.p (.int .u8 0),.p (.int .u8 0),.p (.int .u8 0),.p (.int .u8 0),.p (.int .u8 0),.p (.int .u8 0),.p (.int .u8 0),.p (.int .u8 0),.p (.int .u8 0),.p (.int .u8 0),.p (.int .u8 0),.p (.int .u8 0),.p (.int .u8 0),.p (.int .u8 0),.p (.int .u8 0),.p (.int .u8 0),.p (.int .u8 0),.p (.int .u8 0),.p (.int .u8 0),.p (.int .u8 0),.p (.int .u8 0),.p (.int .u8 0),.p (.int .u8 0),.p (.int .u8 0),.p (.int .u8 0),.p (.int .u8 0),.p (.int .u8 0),.p (.int .u8 0),.p (.int .u8 0),.p (.int .u8 0),.p (.int .u8 0),.p (.int .u8 0),.p (.int .u8 0),.p (.int .u8 0),.p (.int .u8 0),.p (.int .u8 0),.p (.int .u8 0),.p (.int .u8 0),.p (.int .u8 0),.p (.int .u8 0),.p (.int .u8 0),.p (.int .u8 0),.p (.int .u8 0),.p (.int .u8 0),.p (.int .u8 0),.p (.int .u8 0),.p (.int .u8 0),.p (.int .u8 0),.p (.int .u8 0),.p (.int .u8 0),.p (.int .u8 0),.p (.int .u8 0),.p (.int .u8 0),.p (.int .u8 0),.p (.int .u8 0),.p (.int .u8 0),.p (.int .u8 0),.p (.int .u8 0),.p (.int .u8 0),.p (.int .u8 0),.p (.int .u8 0),.p (.int .u8 0),.p (.int .u8 0),.p (.int .u8 0),.p (.int .u8 0),.p (.int .u8 0),.p (.int .u8 0),.p (.int .u8 0)]⟩,some 12,(.st 12),List.replicate 256 (.v (.int .u8) (0:Int)),some ⟨(.st 12),(⟨List.replicate 256 (0:Int),List.length_replicate⟩:ZyB)⟩⟩,
 some ⟨⟨.struct [(0,5),(1,5)],2,2,[.p (.int .u8 0),.p (.int .u8 0)]⟩,some 5,(.st 5),[.v (.int .u8) (0:Int),.v (.int .u8) (0:Int)],some ⟨(.st 5),(ZdN.mk 0 0)⟩⟩,
 some ⟨⟨.struct [(0,5),(1,5)],2,2,[.p (.int .u8 0),.p (.int .u8 0)]⟩,some 5,(.st 5),[.v (.int .u8) (0:Int),.v (.int .u8) (0:Int)],some ⟨(.st 5),(ZdN.mk 0 0)⟩⟩,
 some ⟨⟨.arr 16 211,32,32,[.p (.int .u8 0),.p (.int .u8 0),.p (.int .u8 0),.p (.int .u8 0),.p (.int .u8 0),.p (.int .u8 0),.p (.int .u8 0),.p (.int .u8 0),.p (.int .u8 0),.p (.int .u8 0),.p (.int .u8 0),.p (.int .u8 0),.p (.int .u8 0),.p (.int .u8 0),.p (.int .u8 0),.p (.int .u8 0),.p (.int .u8 0),.p (.int .u8 0),.p (.int .u8 0),.p (.int .u8 0),.p (.int .u8 0),.p (.int .u8 0),.p (.int .u8 0),.p (.int .u8 0),.p (.int .u8 0),.p (.int .u8 0),.p (.int .u8 0),.p (.int .u8 0),.p (.int .u8 0),.p (.int .u8 0),.p (.int .u8 0),.p (.int .u8 0)]⟩,some 13,(.st 13),[.v (.int .u8) (0:Int),.v (.int .u8) (0:Int),.v (.int .u8) (0:Int),.v (.int .u8) (0:Int),.v (.int .u8) (0:Int),.v (.int .u8) (0:Int),.v (.int .u8) (0:Int),.v (.int .u8) (0:Int),.v (.int .u8) (0:Int),.v (.int .u8) (0:Int),.v (.int .u8) (0:Int),.v (.int .u8) (0:Int),.v (.int .u8) (0:Int),.v (.int .u8) (0:Int),.v (.int .u8) (0:Int),.v (.int .u8) (0:Int),.v (.int .u8) (0:Int),.v (.int .u8) (0:Int),.v (.int .u8) (0:Int),.v (.int .u8) (0:Int),.v (.int .u8) (0:Int),.v (.int .u8) (0:Int),.v (.int .u8) (0:Int),.v (.int .u8) (0:Int),.v (.int .u8) (0:Int),.v (.int .u8) (0:Int),.v (.int .u8) (0:Int),.v (.int .u8) (0:Int),.v (.int .u8) (0:Int),.v (.int .u8) (0:Int),.v (.int .u8) (0:Int),.v (.int .u8) (0:Int)],some ⟨(.st 13),(ZoU.mk (ZdN.mk 0 0) (ZdN.mk 0 0) (ZdN.mk 0 0) (ZdN.mk 0 0) (ZdN.mk 0 0) (ZdN.mk 0 0) (ZdN.mk 0 0) (ZdN.mk 0 0) (ZdN.mk 0 0) (ZdN.mk 0 0) (ZdN.mk 0 0) (ZdN.mk 0 0) (ZdN.mk 0 0) (ZdN.mk 0 0) (ZdN.mk 0 0) (ZdN.mk 0 0))⟩⟩,
 none,
 none,
 none,
 none,
 none,
 none,
 some ⟨⟨.func,1,8,[.p .nilfn]⟩,none,.fnc,[.nilfn],some ⟨.fnc,(none:Option Nat)⟩⟩,
 some ⟨⟨.func,1,8,[.p .nilfn]⟩,none,.fnc,[.nilfn],some ⟨.fnc,(none:Option Nat)⟩⟩,
 some ⟨⟨.struct [(0,9),(1,219),(2,220)],3,32,[.p (.str []),.p .nilfn,.p .nilfn]⟩,some 6,(.st 6),[.v .str ([]:Str),.nilfn,.nilfn],some ⟨(.st 6),(Zp0.mk ([]:Str) (none:Option Nat) (none:Option Nat))⟩⟩,
 some ⟨⟨.struct [(0,9),(1,219),(2,220)],3,32,[.p (.str []),.p .nilfn,.p .nilfn]⟩,some 6,(.st 6),[.v .str ([]:Str),.nilfn,.nilfn],some ⟨(.st 6),(Zp0.mk ([]:Str) (none:Option Nat) (none:Option Nat))⟩⟩,
 some ⟨⟨.map 3 222,1,8,[.p (.map (.int .i64) [])]⟩,none,(.map (.int .i64) (.st 6)),[.v (.map (.int .i64) (.st 6)) []],some ⟨(.map (.int .i64) (.st 6)),[]⟩⟩,
 none,
 some ⟨⟨.sl 42,1,24,[.nils 2]⟩,none,(.sl (.st 3)),[.nils (.st 3)],some ⟨(.sl (.st 3)),[]⟩⟩,
 none,
 none,
 none,
 none,
 none,
 none,
 none,
 none,
 none,
 none,
 none,
 none,
 some ⟨⟨.int .u64,1,8,[.p (.int .u64 0)]⟩,none,(.int .u64),[.v (.int .u64) (0:Int)],some ⟨(.int .u64),(0:Int)⟩⟩,
 none,
 none,
 none,
 some ⟨⟨.ptr 3,1,8,[.p .nilp]⟩,none,.bool,[.nilp],none⟩,
 none,
 none,
 none,
 none,
 none,
 none,
 none,
 none,
 none,
 none,
 none,
 none,
 none,
 none,
 none,
 none,
 none,
 none,
 none,
 none,
 none,
 none,
 none,
 none,
 none,
 none,
 some ⟨⟨.ptr 238,1,8,[.p .nilp]⟩,none,.bool,[.nilp],none⟩,
 none,
 none,
 none,
 none,
 none,
 none,
 none,
 none,
 none,
 none,
 none,
 none,
 none,
 none,
 none,
 none,
 none,
 none,
 none,
 none,
 none,
 none,
 none,
 none,
 none,
 none,
 none,
 none,
 none,
 none,
 none,
 none,
 none,
 none,
 none,
 none,
 none,
 none,
 none,
 none,
 none,
 none,
 none,
 none,
 none,
 none,
 none,
 none,
 none,
 none,
 none,
 none,
 none,
 none,
 none,
 none,
 none,
 none,
 none,
 none,
 none,
 none,
 none,
 none,
 none,
 none,
 none,
 none]
noncomputable def X0:ZG U:=⟨Tryz.prog,tt0,[(0,ZJL),(1,ZEA),(2,Zu6),(3,ZD8)],0,[⟨999999,1,1,(.st 0)⟩],[7],ZKm⟩
theorem tok0:TOk X0:=tok_of (by kernel_rfl) (by kernel_rfl) (by kernel_rfl) (own1 (by decide) (fun x=>x.Cells) (fun _=>rfl) own0) (key1 (fun x=>x.e0) (fun x=>x.e1) (fun _=>rfl) (fun _ _=>rfl) key0)
theorem eok0:Zl X0.E:=⟨by kernel_rfl⟩
theorem mixed:X0.prog.follows .mixedOrders=true:=by kernel_rfl
theorem G0:Gnd X0:=⟨uok,tok0,eok0,mixed⟩
noncomputable def ZGR:ZkU U:=⟨(List Str),[37],[.p],[some 1],[.p (.st 1)],fun v=>ZwV v.1,fun q=>⟨[.p ⟨(.sl .str),q⟩],[]⟩⟩
noncomputable def ZFW:ZkU U:=⟨(List Str),[9],[.p],[none],[.p .str],fun v=>Zue v.1,fun q=>⟨[.p ⟨(.sl .str),q⟩],[]⟩⟩
noncomputable def ZFO:ZkU U:=⟨Str,[9,9],[.p,.p],[none,none],[.p .str,.p .str],fun v=>ZDL v.1 v.2.1,fun q=>⟨[.p ⟨.str,q⟩],[]⟩⟩
noncomputable def ZyY:ZkU U:=⟨Int,[9,5],[.p,.p],[none,none],[.p .str,.p (.int .u8)],fun v=>Zre v.1 v.2.1,fun q=>⟨[.p ⟨(.int .i64),q⟩],[]⟩⟩
noncomputable def ZFV:ZkU U:=⟨Str,[9,9],[.p,.p],[none,none],[.p .str,.p .str],fun v=>ZCl v.1 v.2.1,fun q=>⟨[.p ⟨.str,q⟩],[]⟩⟩
noncomputable def ZFw:ZkU U:=⟨Str,[9,9],[.p,.p],[none,none],[.p .str,.p .str],fun v=>ZDT v.1 v.2.1,fun q=>⟨[.p ⟨.str,q⟩],[]⟩⟩
noncomputable def ZFP:ZkU U:=⟨Str,[3],[.p],[none],[.p (.int .i64)],fun v=>ZBE v.1,fun q=>⟨[.p ⟨.str,q⟩],[]⟩⟩
end Go.Proofs
