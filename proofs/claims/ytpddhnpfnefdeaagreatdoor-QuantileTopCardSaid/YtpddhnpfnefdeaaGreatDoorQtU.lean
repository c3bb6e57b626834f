/- Printed by wip/tools/tgen.py: tables. -/
import Derived.Test.YtpddhnpfnefdeaaGreatDoorQtS
import Derived.Test.YtpddhnpfnefdeaaGreatDoorQtWX
import Derived.Test.YtpddhnpfnefdeaaGreatDoorProg
import Derived.KernelRfl
set_option linter.all false
namespace Go.Proofs
open Go Eng
set_option maxRecDepth 100000
def ZF0 (x:G_api_Cell):List (Lf ZCz):=[⟨.bool,x.Null⟩,⟨.str,x.Text⟩]
def ZFV:List (Lf ZCz)->Option G_api_Cell
 | [c0,c1]=>(c0.as .bool).bind fun a0=>(c1.as .str).bind fun a=>some (G_api_Cell.mk a0 a)
 |_=>none
theorem ZHJ (a:List (Lf ZCz)) (x:G_api_Cell) (h:ZFV a=some x):ZF0 x=a:=by
 unfold ZFV at h;split at h;rotate_left;simp at h
 repeat (replace h:=ZEm h;obtain⟨_,rfl,h⟩:=h)
 obtain rfl:=Option.some.inj h;rfl
def ZFz (x:G_api_Cell):P:= .agg [.bool x.Null,.str x.Text]
def ZFr (x:G_api_Column):List (Lf ZCz):=[⟨.str,x.Name⟩,⟨(.sl (.st 0)),x.Cells⟩]
def ZFa:List (Lf ZCz)->Option G_api_Column
 | [c0,c1]=>(c0.as .str).bind fun a0=>(c1.as (.sl (.st 0))).bind fun a=>some (G_api_Column.mk a0 a)
 |_=>none
theorem ZHa (a:List (Lf ZCz)) (x:G_api_Column) (h:ZFa a=some x):ZFr x=a:=by
 unfold ZFa at h;split at h;rotate_left;simp at h
 repeat (replace h:=ZEm h;obtain⟨_,rfl,h⟩:=h)
 obtain rfl:=Option.some.inj h;rfl
def ZCO (x:G_api_Column):P:= .agg [.str x.Name,.sl 2 (x.Cells.map ZFz)]
def ZFL (x:G_api_Table):List (Lf ZCz):=[⟨(.int .i64),x.ID⟩,⟨.str,x.Name⟩,⟨(.sl (.st 1)),x.Columns⟩]
def ZFx:List (Lf ZCz)->Option G_api_Table
 | [c0,c1,c2]=>(c0.as (.int .i64)).bind fun a0=>(c1.as .str).bind fun b=>(c2.as (.sl (.st 1))).bind fun a=>some (G_api_Table.mk a0 b a)
 |_=>none
theorem ZHm (a:List (Lf ZCz)) (x:G_api_Table) (h:ZFx a=some x):ZFL x=a:=by
 unfold ZFx at h;split at h;rotate_left;simp at h
 repeat (replace h:=ZEm h;obtain⟨_,rfl,h⟩:=h)
 obtain rfl:=Option.some.inj h;rfl
def ZGr (x:G_api_Table):P:= .agg [.int .i64 x.ID,.str x.Name,.sl 2 (x.Columns.map ZCO)]
def ZGv (x:ZnI):List (Lf ZCz):=[⟨.bool,x.Neg⟩,⟨(.sl (.int .u32)),x.Words⟩]
def ZGj:List (Lf ZCz)->Option ZnI
 | [c0,c1]=>(c0.as .bool).bind fun a0=>(c1.as (.sl (.int .u32))).bind fun a=>some (ZnI.mk a0 a)
 |_=>none
theorem ZH9 (a:List (Lf ZCz)) (x:ZnI) (h:ZGj a=some x):ZGv x=a:=by
 unfold ZGj at h;split at h;rotate_left;simp at h
 repeat (replace h:=ZEm h;obtain⟨_,rfl,h⟩:=h)
 obtain rfl:=Option.some.inj h;rfl
def ZJf (x:ZnI):P:= .agg [.bool x.Neg,.sl 1 (x.Words.map (fun x=> .int .u32 x))]
def ZEw (x:ZnB):List (Lf ZCz):=[⟨.bool,x.Num.Neg⟩,⟨(.sl (.int .u32)),x.Num.Words⟩,⟨.bool,x.Den.Neg⟩,⟨(.sl (.int .u32)),x.Den.Words⟩]
def ZDM:List (Lf ZCz)->Option ZnB
 | [c0,c1,c2,c3]=>(c0.as .bool).bind fun a0=>(c1.as (.sl (.int .u32))).bind fun c=>(c2.as .bool).bind fun a=>(c3.as (.sl (.int .u32))).bind fun b=>some (ZnB.mk (ZnI.mk a0 c) (ZnI.mk a b))
 |_=>none
theorem ZGJ (a:List (Lf ZCz)) (x:ZnB) (h:ZDM a=some x):ZEw x=a:=by
 unfold ZDM at h;split at h;rotate_left;simp at h
 repeat (replace h:=ZEm h;obtain⟨_,rfl,h⟩:=h)
 obtain rfl:=Option.some.inj h;rfl
def ZHd (x:ZnB):P:= .agg [.bool x.Num.Neg,.sl 1 (x.Num.Words.map (fun x=> .int .u32 x)),.bool x.Den.Neg,.sl 1 (x.Den.Words.map (fun x=> .int .u32 x))]
def ZFq (x:ZpZ):List (Lf ZCz):=[⟨.str,x.word⟩,⟨.fnc,x.canonical⟩,⟨.fnc,x.value⟩]
def ZE8:List (Lf ZCz)->Option ZpZ
 | [c0,c1,c2]=>(c0.as .str).bind fun a0=>(c1.as .fnc).bind fun b=>(c2.as .fnc).bind fun a=>some (ZpZ.mk a0 b a)
 |_=>none
theorem ZG9 (a:List (Lf ZCz)) (x:ZpZ) (h:ZE8 a=some x):ZFq x=a:=by
 unfold ZE8 at h;split at h;rotate_left;simp at h
 repeat (replace h:=ZEm h;obtain⟨_,rfl,h⟩:=h)
 obtain rfl:=Option.some.inj h;rfl
def ZHK (x:ZpZ):P:= .agg [.str x.word,ZjM x.canonical,ZjM x.value]
def ZB0 (x:ZnC):List (Lf ZCz):=[⟨(.sl (.int .i64)),x.l⟩,⟨(.int .i64),x.at_⟩]
def Zz9:List (Lf ZCz)->Option ZnC
 | [c0,c1]=>(c0.as (.sl (.int .i64))).bind fun a0=>(c1.as (.int .i64)).bind fun a=>some (ZnC.mk a0 a)
 |_=>none
theorem ZE9 (a:List (Lf ZCz)) (x:ZnC) (h:Zz9 a=some x):ZB0 x=a:=by
 unfold Zz9 at h;split at h;rotate_left;simp at h
 repeat (replace h:=ZEm h;obtain⟨_,rfl,h⟩:=h)
 obtain rfl:=Option.some.inj h;rfl
def ZFy (x:ZnC):P:= .agg [.sl 1 (x.l.map (fun x=> .int .i64 x)),.int .i64 x.at_]
def ZGM (x:ZnQ):List (Lf ZCz):=[⟨(.int .i64),x.Kind⟩,⟨(.int .i64),x.Column⟩,⟨.str,x.Text⟩,⟨(.sl (.int .i64)),x.Columns⟩]
def ZGT:List (Lf ZCz)->Option ZnQ
 | [c0,c1,c2,c3]=>(c0.as (.int .i64)).bind fun a0=>(c1.as (.int .i64)).bind fun c=>(c2.as .str).bind fun a=>(c3.as (.sl (.int .i64))).bind fun b=>some (ZnQ.mk a0 c a b)
 |_=>none
theorem ZIy (a:List (Lf ZCz)) (x:ZnQ) (h:ZGT a=some x):ZGM x=a:=by
 unfold ZGT at h;split at h;rotate_left;simp at h
 repeat (replace h:=ZEm h;obtain⟨_,rfl,h⟩:=h)
 obtain rfl:=Option.some.inj h;rfl
def ZJG (x:ZnQ):P:= .agg [.int .i64 x.Kind,.int .i64 x.Column,.str x.Text,.sl 1 (x.Columns.map (fun x=> .int .i64 x))]
def ZzF (x:ZnE):List (Lf ZCz):=[⟨(.int .u8),x.lo⟩,⟨(.int .u8),x.hi⟩]
def ZwS:List (Lf ZCz)->Option ZnE
 | [c0,c1]=>(c0.as (.int .u8)).bind fun a0=>(c1.as (.int .u8)).bind fun a=>some (ZnE.mk a0 a)
 |_=>none
theorem ZDz (a:List (Lf ZCz)) (x:ZnE) (h:ZwS a=some x):ZzF x=a:=by
 unfold ZwS at h;split at h;rotate_left;simp at h
 repeat (replace h:=ZEm h;obtain⟨_,rfl,h⟩:=h)
 obtain rfl:=Option.some.inj h;rfl
def ZEa (x:ZnE):P:= .agg [.int .u8 x.lo,.int .u8 x.hi]
def ZGt (x:ZpV):List (Lf ZCz):=[⟨(.int .i64),x.Table⟩,⟨(.int .i64),x.Column⟩]
def ZGh:List (Lf ZCz)->Option ZpV
 | [c0,c1]=>(c0.as (.int .i64)).bind fun a0=>(c1.as (.int .i64)).bind fun a=>some (ZpV.mk a0 a)
 |_=>none
theorem ZH7 (a:List (Lf ZCz)) (x:ZpV) (h:ZGh a=some x):ZGt x=a:=by
 unfold ZGh at h;split at h;rotate_left;simp at h
 repeat (replace h:=ZEm h;obtain⟨_,rfl,h⟩:=h)
 obtain rfl:=Option.some.inj h;rfl
def ZJd (x:ZpV):P:= .agg [.int .i64 x.Table,.int .i64 x.Column]
def ZGu (x:Zoi):List (Lf ZCz):=[⟨(.int .i64),x.Ref.Table⟩,⟨(.int .i64),x.Ref.Column⟩,⟨.bool,x.Score.Num.Neg⟩,⟨(.sl (.int .u32)),x.Score.Num.Words⟩,⟨.bool,x.Score.Den.Neg⟩,⟨(.sl (.int .u32)),x.Score.Den.Words⟩]
def ZGi:List (Lf ZCz)->Option Zoi
 | [c0,c1,c2,c3,c4,c5]=>(c0.as (.int .i64)).bind fun a0=>(c1.as (.int .i64)).bind fun c=>(c2.as .bool).bind fun a=>(c3.as (.sl (.int .u32))).bind fun e=>(c4.as .bool).bind fun b=>(c5.as (.sl (.int .u32))).bind fun d=>some (Zoi.mk (ZpV.mk a0 c) (ZnB.mk (ZnI.mk a e) (ZnI.mk b d)))
 |_=>none
theorem ZH8 (a:List (Lf ZCz)) (x:Zoi) (h:ZGi a=some x):ZGu x=a:=by
 unfold ZGi at h;split at h;rotate_left;simp at h
 repeat (replace h:=ZEm h;obtain⟨_,rfl,h⟩:=h)
 obtain rfl:=Option.some.inj h;rfl
def ZJe (x:Zoi):P:= .agg [.int .i64 x.Ref.Table,.int .i64 x.Ref.Column,.bool x.Score.Num.Neg,.sl 1 (x.Score.Num.Words.map (fun x=> .int .u32 x)),.bool x.Score.Den.Neg,.sl 1 (x.Score.Den.Words.map (fun x=> .int .u32 x))]
def Zy4 (x:Zyc):List (Lf ZCz):=x.1.map fun y=>⟨(.int .u8),y⟩
def ZDn (a:List (Lf ZCz)):Option Zyc:=match Zm (fun c=>c.as (.int .u8)) a with
 |some l=>if h:l.length=256 then some ⟨l,h⟩else none
 |none=>none
theorem ZGg (a:List (Lf ZCz)) (x:Zyc) (h:ZDn a=some x):Zy4 x=a:=by unfold ZDn at h;split at h;rotate_left;simp at h;rename_i l b;split at h;rotate_left;simp at h;simp only[Option.some.injEq]at h;subst h;exact(Zl8 b).symm
def ZCU (x:Zyc):P:= .agg (x.1.map fun y=> .int .u8 y)
def ZvC (x:Zof):List (Lf ZCz):=[⟨(.int .u8),x.e0.lo⟩,⟨(.int .u8),x.e0.hi⟩,⟨(.int .u8),x.e1.lo⟩,⟨(.int .u8),x.e1.hi⟩,⟨(.int .u8),x.e2.lo⟩,⟨(.int .u8),x.e2.hi⟩,⟨(.int .u8),x.e3.lo⟩,⟨(.int .u8),x.e3.hi⟩,⟨(.int .u8),x.e4.lo⟩,⟨(.int .u8),x.e4.hi⟩,⟨(.int .u8),x.e5.lo⟩,⟨(.int .u8),x.e5.hi⟩,⟨(.int .u8),x.e6.lo⟩,⟨(.int .u8),x.e6.hi⟩,⟨(.int .u8),x.e7.lo⟩,⟨(.int .u8),x.e7.hi⟩,⟨(.int .u8),x.e8.lo⟩,⟨(.int .u8),x.e8.hi⟩,⟨(.int .u8),x.e9.lo⟩,⟨(.int .u8),x.e9.hi⟩,⟨(.int .u8),x.e10.lo⟩,⟨(.int .u8),x.e10.hi⟩,⟨(.int .u8),x.e11.lo⟩,⟨(.int .u8),x.e11.hi⟩,⟨(.int .u8),x.e12.lo⟩,⟨(.int .u8),x.e12.hi⟩,⟨(.int .u8),x.e13.lo⟩,⟨(.int .u8),x.e13.hi⟩,⟨(.int .u8),x.e14.lo⟩,⟨(.int .u8),x.e14.hi⟩,⟨(.int .u8),x.e15.lo⟩,⟨(.int .u8),x.e15.hi⟩]
def Zso:List (Lf ZCz)->Option Zof
 | [c0,c1,c2,c3,c4,c5,c6,c7,c8,c9,c10,c11,c12,c13,c14,c15,c16,c17,c18,c19,c20,c21,c22,c23,c24,c25,c26,c27,c28,c29,c30,c31]=>(c0.as (.int .u8)).bind fun a0=>(c1.as (.int .u8)).bind fun z=>(c2.as (.int .u8)).bind fun A=>(c3.as (.int .u8)).bind fun D=>(c4.as (.int .u8)).bind fun B=>(c5.as (.int .u8)).bind fun x=>(c6.as (.int .u8)).bind fun y=>(c7.as (.int .u8)).bind fun w=>(c8.as (.int .u8)).bind fun C=>(c9.as (.int .u8)).bind fun E=>(c10.as (.int .u8)).bind fun f=>(c11.as (.int .u8)).bind fun j=>(c12.as (.int .u8)).bind fun q=>(c13.as (.int .u8)).bind fun u=>(c14.as (.int .u8)).bind fun g=>(c15.as (.int .u8)).bind fun i=>(c16.as (.int .u8)).bind fun n=>(c17.as (.int .u8)).bind fun v=>(c18.as (.int .u8)).bind fun e=>(c19.as (.int .u8)).bind fun s=>(c20.as (.int .u8)).bind fun m=>(c21.as (.int .u8)).bind fun t=>(c22.as (.int .u8)).bind fun d=>(c23.as (.int .u8)).bind fun p=>(c24.as (.int .u8)).bind fun o=>(c25.as (.int .u8)).bind fun h=>(c26.as (.int .u8)).bind fun b=>(c27.as (.int .u8)).bind fun c=>(c28.as (.int .u8)).bind fun l=>(c29.as (.int .u8)).bind fun a=>(c30.as (.int .u8)).bind fun r=>(c31.as (.int .u8)).bind fun k=>some (Zof.mk (ZnE.mk a0 z) (ZnE.mk A D) (ZnE.mk B x) (ZnE.mk y w) (ZnE.mk C E) (ZnE.mk f j) (ZnE.mk q u) (ZnE.mk g i) (ZnE.mk n v) (ZnE.mk e s) (ZnE.mk m t) (ZnE.mk d p) (ZnE.mk o h) (ZnE.mk b c) (ZnE.mk l a) (ZnE.mk r k))
 |_=>none
theorem ZBk (a:List (Lf ZCz)) (x:Zof) (h:Zso a=some x):ZvC x=a:=by
 unfold Zso at h;split at h;rotate_left;simp at h
 repeat (replace h:=ZEm h;obtain⟨_,rfl,h⟩:=h)
 obtain rfl:=Option.some.inj h;rfl
def ZCc (x:Zof):P:= .agg [.int .u8 x.e0.lo,.int .u8 x.e0.hi,.int .u8 x.e1.lo,.int .u8 x.e1.hi,.int .u8 x.e2.lo,.int .u8 x.e2.hi,.int .u8 x.e3.lo,.int .u8 x.e3.hi,.int .u8 x.e4.lo,.int .u8 x.e4.hi,.int .u8 x.e5.lo,.int .u8 x.e5.hi,.int .u8 x.e6.lo,.int .u8 x.e6.hi,.int .u8 x.e7.lo,.int .u8 x.e7.hi,.int .u8 x.e8.lo,.int .u8 x.e8.hi,.int .u8 x.e9.lo,.int .u8 x.e9.hi,.int .u8 x.e10.lo,.int .u8 x.e10.hi,.int .u8 x.e11.lo,.int .u8 x.e11.hi,.int .u8 x.e12.lo,.int .u8 x.e12.hi,.int .u8 x.e13.lo,.int .u8 x.e13.hi,.int .u8 x.e14.lo,.int .u8 x.e14.hi,.int .u8 x.e15.lo,.int .u8 x.e15.hi]
def ZTr:(n:Nat)->ZCz n->List (Lf ZCz)
 |0,x=>ZF0 x
 |1,x=>ZFr x
 |2,x=>ZFL x
 |3,x=>ZGv x
 |4,x=>ZEw x
 |5,x=>ZFq x
 |6,x=>ZB0 x
 |7,x=>ZGM x
 |8,x=>ZzF x
 |9,x=>ZGt x
 |10,x=>ZGu x
 |11,x=>Zy4 x
 |12,x=>ZvC x
 |_+13,_=>[]
def ofU:(n:Nat)->List (Lf ZCz)->Option (ZCz n)
 |0,cs=>ZFV cs
 |1,cs=>ZFa cs
 |2,cs=>ZFx cs
 |3,cs=>ZGj cs
 |4,cs=>ZDM cs
 |5,cs=>ZE8 cs
 |6,cs=>Zz9 cs
 |7,cs=>ZGT cs
 |8,cs=>ZwS cs
 |9,cs=>ZGh cs
 |10,cs=>ZGi cs
 |11,cs=>ZDn cs
 |12,cs=>Zso cs
 |_+13,cs=>match cs with | []=>some () |_=>none
def encU:(n:Nat)->ZCz n->P
 |0,x=>ZFz x
 |1,x=>ZCO x
 |2,x=>ZGr x
 |3,x=>ZJf x
 |4,x=>ZHd x
 |5,x=>ZHK x
 |6,x=>ZFy x
 |7,x=>ZJG x
 |8,x=>ZEa x
 |9,x=>ZJd x
 |10,x=>ZJe x
 |11,x=>ZCU x
 |12,x=>ZCc x
 |_+13,_=> .agg []
@[reducible] def U:Zc:=⟨ZCz,ZVu,ZTr,ofU,encU⟩
theorem ZF6 (x:Zyc):ZCU x= .agg ((Zy4 x).map U.encL):=by unfold ZCU Zy4;rw[List.map_map];rfl
theorem uok:UOk U where
 of_cells:=fun n a x h=>match n,x,h with
  |0,x,h=>ZHJ a x h
  |1,x,h=>ZHa a x h
  |2,x,h=>ZHm a x h
  |3,x,h=>ZH9 a x h
  |4,x,h=>ZGJ a x h
  |5,x,h=>ZG9 a x h
  |6,x,h=>ZE9 a x h
  |7,x,h=>ZIy a x h
  |8,x,h=>ZDz a x h
  |9,x,h=>ZH7 a x h
  |10,x,h=>ZH8 a x h
  |11,x,h=>ZGg a x h
  |12,x,h=>ZBk a x h
  |_+13,x,h=>by
   match a,h with
   | [],h=>rfl
 enc_cells:=fun n x=>match n,x with
  |0,x=>rfl
  |1,x=>rfl
  |2,x=>rfl
  |3,x=>rfl
  |4,x=>rfl
  |5,x=>rfl
  |6,x=>rfl
  |7,x=>rfl
  |8,x=>rfl
  |9,x=>rfl
  |10,x=>rfl
  |11,x=>ZF6 x
  |12,x=>rfl
  |_+13,x=>rfl
 len:=fun n x=>match n,x with
  |0,x=>rfl
  |1,x=>rfl
  |2,x=>rfl
  |3,x=>rfl
  |4,x=>rfl
  |5,x=>rfl
  |6,x=>rfl
  |7,x=>rfl
  |8,x=>rfl
  |9,x=>rfl
  |10,x=>rfl
  |11,x=>(List.length_map ..).trans x.2
  |12,x=>rfl
  |_+13,x=>rfl
noncomputable def tt0:List (Option (TT U)):=[
 none,
 some ⟨⟨.func,1,8,[.p .nilfn]⟩,none,.fnc,[.nilfn],some ⟨.fnc,(none:Option Nat)⟩⟩,
 some ⟨⟨.int .i64,1,8,[.p (.int .i64 0)]⟩,none,(.int .i64),[.v (.int .i64) (0:Int)],some ⟨(.int .i64),(0:Int)⟩⟩,
 some ⟨⟨.int .i64,1,8,[.p (.int .i64 0)]⟩,none,(.int .i64),[.v (.int .i64) (0:Int)],some ⟨(.int .i64),(0:Int)⟩⟩,
 some ⟨⟨.bool,1,1,[.p (.bool false)]⟩,none,.bool,[.v .bool false],some ⟨.bool,false⟩⟩,
 some ⟨⟨.int .u8,1,1,[.p (.int .u8 0)]⟩,none,(.int .u8),[.v (.int .u8) (0:Int)],some ⟨(.int .u8),(0:Int)⟩⟩,
 none,
 none,
 none,
 some ⟨⟨.str,1,16,[.p (.str [])]⟩,none,.str,[.v .str ([]:Str)],some ⟨.str,([]:Str)⟩⟩,
 none,
 none,
 some ⟨⟨.int .u64,1,8,[.p (.int .u64 0)]⟩,none,(.int .u64),[.v (.int .u64) (0:Int)],some ⟨(.int .u64),(0:Int)⟩⟩,
 none,
 none,
 none,
 none,
 none,
 none,
 none,
 none,
 none,
 some ⟨⟨.sl 3,1,24,[.nils 1]⟩,none,(.sl (.int .i64)),[.nils (.int .i64)],some ⟨(.sl (.int .i64)),[]⟩⟩,
 some ⟨⟨.sl 28,1,24,[.nils 3]⟩,none,(.sl (.st 2)),[.nils (.st 2)],some ⟨(.sl (.st 2)),[]⟩⟩,
 none,
 none,
 some ⟨⟨.sl 31,1,24,[.nils 2]⟩,none,(.sl (.st 1)),[.nils (.st 1)],some ⟨(.sl (.st 1)),[]⟩⟩,
 some ⟨⟨.struct [(0,3),(1,9),(2,26)],3,48,[.p (.int .i64 0),.p (.str []),.nils 2]⟩,some 2,(.st 2),[.v (.int .i64) (0:Int),.v .str ([]:Str),.nils (.st 1)],some ⟨(.st 2),(G_api_Table.mk 0 ([]:Str) ([]:(List G_api_Column)))⟩⟩,
 some ⟨⟨.struct [(0,3),(1,9),(2,26)],3,48,[.p (.int .i64 0),.p (.str []),.nils 2]⟩,some 2,(.st 2),[.v (.int .i64) (0:Int),.v .str ([]:Str),.nils (.st 1)],some ⟨(.st 2),(G_api_Table.mk 0 ([]:Str) ([]:(List G_api_Column)))⟩⟩,
 some ⟨⟨.sl 58,1,24,[.nils 2]⟩,none,(.sl (.st 0)),[.nils (.st 0)],some ⟨(.sl (.st 0)),[]⟩⟩,
 some ⟨⟨.struct [(0,9),(1,29)],2,40,[.p (.str []),.nils 2]⟩,some 1,(.st 1),[.v .str ([]:Str),.nils (.st 0)],some ⟨(.st 1),(G_api_Column.mk ([]:Str) ([]:(List G_api_Cell)))⟩⟩,
 some ⟨⟨.struct [(0,9),(1,29)],2,40,[.p (.str []),.nils 2]⟩,some 1,(.st 1),[.v .str ([]:Str),.nils (.st 0)],some ⟨(.st 1),(G_api_Column.mk ([]:Str) ([]:(List G_api_Cell)))⟩⟩,
 some ⟨⟨.ptr 60,1,8,[.p .nilp]⟩,none,.bool,[.nilp],none⟩,
 none,
 none,
 none,
 some ⟨⟨.sl 23,1,24,[.nils 1]⟩,none,(.sl (.sl (.st 2))),[.nils (.sl (.st 2))],some ⟨(.sl (.sl (.st 2))),[]⟩⟩,
 none,
 some ⟨⟨.sl 73,1,24,[.nils 6]⟩,none,(.sl (.st 10)),[.nils (.st 10)],some ⟨(.sl (.st 10)),[]⟩⟩,
 some ⟨⟨.int .i64,1,8,[.p (.int .i64 0)]⟩,none,(.int .i64),[.v (.int .i64) (0:Int)],some ⟨(.int .i64),(0:Int)⟩⟩,
 none,
 none,
 none,
 none,
 some ⟨⟨.sl 112,1,24,[.nils 1]⟩,none,(.sl (.int .u32)),[.nils (.int .u32)],some ⟨(.sl (.int .u32)),[]⟩⟩,
 some ⟨⟨.struct [(0,4),(1,44)],2,32,[.p (.bool false),.nils 1]⟩,some 3,(.st 3),[.v .bool false,.nils (.int .u32)],some ⟨(.st 3),(ZnI.mk false ([]:(List Int)))⟩⟩,
 some ⟨⟨.struct [(0,4),(1,44)],2,32,[.p (.bool false),.nils 1]⟩,some 3,(.st 3),[.v .bool false,.nils (.int .u32)],some ⟨(.st 3),(ZnI.mk false ([]:(List Int)))⟩⟩,
 some ⟨⟨.struct [(0,46),(2,46)],4,64,[.p (.bool false),.nils 1,.p (.bool false),.nils 1]⟩,some 4,(.st 4),[.v .bool false,.nils (.int .u32),.v .bool false,.nils (.int .u32)],some ⟨(.st 4),(ZnB.mk (ZnI.mk false ([]:(List Int))) (ZnI.mk false ([]:(List Int))))⟩⟩,
 some ⟨⟨.struct [(0,46),(2,46)],4,64,[.p (.bool false),.nils 1,.p (.bool false),.nils 1]⟩,some 4,(.st 4),[.v .bool false,.nils (.int .u32),.v .bool false,.nils (.int .u32)],some ⟨(.st 4),(ZnB.mk (ZnI.mk false ([]:(List Int))) (ZnI.mk false ([]:(List Int))))⟩⟩,
 none,
 some ⟨⟨.sl 48,1,24,[.nils 4]⟩,none,(.sl (.st 4)),[.nils (.st 4)],some ⟨(.sl (.st 4)),[]⟩⟩,
 none,
 none,
 none,
 none,
 none,
 none,
 some ⟨⟨.struct [(0,4),(1,9)],2,24,[.p (.bool false),.p (.str [])]⟩,some 0,(.st 0),[.v .bool false,.v .str ([]:Str)],some ⟨(.st 0),(G_api_Cell.mk false ([]:Str))⟩⟩,
 some ⟨⟨.struct [(0,4),(1,9)],2,24,[.p (.bool false),.p (.str [])]⟩,some 0,(.st 0),[.v .bool false,.v .str ([]:Str)],some ⟨(.st 0),(G_api_Cell.mk false ([]:Str))⟩⟩,
 some ⟨⟨.struct [(0,22),(1,3)],2,32,[.nils 1,.p (.int .i64 0)]⟩,some 6,(.st 6),[.nils (.int .i64),.v (.int .i64) (0:Int)],some ⟨(.st 6),(ZnC.mk ([]:(List Int)) 0)⟩⟩,
 some ⟨⟨.struct [(0,22),(1,3)],2,32,[.nils 1,.p (.int .i64 0)]⟩,some 6,(.st 6),[.nils (.int .i64),.v (.int .i64) (0:Int)],some ⟨(.st 6),(ZnC.mk ([]:(List Int)) 0)⟩⟩,
 none,
 none,
 none,
 none,
 none,
 none,
 none,
 none,
 none,
 some ⟨⟨.struct [(0,3),(1,3)],2,16,[.p (.int .i64 0),.p (.int .i64 0)]⟩,some 9,(.st 9),[.v (.int .i64) (0:Int),.v (.int .i64) (0:Int)],some ⟨(.st 9),(ZpV.mk 0 0)⟩⟩,
 some ⟨⟨.struct [(0,3),(1,3)],2,16,[.p (.int .i64 0),.p (.int .i64 0)]⟩,some 9,(.st 9),[.v (.int .i64) (0:Int),.v (.int .i64) (0:Int)],some ⟨(.st 9),(ZpV.mk 0 0)⟩⟩,
 some ⟨⟨.struct [(0,71),(2,48)],6,80,[.p (.int .i64 0),.p (.int .i64 0),.p (.bool false),.nils 1,.p (.bool false),.nils 1]⟩,some 10,(.st 10),[.v (.int .i64) (0:Int),.v (.int .i64) (0:Int),.v .bool false,.nils (.int .u32),.v .bool false,.nils (.int .u32)],some ⟨(.st 10),(Zoi.mk (ZpV.mk 0 0) (ZnB.mk (ZnI.mk false ([]:(List Int))) (ZnI.mk false ([]:(List Int)))))⟩⟩,
 some ⟨⟨.struct [(0,71),(2,48)],6,80,[.p (.int .i64 0),.p (.int .i64 0),.p (.bool false),.nils 1,.p (.bool false),.nils 1]⟩,some 10,(.st 10),[.v (.int .i64) (0:Int),.v (.int .i64) (0:Int),.v .bool false,.nils (.int .u32),.v .bool false,.nils (.int .u32)],some ⟨(.st 10),(Zoi.mk (ZpV.mk 0 0) (ZnB.mk (ZnI.mk false ([]:(List Int))) (ZnI.mk false ([]:(List Int)))))⟩⟩,
 none,
 some ⟨⟨.func,1,8,[.p .nilfn]⟩,none,.fnc,[.nilfn],some ⟨.fnc,(none:Option Nat)⟩⟩,
 none,
 none,
 some ⟨⟨.int .u64,1,8,[.p (.int .u64 0)]⟩,none,(.int .u64),[.v (.int .u64) (0:Int)],some ⟨(.int .u64),(0:Int)⟩⟩,
 none,
 none,
 none,
 none,
 some ⟨⟨.func,1,8,[.p .nilfn]⟩,none,.fnc,[.nilfn],some ⟨.fnc,(none:Option Nat)⟩⟩,
 none,
 none,
 none,
 none,
 none,
 none,
 none,
 none,
 some ⟨⟨.struct [(0,3),(1,3),(2,9),(3,22)],4,56,[.p (.int .i64 0),.p (.int .i64 0),.p (.str []),.nils 1]⟩,some 7,(.st 7),[.v (.int .i64) (0:Int),.v (.int .i64) (0:Int),.v .str ([]:Str),.nils (.int .i64)],some ⟨(.st 7),(ZnQ.mk 0 0 ([]:Str) ([]:(List Int)))⟩⟩,
 some ⟨⟨.struct [(0,3),(1,3),(2,9),(3,22)],4,56,[.p (.int .i64 0),.p (.int .i64 0),.p (.str []),.nils 1]⟩,some 7,(.st 7),[.v (.int .i64) (0:Int),.v (.int .i64) (0:Int),.v .str ([]:Str),.nils (.int .i64)],some ⟨(.st 7),(ZnQ.mk 0 0 ([]:Str) ([]:(List Int)))⟩⟩,
 none,
 some ⟨⟨.sl 93,1,24,[.nils 4]⟩,none,(.sl (.st 7)),[.nils (.st 7)],some ⟨(.sl (.st 7)),[]⟩⟩,
 none,
 some ⟨⟨.sl 9,1,24,[.nils 1]⟩,none,(.sl .str),[.nils .str],some ⟨(.sl .str),[]⟩⟩,
 none,
 none,
 none,
 none,
 none,
 none,
 some ⟨⟨.func,1,8,[.p .nilfn]⟩,none,.fnc,[.nilfn],some ⟨.fnc,(none:Option Nat)⟩⟩,
 none,
 some ⟨⟨.int .u64,1,8,[.p (.int .u64 0)]⟩,none,(.int .u64),[.v (.int .u64) (0:Int)],some ⟨(.int .u64),(0:Int)⟩⟩,
 none,
 none,
 none,
 none,
 none,
 some ⟨⟨.int .u32,1,4,[.p (.int .u32 0)]⟩,none,(.int .u32),[.v (.int .u32) (0:Int)],some ⟨(.int .u32),(0:Int)⟩⟩,
 none,
 none,
 none,
 none,
 none,
 none,
 none,
 none,
 none,
 some ⟨⟨.func,1,8,[.p .nilfn]⟩,none,.fnc,[.nilfn],some ⟨.fnc,(none:Option Nat)⟩⟩,
 some ⟨⟨.func,1,8,[.p .nilfn]⟩,none,.fnc,[.nilfn],some ⟨.fnc,(none:Option Nat)⟩⟩,
 none,
 none,
 some ⟨⟨.func,1,8,[.p .nilfn]⟩,none,.fnc,[.nilfn],some ⟨.fnc,(none:Option Nat)⟩⟩,
 none,
 some ⟨⟨.sl 112,1,24,[.nils 1]⟩,none,(.sl (.int .u32)),[.nils (.int .u32)],some ⟨(.sl (.int .u32)),[]⟩⟩,
 none,
 some ⟨⟨.func,1,8,[.p .nilfn]⟩,none,.fnc,[.nilfn],some ⟨.fnc,(none:Option Nat)⟩⟩,
 none,
 none,
 none,
 none,
 none,
 none,
 some ⟨⟨.func,1,8,[.p .nilfn]⟩,none,.fnc,[.nilfn],some ⟨.fnc,(none:Option Nat)⟩⟩,
 some ⟨⟨.func,1,8,[.p .nilfn]⟩,none,.fnc,[.nilfn],some ⟨.fnc,(none:Option Nat)⟩⟩,
 some ⟨⟨.struct [(0,9),(1,137),(2,138)],3,32,[.p (.str []),.p .nilfn,.p .nilfn]⟩,some 5,(.st 5),[.v .str ([]:Str),.nilfn,.nilfn],some ⟨(.st 5),(ZpZ.mk ([]:Str) (none:Option Nat) (none:Option Nat))⟩⟩,
 some ⟨⟨.struct [(0,9),(1,137),(2,138)],3,32,[.p (.str []),.p .nilfn,.p .nilfn]⟩,some 5,(.st 5),[.v .str ([]:Str),.nilfn,.nilfn],some ⟨(.st 5),(ZpZ.mk ([]:Str) (none:Option Nat) (none:Option Nat))⟩⟩,
 some ⟨⟨.map 3 140,1,8,[.p (.map (.int .i64) [])]⟩,none,(.map (.int .i64) (.st 5)),[.v (.map (.int .i64) (.st 5)) []],some ⟨(.map (.int .i64) (.st 5)),[]⟩⟩,
 none,
 none,
 some ⟨⟨.int .i64,1,8,[.p (.int .i64 0)]⟩,none,(.int .i64),[.v (.int .i64) (0:Int)],some ⟨(.int .i64),(0:Int)⟩⟩,
 none,
 none,
 none,
 none,
 none,
 none,
 none,
 none,
 none,
 none,
 none,
 some ⟨⟨.sl 5,1,24,[.nils 1]⟩,none,(.sl (.int .u8)),[.nils (.int .u8)],some ⟨(.sl (.int .u8)),[]⟩⟩,
 none,
 none,
 none,
 none,
 none,
 some ⟨⟨.func,1,8,[.p .nilfn]⟩,none,.fnc,[.nilfn],some ⟨.fnc,(none:Option Nat)⟩⟩,
 none,
 none,
 none,
 none,
 none,
 none,
 none,
 none,
 none,
 none,
 none,
 none,
 some ⟨⟨.sl 46,1,24,[.nils 2]⟩,none,(.sl (.st 3)),[.nils (.st 3)],some ⟨(.sl (.st 3)),[]⟩⟩,
 none,
 none,
 none,
 none,
 none,
 none,
 none,
 none,
 none,
 none,
 none,
 some ⟨⟨.int .u64,1,8,[.p (.int .u64 0)]⟩,none,(.int .u64),[.v (.int .u64) (0:Int)],some ⟨(.int .u64),(0:Int)⟩⟩,
 none,
 none,
 none,
 some ⟨⟨.ptr 3,1,8,[.p .nilp]⟩,none,.bool,[.nilp],none⟩,
 none,
 none,
 none,
 none,
 none,
 none,
 none,
 none,
 none,
 none,
 none,
 none,
 none,
 none,
 none,
 none,
 none,
 none,
 none,
 none,
 none,
 none,
 none,
 none,
 none,
 none,
 none,
 none,
 none,
 none,
 none,
 none,
 none,
 none,
 none,
 none,
 none,
 none,
 some ⟨⟨.ptr 187,1,8,[.p .nilp]⟩,none,.bool,[.nilp],none⟩,
 none,
 none,
 none,
 none,
 some ⟨⟨.arr 256 5,256,256,[.p (.int .u8 0),.p (.int .u8 0),.p (.int .u8 0),.p (.int .u8 0),.p (.int .u8 0),.p (.int .u8 0),.p (.int .u8 0),.p (.int .u8 0),.p (.int .u8 0),.p (.int .u8 0),.p (.int .u8 0),.p (.int .u8 0),.p (.int .u8 0),.p (.int .u8 0),.p (.int .u8 0),.p (.int .u8 0),.p (.int .u8 0),.p (.int .u8 0),.p (.int .u8 0),.p (.int .u8 0),.p (.int .u8 0),.p (.int .u8 0),.p (.int .u8 0),.p (.int .u8 0),.p (.int .u8 0),.p (.int .u8 0),.p (.int .u8 0),.p (.int .u8 0),.p (.int .u8 0),.p (.int .u8 0),.p (.int .u8 0),.p (.int .u8 0),.p (.int .u8 0),.p (.int .u8 0),.p (.int .u8 0),.p (.int .u8 0),.p (.int .u8 0),.p (.int .u8 0),.p (.int .u8 0),.p (.int .u8 0),.p (.int .u8 0),.p (.int .u8 0),.p (.int .u8 0),.p (.int .u8 0),.p (.int .u8 0),.p (.int .u8 0),.p (.int .u8 0),.p (.int .u8 0),.p (.int .u8 0),.p (.int .u8 0),.p (.int .u8 0),.p (.int .u8 0),.p (.int .u8 0),.p (.int .u8 0),.p (.int .u8 0),.p (.int .u8 0),.p (.int .u8 0),.p (.int .u8 0),.p (.int .u8 0),.p (.int .u8 0),.p (.int .u8 0),.p (.int .u8 0),.p (.int .u8 0),.p (.int .u8 0),.p (.int .u8 0),.p (.int .u8 0),.p (.int .u8 0),.p (.int .u8 0),.p (.int .u8 0),.p (.int .u8 0),.p (.int .u8 0),.p (.int .u8 0),.p (.int .u8 0),.p (.int .u8 0),.p (.int .u8 0),.p (.int .u8 0),.p (.int .u8 0),.p (.int .u8 0),.p (.int .u8 0),.p (.int .u8 0),.p (.int .u8 0),.p (.int .u8 0),.p (.int .u8 0),.p (.int .u8 0),.p (.int .u8 0),.p (.int .u8 0),.p (.int .u8 0),.p (.int .u8 0),.p (.int .u8 0),.p (.int .u8 0),.p (.int .u8 0),.p (.int .u8 0),.p (.int .u8 0),.p (.int .u8 0),.p (.int .u8 0),.p (.int .u8 0),.p (.int .u8 0),.p (.int .u8 0),.p (.int .u8 0),.p (.int .u8 0),.p (.int .u8 0),.p (.int .u8 0),.p (.int .u8 0),.p (.int .u8 0),.p (.int .u8 0),.p (.int .u8 0),.p (.int .u8 0),.p (.int .u8 0),.p (.int .u8 0),.p (.int .u8 0),.p (.int .u8 0),.p (.int .u8 0),.p (.int .u8 0),.p (.int .u8 0),.p (.int .u8 0),.p (.int .u8 0),.p (.int .u8 0),.p (.int .u8 0),.p (.int .u8 0),.p (.int .u8 0),.p (.int .u8 0),.p (.int .u8 0),.p (.int .u8 0),.p (.int .u8 0),.p (.int .u8 0),.p (.int .u8 0),.p (.int .u8 0),.p (.int .u8 0),.p (.int .u8 0),.p (.int .u8 0),.p (.int .u8 0),.p (.int .u8 0),.p (.int .u8 0),.p (.int .u8 0),.p (.int .u8 0),.p (.int .u8 0),.p (.int .u8 0),.p (.int .u8 0),.p (.int .u8 0),.p (.int .u8 0),.p (.int .u8 0),.p (.int .u8 0),.p (.int .u8 0),.p (.int .u8 0),.p (.int .u8 0),.p (.int .u8 0),.p (.int .u8 0),.p (.int .u8 0),.p (.int .u8 0),.p (.int .u8 0),.p (.int .u8 0),.p (.int .u8 0),.p (.int .u8 0),.p (.int .u8 0),.p (.int .u8 0),.p (.int .u8 0),.p (.int .u8 0),.p (.int .u8 0),.p (.int .u8 0),.p (.int .u8 0),.p (.int .u8 0),.p (.int .u8 0),.p (.int .u8 0),.p (.int .u8 0),.p (.int .u8 0),.p (.int .u8 0),.p (.int .u8 0),.p (.int .u8 0),.p (.int .u8 0),.p (.int .u8 0),.p (.int .u8 0),.p (.int .u8 0),.p (.int .u8 0),.p (.int .u8 0),.p (.int .u8 0),.p (.int .u8 0),.p (.int .u8 0),.p (.int .u8 0),.p (.int .u8 0),.p (.int .u8 0),.p (.int .u8 0),.p (.int .u8 0),.p (.int .u8 0),.p (.int .u8 0),.p (.int .u8 0),.p (.int .u8 0),.p (.int .u8 0),.p (.int .u8 0),.p (.int .u8 0),.p (.int .u8 0),.p (.int .u8 0),.p (.int .u8 0),.p (.int .u8 0),.p (.int .u8 0),.p (.int .u8 0),.p (.int .u8 0),.p (.int .u8 0),.p (.int .u8 0),.p (.int .u8 0),.p (.int .u8 0),.p (.int .u8 0),.p (.int .u8 0),.p (.int .u8 0),.p (.int .u8 0),.p (.int .u8 0),.p (.int .u8 0),.p (.int .u8 0),.p (.int .u8 0),.p (.int .u8 0),.p (.int .u8 0),.p (.int .u8 0),.p (.int .u8 0),.p (.int .u8 0),.p (.int .u8 0),.p (.int .u8 0),.p (.int .u8 0),.p (.int .u8 0),.p (.int .u8 0),.p (.int .u8 0),.p (.int .u8 0),.p (.int .u8 0),.p (.int .u8 0),.p (.int .u8 0),.p (.int .u8 0),.p (.int .u8 0),.p (.int .u8 0),.p (.int .u8 0),.p (.int .u8 0),.p (.int .u8 0),.p (.int .u8 0),.p (.int .u8 0),.p (.int .u8 0),.p (.int .u8 0),.p (.int .u8 0),.p (.int .u8 0),.p (.int .u8 0),.p (.int .u8 0),.p (.int .u8 0),.p (.int .u8 0),.p (.int .u8 0),.p (.int .u8 0),.p (.int .u8 0),.p (.int .u8 0),.p (.int .u8 0),.p (.int .u8 0),.p (.int .u8 0),.p (.int .u8 0),.p (.int .u8 0),.p (.int .u8 0),.p (.int .u8 0),.p (.int .u8 0),.p (.int .u8 0),.p (.int .u8 0),.p (.int .u8 0),.p (.int .u8 0),.p (.int .u8 0)]⟩,some 11,(.st 11),List.replicate 256 (.v (.int .u8) (0:Int)),some ⟨(.st 11),(⟨List.replicate 256 (0:Int),List.length_replicate⟩:Zyc)⟩⟩,
 some ⟨⟨.struct [(0,5),(1,5)],2,2,[.p (.int .u8 0),.p (.int .u8 0)]⟩,some 8,(.st 8),[.v (.int .u8) (0:Int),.v (.int .u8) (0:Int)],some ⟨(.st 8),(ZnE.mk 0 0)⟩⟩,
 some ⟨⟨.struct [(0,5),(1,5)],2,2,[.p (.int .u8 0),.p (.int .u8 0)]⟩,some 8,(.st 8),[.v (.int .u8) (0:Int),.v (.int .u8) (0:Int)],some ⟨(.st 8),(ZnE.mk 0 0)⟩⟩,
 some ⟨⟨.arr 16 237,32,32,[.p (.int .u8 0),.p (.int .u8 0),.p (.int .u8 0),.p (.int .u8 0),.p (.int .u8 0),.p (.int .u8 0),.p (.int .u8 0),.p (.int .u8 0),.p (.int .u8 0),.p (.int .u8 0),.p (.int .u8 0),.p (.int .u8 0),.p (.int .u8 0),.p (.int .u8 0),.p (.int .u8 0),.p (.int .u8 0),.p (.int .u8 0),.p (.int .u8 0),.p (.int .u8 0),.p (.int .u8 0),.p (.int .u8 0),.p (.int .u8 0),.p (.int .u8 0),.p (.int .u8 0),.p (.int .u8 0),.p (.int .u8 0),.p (.int .u8 0),.p (.int .u8 0),.p (.int .u8 0),.p (.int .u8 0),.p (.int .u8 0),.p (.int .u8 0)]⟩,some 12,(.st 12),[.v (.int .u8) (0:Int),.v (.int .u8) (0:Int),.v (.int .u8) (0:Int),.v (.int .u8) (0:Int),.v (.int .u8) (0:Int),.v (.int .u8) (0:Int),.v (.int .u8) (0:Int),.v (.int .u8) (0:Int),.v (.int .u8) (0:Int),.v (.int .u8) (0:Int),.v (.int .u8) (0:Int),.v (.int .u8) (0:Int),.v (.int .u8) (0:Int),.v (.int .u8) (0:Int),.v (.int .u8) (0:Int),.v (.int .u8) (0:Int),.v (.int .u8) (0:Int),.v (.int .u8) (0:Int),.v (.int .u8) (0:Int),.v (.int .u8) (0:Int),.v (.int .u8) (0:Int),.v (.int .u8) (0:Int),.v (.int .u8) (0:Int),.v (.int .u8) (0:Int),.v (.int .u8) (0:Int),.v (.int .u8) (0:Int),.v (.int .u8) (0:Int),.v (.int .u8) (0:Int),.v (.int .u8) (0:Int),.v (.int .u8) (0:Int),.v (.int .u8) (0:Int),.v (.int .u8) (0:Int)],some ⟨(.st 12),(Zof.mk (ZnE.mk 0 0) (ZnE.mk 0 0) (ZnE.mk 0 0) (ZnE.mk 0 0) (ZnE.mk 0 0) (ZnE.mk 0 0) (ZnE.mk 0 0) (ZnE.mk 0 0) (ZnE.mk 0 0) (ZnE.mk 0 0) (ZnE.mk 0 0) (ZnE.mk 0 0) (ZnE.mk 0 0) (ZnE.mk 0 0) (ZnE.mk 0 0) (ZnE.mk 0 0))⟩⟩,
 none,
 none,
 none,
 none,
 none,
 none,
 none,
 none,
 none,
 none,
 none,
 none,
 none,
 none,
 none,
 none,
 none,
 none,
 none,
 none,
 none,
 none,
 none,
 none,
 none,
 none,
 none,
 none,
 none,
 none,
 none,
 none,
 none,
 none,
 none,
 none,
 none,
 none,
 none,
 none,
 none,
 none,
 none,
 none,
 none,
 none,
 none,
 none,
 none,
 none,
 none,
 none,
 none,
 none,
 none,
 none,
 none,
 none,
 none,
 none,
 none,
 none]
noncomputable def X0:ZG U:=⟨Tryz.prog,tt0,[(2,ZHq),(3,ZC1),(4,ZDq),(5,Zvh)],0⟩
theorem tok0:TOk X0:=tok_of (by kernel_rfl) (by kernel_rfl) (by kernel_rfl)
theorem eok0:Zk X0.E:=⟨by kernel_rfl⟩
theorem mixed:X0.prog.follows .mixedOrders=true:=by kernel_rfl
theorem G0:Gnd X0:=⟨uok,tok0,eok0,mixed⟩
noncomputable def ZFf:Zj9 U:=⟨(Int×Int),[78,78,78],[.p,.p,.p],[none,none,none],[.p (.int .u64),.p (.int .u64),.p (.int .u64)],fun v=>ZDL v.1 v.2.1 v.2.2.1,fun q=>⟨[.p ⟨(.int .u64),q.1⟩,.p ⟨(.int .u64),q.2⟩],[]⟩⟩
noncomputable def ZEn:Zj9 U:=⟨Str,[9,9],[.p,.p],[none,none],[.p .str,.p .str],fun v=>ZCH v.1 v.2.1,fun q=>⟨[.p ⟨.str,q⟩],[]⟩⟩
noncomputable def Zyu:Zj9 U:=⟨Int,[9,5],[.p,.p],[none,none],[.p .str,.p (.int .u8)],fun v=>Zrz v.1 v.2.1,fun q=>⟨[.p ⟨(.int .i64),q⟩],[]⟩⟩
noncomputable def ZEx:Zj9 U:=⟨Str,[9,9],[.p,.p],[none,none],[.p .str,.p .str],fun v=>ZBe v.1 v.2.1,fun q=>⟨[.p ⟨.str,q⟩],[]⟩⟩
noncomputable def ZEb:Zj9 U:=⟨Str,[9,9],[.p,.p],[none,none],[.p .str,.p .str],fun v=>ZCP v.1 v.2.1,fun q=>⟨[.p ⟨.str,q⟩],[]⟩⟩
noncomputable def ZEo:Zj9 U:=⟨Str,[3],[.p],[none],[.p (.int .i64)],fun v=>ZAN v.1,fun q=>⟨[.p ⟨.str,q⟩],[]⟩⟩
end Go.Proofs
