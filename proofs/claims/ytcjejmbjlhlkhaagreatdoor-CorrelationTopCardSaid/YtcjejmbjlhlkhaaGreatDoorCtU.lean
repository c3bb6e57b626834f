/- Printed by wip/tools/tgen.py: tables. -/
import Derived.Test.YtcjejmbjlhlkhaaGreatDoorCtS
import Derived.Test.YtcjejmbjlhlkhaaGreatDoorCtWX
import Derived.Test.YtcjejmbjlhlkhaaGreatDoorProg
import Derived.KernelRfl
set_option linter.all false
namespace Go.Proofs
open Go Eng
set_option maxRecDepth 100000
def ZIZ (x:G_api_Cell):List (Lf ZBM):=[⟨.bool,x.Null⟩,⟨.str,x.Text⟩]
def ZIR:List (Lf ZBM)->Option G_api_Cell
 | [c0,c1]=>(c0.as .bool).bind fun a=>(c1.as .str).bind fun b=>some (G_api_Cell.mk a b)
 |_=>none
theorem ZKS (a:List (Lf ZBM)) (x:G_api_Cell) (h:ZIR a=some x):ZIZ x=a:=by
 unfold ZIR at h;split at h;rotate_left;simp at h
 repeat (replace h:=ZFh h;obtain⟨_,rfl,h⟩:=h)
 obtain rfl:=Option.some.inj h;rfl
def ZIr (x:G_api_Cell):P:= .agg [.bool x.Null,.str x.Text]
def ZIf (x:G_api_Column):List (Lf ZBM):=[⟨.str,x.Name⟩,⟨(.sl (.st 0)),x.Cells⟩]
def ZHX:List (Lf ZBM)->Option G_api_Column
 | [c0,c1]=>(c0.as .str).bind fun a=>(c1.as (.sl (.st 0))).bind fun b=>some (G_api_Column.mk a b)
 |_=>none
theorem ZKj (a:List (Lf ZBM)) (x:G_api_Column) (h:ZHX a=some x):ZIf x=a:=by
 unfold ZHX at h;split at h;rotate_left;simp at h
 repeat (replace h:=ZFh h;obtain⟨_,rfl,h⟩:=h)
 obtain rfl:=Option.some.inj h;rfl
def ZFb (x:G_api_Column):P:= .agg [.str x.Name,.sl 2 (x.Cells.map ZIr)]
def ZIB (x:G_api_Table):List (Lf ZBM):=[⟨(.int .i64),x.ID⟩,⟨.str,x.Name⟩,⟨(.sl (.st 1)),x.Columns⟩]
def ZIn:List (Lf ZBM)->Option G_api_Table
 | [c0,c1,c2]=>(c0.as (.int .i64)).bind fun a=>(c1.as .str).bind fun b=>(c2.as (.sl (.st 1))).bind fun c=>some (G_api_Table.mk a b c)
 |_=>none
theorem ZKz (a:List (Lf ZBM)) (x:G_api_Table) (h:ZIn a=some x):ZIB x=a:=by
 unfold ZIn at h;split at h;rotate_left;simp at h
 repeat (replace h:=ZFh h;obtain⟨_,rfl,h⟩:=h)
 obtain rfl:=Option.some.inj h;rfl
def ZJq (x:G_api_Table):P:= .agg [.int .i64 x.ID,.str x.Name,.sl 2 (x.Columns.map ZFb)]
def ZJu (x:ZnP):List (Lf ZBM):=[⟨.bool,x.Neg⟩,⟨(.sl (.int .u32)),x.Words⟩]
def ZJi:List (Lf ZBM)->Option ZnP
 | [c0,c1]=>(c0.as .bool).bind fun a=>(c1.as (.sl (.int .u32))).bind fun b=>some (ZnP.mk a b)
 |_=>none
theorem ZLq (a:List (Lf ZBM)) (x:ZnP) (h:ZJi a=some x):ZJu x=a:=by
 unfold ZJi at h;split at h;rotate_left;simp at h
 repeat (replace h:=ZFh h;obtain⟨_,rfl,h⟩:=h)
 obtain rfl:=Option.some.inj h;rfl
def ZMI (x:ZnP):P:= .agg [.bool x.Neg,.sl 1 (x.Words.map (fun x=> .int .u32 x))]
def ZHc (x:ZnK):List (Lf ZBM):=[⟨.bool,x.Num.Neg⟩,⟨(.sl (.int .u32)),x.Num.Words⟩,⟨.bool,x.Den.Neg⟩,⟨(.sl (.int .u32)),x.Den.Words⟩]
def ZGa:List (Lf ZBM)->Option ZnK
 | [c0,c1,c2,c3]=>(c0.as .bool).bind fun b=>(c1.as (.sl (.int .u32))).bind fun c=>(c2.as .bool).bind fun d=>(c3.as (.sl (.int .u32))).bind fun a=>some (ZnK.mk (ZnP.mk b c) (ZnP.mk d a))
 |_=>none
theorem ZJN (a:List (Lf ZBM)) (x:ZnK) (h:ZGa a=some x):ZHc x=a:=by
 unfold ZGa at h;split at h;rotate_left;simp at h
 repeat (replace h:=ZFh h;obtain⟨_,rfl,h⟩:=h)
 obtain rfl:=Option.some.inj h;rfl
def ZKn (x:ZnK):P:= .agg [.bool x.Num.Neg,.sl 1 (x.Num.Words.map (fun x=> .int .u32 x)),.bool x.Den.Neg,.sl 1 (x.Den.Words.map (fun x=> .int .u32 x))]
def ZEp (x:ZnV):List (Lf ZBM):=[⟨.bool,x.e0.Num.Neg⟩,⟨(.sl (.int .u32)),x.e0.Num.Words⟩,⟨.bool,x.e0.Den.Neg⟩,⟨(.sl (.int .u32)),x.e0.Den.Words⟩,⟨.bool,x.e1.Num.Neg⟩,⟨(.sl (.int .u32)),x.e1.Num.Words⟩,⟨.bool,x.e1.Den.Neg⟩,⟨(.sl (.int .u32)),x.e1.Den.Words⟩]
def ZCf:List (Lf ZBM)->Option ZnV
 | [c0,c1,c2,c3,c4,c5,c6,c7]=>(c0.as .bool).bind fun f=>(c1.as (.sl (.int .u32))).bind fun d=>(c2.as .bool).bind fun c=>(c3.as (.sl (.int .u32))).bind fun h=>(c4.as .bool).bind fun a=>(c5.as (.sl (.int .u32))).bind fun e=>(c6.as .bool).bind fun g=>(c7.as (.sl (.int .u32))).bind fun b=>some (ZnV.mk (ZnK.mk (ZnP.mk f d) (ZnP.mk c h)) (ZnK.mk (ZnP.mk a e) (ZnP.mk g b)))
 |_=>none
theorem ZHW (a:List (Lf ZBM)) (x:ZnV) (h:ZCf a=some x):ZEp x=a:=by
 unfold ZCf at h;split at h;rotate_left;simp at h
 repeat (replace h:=ZFh h;obtain⟨_,rfl,h⟩:=h)
 obtain rfl:=Option.some.inj h;rfl
def ZIq (x:ZnV):P:= .agg [.bool x.e0.Num.Neg,.sl 1 (x.e0.Num.Words.map (fun x=> .int .u32 x)),.bool x.e0.Den.Neg,.sl 1 (x.e0.Den.Words.map (fun x=> .int .u32 x)),.bool x.e1.Num.Neg,.sl 1 (x.e1.Num.Words.map (fun x=> .int .u32 x)),.bool x.e1.Den.Neg,.sl 1 (x.e1.Den.Words.map (fun x=> .int .u32 x))]
def ZH1 (x:Zn0):List (Lf ZBM):=[⟨(.int .i64),x.N⟩,⟨.bool,x.X.Num.Neg⟩,⟨(.sl (.int .u32)),x.X.Num.Words⟩,⟨.bool,x.X.Den.Neg⟩,⟨(.sl (.int .u32)),x.X.Den.Words⟩,⟨.bool,x.Y.Num.Neg⟩,⟨(.sl (.int .u32)),x.Y.Num.Words⟩,⟨.bool,x.Y.Den.Neg⟩,⟨(.sl (.int .u32)),x.Y.Den.Words⟩,⟨.bool,x.XX.Num.Neg⟩,⟨(.sl (.int .u32)),x.XX.Num.Words⟩,⟨.bool,x.XX.Den.Neg⟩,⟨(.sl (.int .u32)),x.XX.Den.Words⟩,⟨.bool,x.YY.Num.Neg⟩,⟨(.sl (.int .u32)),x.YY.Num.Words⟩,⟨.bool,x.YY.Den.Neg⟩,⟨(.sl (.int .u32)),x.YY.Den.Words⟩,⟨.bool,x.XY.Num.Neg⟩,⟨(.sl (.int .u32)),x.XY.Num.Words⟩,⟨.bool,x.XY.Den.Neg⟩,⟨(.sl (.int .u32)),x.XY.Den.Words⟩]
def ZG3:List (Lf ZBM)->Option Zn0
 | [c0,c1,c2,c3,c4,c5,c6,c7,c8,c9,c10,c11,c12,c13,c14,c15,c16,c17,c18,c19,c20]=>(c0.as (.int .i64)).bind fun q=>(c1.as .bool).bind fun s=>(c2.as (.sl (.int .u32))).bind fun u=>(c3.as .bool).bind fun n=>(c4.as (.sl (.int .u32))).bind fun l=>(c5.as .bool).bind fun t=>(c6.as (.sl (.int .u32))).bind fun r=>(c7.as .bool).bind fun m=>(c8.as (.sl (.int .u32))).bind fun o=>(c9.as .bool).bind fun p=>(c10.as (.sl (.int .u32))).bind fun d=>(c11.as .bool).bind fun j=>(c12.as (.sl (.int .u32))).bind fun c=>(c13.as .bool).bind fun e=>(c14.as (.sl (.int .u32))).bind fun b=>(c15.as .bool).bind fun g=>(c16.as (.sl (.int .u32))).bind fun f=>(c17.as .bool).bind fun k=>(c18.as (.sl (.int .u32))).bind fun a=>(c19.as .bool).bind fun i=>(c20.as (.sl (.int .u32))).bind fun h=>some (Zn0.mk q (ZnK.mk (ZnP.mk s u) (ZnP.mk n l)) (ZnK.mk (ZnP.mk t r) (ZnP.mk m o)) (ZnK.mk (ZnP.mk p d) (ZnP.mk j c)) (ZnK.mk (ZnP.mk e b) (ZnP.mk g f)) (ZnK.mk (ZnP.mk k a) (ZnP.mk i h)))
 |_=>none
theorem ZJX (a:List (Lf ZBM)) (x:Zn0) (h:ZG3 a=some x):ZH1 x=a:=by
 unfold ZG3 at h;split at h;rotate_left;simp at h
 repeat (replace h:=ZFh h;obtain⟨_,rfl,h⟩:=h)
 obtain rfl:=Option.some.inj h;rfl
def ZKD (x:Zn0):P:= .agg [.int .i64 x.N,.bool x.X.Num.Neg,.sl 1 (x.X.Num.Words.map (fun x=> .int .u32 x)),.bool x.X.Den.Neg,.sl 1 (x.X.Den.Words.map (fun x=> .int .u32 x)),.bool x.Y.Num.Neg,.sl 1 (x.Y.Num.Words.map (fun x=> .int .u32 x)),.bool x.Y.Den.Neg,.sl 1 (x.Y.Den.Words.map (fun x=> .int .u32 x)),.bool x.XX.Num.Neg,.sl 1 (x.XX.Num.Words.map (fun x=> .int .u32 x)),.bool x.XX.Den.Neg,.sl 1 (x.XX.Den.Words.map (fun x=> .int .u32 x)),.bool x.YY.Num.Neg,.sl 1 (x.YY.Num.Words.map (fun x=> .int .u32 x)),.bool x.YY.Den.Neg,.sl 1 (x.YY.Den.Words.map (fun x=> .int .u32 x)),.bool x.XY.Num.Neg,.sl 1 (x.XY.Num.Words.map (fun x=> .int .u32 x)),.bool x.XY.Den.Neg,.sl 1 (x.XY.Den.Words.map (fun x=> .int .u32 x))]
def ZEo (x:ZnJ):List (Lf ZBM):=[⟨(.sl (.int .i64)),x.l⟩,⟨(.int .i64),x.at_⟩]
def ZCe:List (Lf ZBM)->Option ZnJ
 | [c0,c1]=>(c0.as (.sl (.int .i64))).bind fun a=>(c1.as (.int .i64)).bind fun b=>some (ZnJ.mk a b)
 |_=>none
theorem ZHV (a:List (Lf ZBM)) (x:ZnJ) (h:ZCe a=some x):ZEo x=a:=by
 unfold ZCe at h;split at h;rotate_left;simp at h
 repeat (replace h:=ZFh h;obtain⟨_,rfl,h⟩:=h)
 obtain rfl:=Option.some.inj h;rfl
def ZIp (x:ZnJ):P:= .agg [.sl 1 (x.l.map (fun x=> .int .i64 x)),.int .i64 x.at_]
def ZJQ (x:Zn6):List (Lf ZBM):=[⟨(.int .i64),x.Kind⟩,⟨(.int .i64),x.Column⟩,⟨.str,x.Text⟩,⟨(.sl (.int .i64)),x.Columns⟩]
def ZJW:List (Lf ZBM)->Option Zn6
 | [c0,c1,c2,c3]=>(c0.as (.int .i64)).bind fun b=>(c1.as (.int .i64)).bind fun c=>(c2.as .str).bind fun d=>(c3.as (.sl (.int .i64))).bind fun a=>some (Zn6.mk b c d a)
 |_=>none
theorem ZLS (a:List (Lf ZBM)) (x:Zn6) (h:ZJW a=some x):ZJQ x=a:=by
 unfold ZJW at h;split at h;rotate_left;simp at h
 repeat (replace h:=ZFh h;obtain⟨_,rfl,h⟩:=h)
 obtain rfl:=Option.some.inj h;rfl
def ZNp (x:Zn6):P:= .agg [.int .i64 x.Kind,.int .i64 x.Column,.str x.Text,.sl 1 (x.Columns.map (fun x=> .int .i64 x))]
def ZBG (x:ZnQ):List (Lf ZBM):=[⟨(.int .u8),x.lo⟩,⟨(.int .u8),x.hi⟩]
def ZyD:List (Lf ZBM)->Option ZnQ
 | [c0,c1]=>(c0.as (.int .u8)).bind fun a=>(c1.as (.int .u8)).bind fun b=>some (ZnQ.mk a b)
 |_=>none
theorem ZFU (a:List (Lf ZBM)) (x:ZnQ) (h:ZyD a=some x):ZBG x=a:=by
 unfold ZyD at h;split at h;rotate_left;simp at h
 repeat (replace h:=ZFh h;obtain⟨_,rfl,h⟩:=h)
 obtain rfl:=Option.some.inj h;rfl
def ZGL (x:ZnQ):P:= .agg [.int .u8 x.lo,.int .u8 x.hi]
def ZFO (x:ZnM):List (Lf ZBM):=[⟨.str,x.Key⟩,⟨(.int .u64),x.Hash⟩,⟨(.int .i64),x.Count⟩,⟨.bool,x.Sum.Num.Neg⟩,⟨(.sl (.int .u32)),x.Sum.Num.Words⟩,⟨.bool,x.Sum.Den.Neg⟩,⟨(.sl (.int .u32)),x.Sum.Den.Words⟩]
def ZEU:List (Lf ZBM)->Option ZnM
 | [c0,c1,c2,c3,c4,c5,c6]=>(c0.as .str).bind fun e=>(c1.as (.int .u64)).bind fun c=>(c2.as (.int .i64)).bind fun b=>(c3.as .bool).bind fun g=>(c4.as (.sl (.int .u32))).bind fun a=>(c5.as .bool).bind fun d=>(c6.as (.sl (.int .u32))).bind fun f=>some (ZnM.mk e c b (ZnK.mk (ZnP.mk g a) (ZnP.mk d f)))
 |_=>none
theorem ZIQ (a:List (Lf ZBM)) (x:ZnM) (h:ZEU a=some x):ZFO x=a:=by
 unfold ZEU at h;split at h;rotate_left;simp at h
 repeat (replace h:=ZFh h;obtain⟨_,rfl,h⟩:=h)
 obtain rfl:=Option.some.inj h;rfl
def ZJr (x:ZnM):P:= .agg [.str x.Key,.int .u64 x.Hash,.int .i64 x.Count,.bool x.Sum.Num.Neg,.sl 1 (x.Sum.Num.Words.map (fun x=> .int .u32 x)),.bool x.Sum.Den.Neg,.sl 1 (x.Sum.Den.Words.map (fun x=> .int .u32 x))]
def ZIe (x:Zrg):List (Lf ZBM):=[⟨.str,x.word⟩,⟨.fnc,x.canonical⟩,⟨.fnc,x.value⟩]
def ZHU:List (Lf ZBM)->Option Zrg
 | [c0,c1,c2]=>(c0.as .str).bind fun a=>(c1.as .fnc).bind fun b=>(c2.as .fnc).bind fun c=>some (Zrg.mk a b c)
 |_=>none
theorem ZKi (a:List (Lf ZBM)) (x:Zrg) (h:ZHU a=some x):ZIe x=a:=by
 unfold ZHU at h;split at h;rotate_left;simp at h
 repeat (replace h:=ZFh h;obtain⟨_,rfl,h⟩:=h)
 obtain rfl:=Option.some.inj h;rfl
def ZKT (x:Zrg):P:= .agg [.str x.word,ZjU x.canonical,ZjU x.value]
def ZJt (x:Zph):List (Lf ZBM):=[⟨(.int .i64),x.Table⟩,⟨(.int .i64),x.Column⟩]
def ZJh:List (Lf ZBM)->Option Zph
 | [c0,c1]=>(c0.as (.int .i64)).bind fun a=>(c1.as (.int .i64)).bind fun b=>some (Zph.mk a b)
 |_=>none
theorem ZLp (a:List (Lf ZBM)) (x:Zph) (h:ZJh a=some x):ZJt x=a:=by
 unfold ZJh at h;split at h;rotate_left;simp at h
 repeat (replace h:=ZFh h;obtain⟨_,rfl,h⟩:=h)
 obtain rfl:=Option.some.inj h;rfl
def ZMH (x:Zph):P:= .agg [.int .i64 x.Table,.int .i64 x.Column]
def ZF1 (x:ZnX):List (Lf ZBM):=[⟨(.int .i64),x.Key.Table⟩,⟨(.int .i64),x.Key.Column⟩,⟨(.int .i64),x.Value.Table⟩,⟨(.int .i64),x.Value.Column⟩,⟨.bool,x.Score.Num.Neg⟩,⟨(.sl (.int .u32)),x.Score.Num.Words⟩,⟨.bool,x.Score.Den.Neg⟩,⟨(.sl (.int .u32)),x.Score.Den.Words⟩,⟨(.int .i64),x.Sign⟩,⟨(.int .i64),x.N⟩]
def ZFe:List (Lf ZBM)->Option ZnX
 | [c0,c1,c2,c3,c4,c5,c6,c7,c8,c9]=>(c0.as (.int .i64)).bind fun h=>(c1.as (.int .i64)).bind fun e=>(c2.as (.int .i64)).bind fun j=>(c3.as (.int .i64)).bind fun a=>(c4.as .bool).bind fun b=>(c5.as (.sl (.int .u32))).bind fun g=>(c6.as .bool).bind fun i=>(c7.as (.sl (.int .u32))).bind fun c=>(c8.as (.int .i64)).bind fun d=>(c9.as (.int .i64)).bind fun f=>some (ZnX.mk (Zph.mk h e) (Zph.mk j a) (ZnK.mk (ZnP.mk b g) (ZnP.mk i c)) d f)
 |_=>none
theorem ZI5 (a:List (Lf ZBM)) (x:ZnX) (h:ZFe a=some x):ZF1 x=a:=by
 unfold ZFe at h;split at h;rotate_left;simp at h
 repeat (replace h:=ZFh h;obtain⟨_,rfl,h⟩:=h)
 obtain rfl:=Option.some.inj h;rfl
def ZJO (x:ZnX):P:= .agg [.int .i64 x.Key.Table,.int .i64 x.Key.Column,.int .i64 x.Value.Table,.int .i64 x.Value.Column,.bool x.Score.Num.Neg,.sl 1 (x.Score.Num.Words.map (fun x=> .int .u32 x)),.bool x.Score.Den.Neg,.sl 1 (x.Score.Den.Words.map (fun x=> .int .u32 x)),.int .i64 x.Sign,.int .i64 x.N]
def ZBa (x:Zz6):List (Lf ZBM):=x.1.map fun y=>⟨(.int .u8),y⟩
def ZFL (a:List (Lf ZBM)):Option Zz6:=match Zh (fun c=>c.as (.int .u8)) a with
 |some l=>if h:l.length=256 then some ⟨l,h⟩else none
 |none=>none
theorem ZJg (a:List (Lf ZBM)) (x:Zz6) (h:ZFL a=some x):ZBa x=a:=by unfold ZFL at h;split at h;rotate_left;simp at h;rename_i l b;split at h;rotate_left;simp at h;simp only[Option.some.injEq]at h;subst h;exact(Zmh b).symm
def ZFg (x:Zz6):P:= .agg (x.1.map fun y=> .int .u8 y)
def Zxe (x:ZoS):List (Lf ZBM):=[⟨(.int .u8),x.e0.lo⟩,⟨(.int .u8),x.e0.hi⟩,⟨(.int .u8),x.e1.lo⟩,⟨(.int .u8),x.e1.hi⟩,⟨(.int .u8),x.e2.lo⟩,⟨(.int .u8),x.e2.hi⟩,⟨(.int .u8),x.e3.lo⟩,⟨(.int .u8),x.e3.hi⟩,⟨(.int .u8),x.e4.lo⟩,⟨(.int .u8),x.e4.hi⟩,⟨(.int .u8),x.e5.lo⟩,⟨(.int .u8),x.e5.hi⟩,⟨(.int .u8),x.e6.lo⟩,⟨(.int .u8),x.e6.hi⟩,⟨(.int .u8),x.e7.lo⟩,⟨(.int .u8),x.e7.hi⟩,⟨(.int .u8),x.e8.lo⟩,⟨(.int .u8),x.e8.hi⟩,⟨(.int .u8),x.e9.lo⟩,⟨(.int .u8),x.e9.hi⟩,⟨(.int .u8),x.e10.lo⟩,⟨(.int .u8),x.e10.hi⟩,⟨(.int .u8),x.e11.lo⟩,⟨(.int .u8),x.e11.hi⟩,⟨(.int .u8),x.e12.lo⟩,⟨(.int .u8),x.e12.hi⟩,⟨(.int .u8),x.e13.lo⟩,⟨(.int .u8),x.e13.hi⟩,⟨(.int .u8),x.e14.lo⟩,⟨(.int .u8),x.e14.hi⟩,⟨(.int .u8),x.e15.lo⟩,⟨(.int .u8),x.e15.hi⟩]
def ZtY:List (Lf ZBM)->Option ZoS
 | [c0,c1,c2,c3,c4,c5,c6,c7,c8,c9,c10,c11,c12,c13,c14,c15,c16,c17,c18,c19,c20,c21,c22,c23,c24,c25,c26,c27,c28,c29,c30,c31]=>(c0.as (.int .u8)).bind fun B=>(c1.as (.int .u8)).bind fun D=>(c2.as (.int .u8)).bind fun F=>(c3.as (.int .u8)).bind fun y=>(c4.as (.int .u8)).bind fun w=>(c5.as (.int .u8)).bind fun E=>(c6.as (.int .u8)).bind fun C=>(c7.as (.int .u8)).bind fun x=>(c8.as (.int .u8)).bind fun z=>(c9.as (.int .u8)).bind fun A=>(c10.as (.int .u8)).bind fun h=>(c11.as (.int .u8)).bind fun r=>(c12.as (.int .u8)).bind fun d=>(c13.as (.int .u8)).bind fun i=>(c14.as (.int .u8)).bind fun c=>(c15.as (.int .u8)).bind fun m=>(c16.as (.int .u8)).bind fun l=>(c17.as (.int .u8)).bind fun v=>(c18.as (.int .u8)).bind fun b=>(c19.as (.int .u8)).bind fun q=>(c20.as (.int .u8)).bind fun o=>(c21.as (.int .u8)).bind fun s=>(c22.as (.int .u8)).bind fun f=>(c23.as (.int .u8)).bind fun j=>(c24.as (.int .u8)).bind fun p=>(c25.as (.int .u8)).bind fun a=>(c26.as (.int .u8)).bind fun g=>(c27.as (.int .u8)).bind fun t=>(c28.as (.int .u8)).bind fun k=>(c29.as (.int .u8)).bind fun u=>(c30.as (.int .u8)).bind fun e=>(c31.as (.int .u8)).bind fun n=>some (ZoS.mk (ZnQ.mk B D) (ZnQ.mk F y) (ZnQ.mk w E) (ZnQ.mk C x) (ZnQ.mk z A) (ZnQ.mk h r) (ZnQ.mk d i) (ZnQ.mk c m) (ZnQ.mk l v) (ZnQ.mk b q) (ZnQ.mk o s) (ZnQ.mk f j) (ZnQ.mk p a) (ZnQ.mk g t) (ZnQ.mk k u) (ZnQ.mk e n))
 |_=>none
theorem ZDG (a:List (Lf ZBM)) (x:ZoS) (h:ZtY a=some x):Zxe x=a:=by
 unfold ZtY at h;split at h;rotate_left;simp at h
 repeat (replace h:=ZFh h;obtain⟨_,rfl,h⟩:=h)
 obtain rfl:=Option.some.inj h;rfl
def ZEz (x:ZoS):P:= .agg [.int .u8 x.e0.lo,.int .u8 x.e0.hi,.int .u8 x.e1.lo,.int .u8 x.e1.hi,.int .u8 x.e2.lo,.int .u8 x.e2.hi,.int .u8 x.e3.lo,.int .u8 x.e3.hi,.int .u8 x.e4.lo,.int .u8 x.e4.hi,.int .u8 x.e5.lo,.int .u8 x.e5.hi,.int .u8 x.e6.lo,.int .u8 x.e6.hi,.int .u8 x.e7.lo,.int .u8 x.e7.hi,.int .u8 x.e8.lo,.int .u8 x.e8.hi,.int .u8 x.e9.lo,.int .u8 x.e9.hi,.int .u8 x.e10.lo,.int .u8 x.e10.hi,.int .u8 x.e11.lo,.int .u8 x.e11.hi,.int .u8 x.e12.lo,.int .u8 x.e12.hi,.int .u8 x.e13.lo,.int .u8 x.e13.hi,.int .u8 x.e14.lo,.int .u8 x.e14.hi,.int .u8 x.e15.lo,.int .u8 x.e15.hi]
def ZZb:(n:Nat)->ZBM n->List (Lf ZBM)
 |0,x=>ZIZ x
 |1,x=>ZIf x
 |2,x=>ZIB x
 |3,x=>ZJu x
 |4,x=>ZHc x
 |5,x=>ZEp x
 |6,x=>ZH1 x
 |7,x=>ZEo x
 |8,x=>ZJQ x
 |9,x=>ZBG x
 |10,x=>ZFO x
 |11,x=>ZIe x
 |12,x=>ZJt x
 |13,x=>ZF1 x
 |14,x=>ZBa x
 |15,x=>Zxe x
 |_+16,_=>[]
def ofU:(n:Nat)->List (Lf ZBM)->Option (ZBM n)
 |0,cs=>ZIR cs
 |1,cs=>ZHX cs
 |2,cs=>ZIn cs
 |3,cs=>ZJi cs
 |4,cs=>ZGa cs
 |5,cs=>ZCf cs
 |6,cs=>ZG3 cs
 |7,cs=>ZCe cs
 |8,cs=>ZJW cs
 |9,cs=>ZyD cs
 |10,cs=>ZEU cs
 |11,cs=>ZHU cs
 |12,cs=>ZJh cs
 |13,cs=>ZFe cs
 |14,cs=>ZFL cs
 |15,cs=>ZtY cs
 |_+16,cs=>match cs with | []=>some () |_=>none
def encU:(n:Nat)->ZBM n->P
 |0,x=>ZIr x
 |1,x=>ZFb x
 |2,x=>ZJq x
 |3,x=>ZMI x
 |4,x=>ZKn x
 |5,x=>ZIq x
 |6,x=>ZKD x
 |7,x=>ZIp x
 |8,x=>ZNp x
 |9,x=>ZGL x
 |10,x=>ZJr x
 |11,x=>ZKT x
 |12,x=>ZMH x
 |13,x=>ZJO x
 |14,x=>ZFg x
 |15,x=>ZEz x
 |_+16,_=> .agg []
@[reducible] def U:Zc:=⟨ZBM,Z1n,ZZb,ofU,encU⟩
theorem ZI6 (x:Zz6):ZFg x= .agg ((ZBa x).map U.encL):=by unfold ZFg ZBa;rw[List.map_map];rfl
theorem uok:UOk U where
 of_cells:=fun n a x h=>match n,x,h with
  |0,x,h=>ZKS a x h
  |1,x,h=>ZKj a x h
  |2,x,h=>ZKz a x h
  |3,x,h=>ZLq a x h
  |4,x,h=>ZJN a x h
  |5,x,h=>ZHW a x h
  |6,x,h=>ZJX a x h
  |7,x,h=>ZHV a x h
  |8,x,h=>ZLS a x h
  |9,x,h=>ZFU a x h
  |10,x,h=>ZIQ a x h
  |11,x,h=>ZKi a x h
  |12,x,h=>ZLp a x h
  |13,x,h=>ZI5 a x h
  |14,x,h=>ZJg a x h
  |15,x,h=>ZDG a x h
  |_+16,x,h=>by
   match a,h with
   | [],h=>rfl
 enc_cells:=fun n x=>match n,x with
  |0,x=>rfl
  |1,x=>rfl
  |2,x=>rfl
  |3,x=>rfl
  |4,x=>rfl
  |5,x=>rfl
  |6,x=>rfl
  |7,x=>rfl
  |8,x=>rfl
  |9,x=>rfl
  |10,x=>rfl
  |11,x=>rfl
  |12,x=>rfl
  |13,x=>rfl
  |14,x=>ZI6 x
  |15,x=>rfl
  |_+16,x=>rfl
 len:=fun n x=>match n,x with
  |0,x=>rfl
  |1,x=>rfl
  |2,x=>rfl
  |3,x=>rfl
  |4,x=>rfl
  |5,x=>rfl
  |6,x=>rfl
  |7,x=>rfl
  |8,x=>rfl
  |9,x=>rfl
  |10,x=>rfl
  |11,x=>rfl
  |12,x=>rfl
  |13,x=>rfl
  |14,x=>(List.length_map ..).trans x.2
  |15,x=>rfl
  |_+16,x=>rfl
noncomputable def tt0:List (Option (TT U)):=[
 none,
 some ⟨⟨.func,1,8,[.p .nilfn]⟩,none,.fnc,[.nilfn],some ⟨.fnc,(none:Option Nat)⟩⟩,
 some ⟨⟨.int .i64,1,8,[.p (.int .i64 0)]⟩,none,(.int .i64),[.v (.int .i64) (0:Int)],some ⟨(.int .i64),(0:Int)⟩⟩,
 some ⟨⟨.int .i64,1,8,[.p (.int .i64 0)]⟩,none,(.int .i64),[.v (.int .i64) (0:Int)],some ⟨(.int .i64),(0:Int)⟩⟩,
 some ⟨⟨.bool,1,1,[.p (.bool false)]⟩,none,.bool,[.v .bool false],some ⟨.bool,false⟩⟩,
 some ⟨⟨.int .u8,1,1,[.p (.int .u8 0)]⟩,none,(.int .u8),[.v (.int .u8) (0:Int)],some ⟨(.int .u8),(0:Int)⟩⟩,
 none,
 none,
 none,
 some ⟨⟨.str,1,16,[.p (.str [])]⟩,none,.str,[.v .str ([]:Str)],some ⟨.str,([]:Str)⟩⟩,
 none,
 none,
 some ⟨⟨.int .u64,1,8,[.p (.int .u64 0)]⟩,none,(.int .u64),[.v (.int .u64) (0:Int)],some ⟨(.int .u64),(0:Int)⟩⟩,
 none,
 none,
 none,
 none,
 none,
 none,
 none,
 none,
 none,
 some ⟨⟨.sl 3,1,24,[.nils 1]⟩,none,(.sl (.int .i64)),[.nils (.int .i64)],some ⟨(.sl (.int .i64)),[]⟩⟩,
 some ⟨⟨.sl 28,1,24,[.nils 3]⟩,none,(.sl (.st 2)),[.nils (.st 2)],some ⟨(.sl (.st 2)),[]⟩⟩,
 none,
 none,
 some ⟨⟨.sl 31,1,24,[.nils 2]⟩,none,(.sl (.st 1)),[.nils (.st 1)],some ⟨(.sl (.st 1)),[]⟩⟩,
 some ⟨⟨.struct [(0,3),(1,9),(2,26)],3,48,[.p (.int .i64 0),.p (.str []),.nils 2]⟩,some 2,(.st 2),[.v (.int .i64) (0:Int),.v .str ([]:Str),.nils (.st 1)],some ⟨(.st 2),(G_api_Table.mk 0 ([]:Str) ([]:(List G_api_Column)))⟩⟩,
 some ⟨⟨.struct [(0,3),(1,9),(2,26)],3,48,[.p (.int .i64 0),.p (.str []),.nils 2]⟩,some 2,(.st 2),[.v (.int .i64) (0:Int),.v .str ([]:Str),.nils (.st 1)],some ⟨(.st 2),(G_api_Table.mk 0 ([]:Str) ([]:(List G_api_Column)))⟩⟩,
 some ⟨⟨.sl 39,1,24,[.nils 2]⟩,none,(.sl (.st 0)),[.nils (.st 0)],some ⟨(.sl (.st 0)),[]⟩⟩,
 some ⟨⟨.struct [(0,9),(1,29)],2,40,[.p (.str []),.nils 2]⟩,some 1,(.st 1),[.v .str ([]:Str),.nils (.st 0)],some ⟨(.st 1),(G_api_Column.mk ([]:Str) ([]:(List G_api_Cell)))⟩⟩,
 some ⟨⟨.struct [(0,9),(1,29)],2,40,[.p (.str []),.nils 2]⟩,some 1,(.st 1),[.v .str ([]:Str),.nils (.st 0)],some ⟨(.st 1),(G_api_Column.mk ([]:Str) ([]:(List G_api_Cell)))⟩⟩,
 some ⟨⟨.ptr 66,1,8,[.p .nilp]⟩,none,.bool,[.nilp],none⟩,
 none,
 none,
 none,
 none,
 none,
 some ⟨⟨.struct [(0,4),(1,9)],2,24,[.p (.bool false),.p (.str [])]⟩,some 0,(.st 0),[.v .bool false,.v .str ([]:Str)],some ⟨(.st 0),(G_api_Cell.mk false ([]:Str))⟩⟩,
 some ⟨⟨.struct [(0,4),(1,9)],2,24,[.p (.bool false),.p (.str [])]⟩,some 0,(.st 0),[.v .bool false,.v .str ([]:Str)],some ⟨(.st 0),(G_api_Cell.mk false ([]:Str))⟩⟩,
 none,
 some ⟨⟨.sl 48,1,24,[.nils 8]⟩,none,(.sl (.st 5)),[.nils (.st 5)],some ⟨(.sl (.st 5)),[]⟩⟩,
 none,
 some ⟨⟨.sl 109,1,24,[.nils 1]⟩,none,(.sl (.int .u32)),[.nils (.int .u32)],some ⟨(.sl (.int .u32)),[]⟩⟩,
 some ⟨⟨.struct [(0,4),(1,43)],2,32,[.p (.bool false),.nils 1]⟩,some 3,(.st 3),[.v .bool false,.nils (.int .u32)],some ⟨(.st 3),(ZnP.mk false ([]:(List Int)))⟩⟩,
 some ⟨⟨.struct [(0,4),(1,43)],2,32,[.p (.bool false),.nils 1]⟩,some 3,(.st 3),[.v .bool false,.nils (.int .u32)],some ⟨(.st 3),(ZnP.mk false ([]:(List Int)))⟩⟩,
 some ⟨⟨.struct [(0,45),(2,45)],4,64,[.p (.bool false),.nils 1,.p (.bool false),.nils 1]⟩,some 4,(.st 4),[.v .bool false,.nils (.int .u32),.v .bool false,.nils (.int .u32)],some ⟨(.st 4),(ZnK.mk (ZnP.mk false ([]:(List Int))) (ZnP.mk false ([]:(List Int))))⟩⟩,
 some ⟨⟨.struct [(0,45),(2,45)],4,64,[.p (.bool false),.nils 1,.p (.bool false),.nils 1]⟩,some 4,(.st 4),[.v .bool false,.nils (.int .u32),.v .bool false,.nils (.int .u32)],some ⟨(.st 4),(ZnK.mk (ZnP.mk false ([]:(List Int))) (ZnP.mk false ([]:(List Int))))⟩⟩,
 some ⟨⟨.arr 2 47,8,128,[.p (.bool false),.nils 1,.p (.bool false),.nils 1,.p (.bool false),.nils 1,.p (.bool false),.nils 1]⟩,some 5,(.st 5),[.v .bool false,.nils (.int .u32),.v .bool false,.nils (.int .u32),.v .bool false,.nils (.int .u32),.v .bool false,.nils (.int .u32)],some ⟨(.st 5),(ZnV.mk (ZnK.mk (ZnP.mk false ([]:(List Int))) (ZnP.mk false ([]:(List Int)))) (ZnK.mk (ZnP.mk false ([]:(List Int))) (ZnP.mk false ([]:(List Int)))))⟩⟩,
 none,
 some ⟨⟨.sl 23,1,24,[.nils 1]⟩,none,(.sl (.sl (.st 2))),[.nils (.sl (.st 2))],some ⟨(.sl (.sl (.st 2))),[]⟩⟩,
 none,
 some ⟨⟨.sl 84,1,24,[.nils 10]⟩,none,(.sl (.st 13)),[.nils (.st 13)],some ⟨(.sl (.st 13)),[]⟩⟩,
 some ⟨⟨.int .i64,1,8,[.p (.int .i64 0)]⟩,none,(.int .i64),[.v (.int .i64) (0:Int)],some ⟨(.int .i64),(0:Int)⟩⟩,
 none,
 none,
 none,
 none,
 none,
 none,
 some ⟨⟨.struct [(0,3),(1,47),(5,47),(9,47),(13,47),(17,47)],21,328,[.p (.int .i64 0),.p (.bool false),.nils 1,.p (.bool false),.nils 1,.p (.bool false),.nils 1,.p (.bool false),.nils 1,.p (.bool false),.nils 1,.p (.bool false),.nils 1,.p (.bool false),.nils 1,.p (.bool false),.nils 1,.p (.bool false),.nils 1,.p (.bool false),.nils 1]⟩,some 6,(.st 6),[.v (.int .i64) (0:Int),.v .bool false,.nils (.int .u32),.v .bool false,.nils (.int .u32),.v .bool false,.nils (.int .u32),.v .bool false,.nils (.int .u32),.v .bool false,.nils (.int .u32),.v .bool false,.nils (.int .u32),.v .bool false,.nils (.int .u32),.v .bool false,.nils (.int .u32),.v .bool false,.nils (.int .u32),.v .bool false,.nils (.int .u32)],some ⟨(.st 6),(Zn0.mk 0 (ZnK.mk (ZnP.mk false ([]:(List Int))) (ZnP.mk false ([]:(List Int)))) (ZnK.mk (ZnP.mk false ([]:(List Int))) (ZnP.mk false ([]:(List Int)))) (ZnK.mk (ZnP.mk false ([]:(List Int))) (ZnP.mk false ([]:(List Int)))) (ZnK.mk (ZnP.mk false ([]:(List Int))) (ZnP.mk false ([]:(List Int)))) (ZnK.mk (ZnP.mk false ([]:(List Int))) (ZnP.mk false ([]:(List Int)))))⟩⟩,
 some ⟨⟨.struct [(0,3),(1,47),(5,47),(9,47),(13,47),(17,47)],21,328,[.p (.int .i64 0),.p (.bool false),.nils 1,.p (.bool false),.nils 1,.p (.bool false),.nils 1,.p (.bool false),.nils 1,.p (.bool false),.nils 1,.p (.bool false),.nils 1,.p (.bool false),.nils 1,.p (.bool false),.nils 1,.p (.bool false),.nils 1,.p (.bool false),.nils 1]⟩,some 6,(.st 6),[.v (.int .i64) (0:Int),.v .bool false,.nils (.int .u32),.v .bool false,.nils (.int .u32),.v .bool false,.nils (.int .u32),.v .bool false,.nils (.int .u32),.v .bool false,.nils (.int .u32),.v .bool false,.nils (.int .u32),.v .bool false,.nils (.int .u32),.v .bool false,.nils (.int .u32),.v .bool false,.nils (.int .u32),.v .bool false,.nils (.int .u32)],some ⟨(.st 6),(Zn0.mk 0 (ZnK.mk (ZnP.mk false ([]:(List Int))) (ZnP.mk false ([]:(List Int)))) (ZnK.mk (ZnP.mk false ([]:(List Int))) (ZnP.mk false ([]:(List Int)))) (ZnK.mk (ZnP.mk false ([]:(List Int))) (ZnP.mk false ([]:(List Int)))) (ZnK.mk (ZnP.mk false ([]:(List Int))) (ZnP.mk false ([]:(List Int)))) (ZnK.mk (ZnP.mk false ([]:(List Int))) (ZnP.mk false ([]:(List Int)))))⟩⟩,
 none,
 none,
 none,
 some ⟨⟨.struct [(0,22),(1,3)],2,32,[.nils 1,.p (.int .i64 0)]⟩,some 7,(.st 7),[.nils (.int .i64),.v (.int .i64) (0:Int)],some ⟨(.st 7),(ZnJ.mk ([]:(List Int)) 0)⟩⟩,
 some ⟨⟨.struct [(0,22),(1,3)],2,32,[.nils 1,.p (.int .i64 0)]⟩,some 7,(.st 7),[.nils (.int .i64),.v (.int .i64) (0:Int)],some ⟨(.st 7),(ZnJ.mk ([]:(List Int)) 0)⟩⟩,
 none,
 none,
 none,
 some ⟨⟨.sl 9,1,24,[.nils 1]⟩,none,(.sl .str),[.nils .str],some ⟨(.sl .str),[]⟩⟩,
 none,
 some ⟨⟨.sl 76,1,24,[.nils 7]⟩,none,(.sl (.st 10)),[.nils (.st 10)],some ⟨(.sl (.st 10)),[]⟩⟩,
 none,
 some ⟨⟨.int .u64,1,8,[.p (.int .u64 0)]⟩,none,(.int .u64),[.v (.int .u64) (0:Int)],some ⟨(.int .u64),(0:Int)⟩⟩,
 some ⟨⟨.struct [(0,9),(1,74),(2,3),(3,47)],7,96,[.p (.str []),.p (.int .u64 0),.p (.int .i64 0),.p (.bool false),.nils 1,.p (.bool false),.nils 1]⟩,some 10,(.st 10),[.v .str ([]:Str),.v (.int .u64) (0:Int),.v (.int .i64) (0:Int),.v .bool false,.nils (.int .u32),.v .bool false,.nils (.int .u32)],some ⟨(.st 10),(ZnM.mk ([]:Str) 0 0 (ZnK.mk (ZnP.mk false ([]:(List Int))) (ZnP.mk false ([]:(List Int)))))⟩⟩,
 some ⟨⟨.struct [(0,9),(1,74),(2,3),(3,47)],7,96,[.p (.str []),.p (.int .u64 0),.p (.int .i64 0),.p (.bool false),.nils 1,.p (.bool false),.nils 1]⟩,some 10,(.st 10),[.v .str ([]:Str),.v (.int .u64) (0:Int),.v (.int .i64) (0:Int),.v .bool false,.nils (.int .u32),.v .bool false,.nils (.int .u32)],some ⟨(.st 10),(ZnM.mk ([]:Str) 0 0 (ZnK.mk (ZnP.mk false ([]:(List Int))) (ZnP.mk false ([]:(List Int)))))⟩⟩,
 none,
 none,
 none,
 none,
 some ⟨⟨.struct [(0,3),(1,3)],2,16,[.p (.int .i64 0),.p (.int .i64 0)]⟩,some 12,(.st 12),[.v (.int .i64) (0:Int),.v (.int .i64) (0:Int)],some ⟨(.st 12),(Zph.mk 0 0)⟩⟩,
 some ⟨⟨.struct [(0,3),(1,3)],2,16,[.p (.int .i64 0),.p (.int .i64 0)]⟩,some 12,(.st 12),[.v (.int .i64) (0:Int),.v (.int .i64) (0:Int)],some ⟨(.st 12),(Zph.mk 0 0)⟩⟩,
 some ⟨⟨.struct [(0,82),(2,82),(4,47),(8,3),(9,3)],10,112,[.p (.int .i64 0),.p (.int .i64 0),.p (.int .i64 0),.p (.int .i64 0),.p (.bool false),.nils 1,.p (.bool false),.nils 1,.p (.int .i64 0),.p (.int .i64 0)]⟩,some 13,(.st 13),[.v (.int .i64) (0:Int),.v (.int .i64) (0:Int),.v (.int .i64) (0:Int),.v (.int .i64) (0:Int),.v .bool false,.nils (.int .u32),.v .bool false,.nils (.int .u32),.v (.int .i64) (0:Int),.v (.int .i64) (0:Int)],some ⟨(.st 13),(ZnX.mk (Zph.mk 0 0) (Zph.mk 0 0) (ZnK.mk (ZnP.mk false ([]:(List Int))) (ZnP.mk false ([]:(List Int)))) 0 0)⟩⟩,
 some ⟨⟨.struct [(0,82),(2,82),(4,47),(8,3),(9,3)],10,112,[.p (.int .i64 0),.p (.int .i64 0),.p (.int .i64 0),.p (.int .i64 0),.p (.bool false),.nils 1,.p (.bool false),.nils 1,.p (.int .i64 0),.p (.int .i64 0)]⟩,some 13,(.st 13),[.v (.int .i64) (0:Int),.v (.int .i64) (0:Int),.v (.int .i64) (0:Int),.v (.int .i64) (0:Int),.v .bool false,.nils (.int .u32),.v .bool false,.nils (.int .u32),.v (.int .i64) (0:Int),.v (.int .i64) (0:Int)],some ⟨(.st 13),(ZnX.mk (Zph.mk 0 0) (Zph.mk 0 0) (ZnK.mk (ZnP.mk false ([]:(List Int))) (ZnP.mk false ([]:(List Int)))) 0 0)⟩⟩,
 none,
 some ⟨⟨.func,1,8,[.p .nilfn]⟩,none,.fnc,[.nilfn],some ⟨.fnc,(none:Option Nat)⟩⟩,
 none,
 none,
 none,
 none,
 none,
 none,
 none,
 none,
 none,
 none,
 some ⟨⟨.struct [(0,3),(1,3),(2,9),(3,22)],4,56,[.p (.int .i64 0),.p (.int .i64 0),.p (.str []),.nils 1]⟩,some 8,(.st 8),[.v (.int .i64) (0:Int),.v (.int .i64) (0:Int),.v .str ([]:Str),.nils (.int .i64)],some ⟨(.st 8),(Zn6.mk 0 0 ([]:Str) ([]:(List Int)))⟩⟩,
 some ⟨⟨.struct [(0,3),(1,3),(2,9),(3,22)],4,56,[.p (.int .i64 0),.p (.int .i64 0),.p (.str []),.nils 1]⟩,some 8,(.st 8),[.v (.int .i64) (0:Int),.v (.int .i64) (0:Int),.v .str ([]:Str),.nils (.int .i64)],some ⟨(.st 8),(Zn6.mk 0 0 ([]:Str) ([]:(List Int)))⟩⟩,
 none,
 some ⟨⟨.sl 98,1,24,[.nils 4]⟩,none,(.sl (.st 8)),[.nils (.st 8)],some ⟨(.sl (.st 8)),[]⟩⟩,
 none,
 none,
 none,
 some ⟨⟨.func,1,8,[.p .nilfn]⟩,none,.fnc,[.nilfn],some ⟨.fnc,(none:Option Nat)⟩⟩,
 none,
 none,
 none,
 none,
 some ⟨⟨.int .u32,1,4,[.p (.int .u32 0)]⟩,none,(.int .u32),[.v (.int .u32) (0:Int)],some ⟨(.int .u32),(0:Int)⟩⟩,
 none,
 none,
 none,
 none,
 some ⟨⟨.func,1,8,[.p .nilfn]⟩,none,.fnc,[.nilfn],some ⟨.fnc,(none:Option Nat)⟩⟩,
 none,
 none,
 none,
 none,
 none,
 none,
 none,
 none,
 some ⟨⟨.map 9 3,1,8,[.p (.map (.str) [])]⟩,none,(.map .str (.int .i64)),[.v (.map .str (.int .i64)) []],some ⟨(.map .str (.int .i64)),[]⟩⟩,
 none,
 none,
 none,
 some ⟨⟨.int .u64,1,8,[.p (.int .u64 0)]⟩,none,(.int .u64),[.v (.int .u64) (0:Int)],some ⟨(.int .u64),(0:Int)⟩⟩,
 none,
 none,
 none,
 none,
 none,
 none,
 some ⟨⟨.func,1,8,[.p .nilfn]⟩,none,.fnc,[.nilfn],some ⟨.fnc,(none:Option Nat)⟩⟩,
 none,
 none,
 none,
 none,
 some ⟨⟨.func,1,8,[.p .nilfn]⟩,none,.fnc,[.nilfn],some ⟨.fnc,(none:Option Nat)⟩⟩,
 some ⟨⟨.func,1,8,[.p .nilfn]⟩,none,.fnc,[.nilfn],some ⟨.fnc,(none:Option Nat)⟩⟩,
 none,
 none,
 none,
 none,
 none,
 some ⟨⟨.sl 5,1,24,[.nils 1]⟩,none,(.sl (.int .u8)),[.nils (.int .u8)],some ⟨(.sl (.int .u8)),[]⟩⟩,
 none,
 none,
 none,
 some ⟨⟨.func,1,8,[.p .nilfn]⟩,none,.fnc,[.nilfn],some ⟨.fnc,(none:Option Nat)⟩⟩,
 some ⟨⟨.int .i64,1,8,[.p (.int .i64 0)]⟩,none,(.int .i64),[.v (.int .i64) (0:Int)],some ⟨(.int .i64),(0:Int)⟩⟩,
 none,
 none,
 none,
 none,
 none,
 none,
 none,
 none,
 none,
 none,
 none,
 some ⟨⟨.func,1,8,[.p .nilfn]⟩,none,.fnc,[.nilfn],some ⟨.fnc,(none:Option Nat)⟩⟩,
 none,
 none,
 none,
 some ⟨⟨.func,1,8,[.p .nilfn]⟩,none,.fnc,[.nilfn],some ⟨.fnc,(none:Option Nat)⟩⟩,
 none,
 none,
 none,
 none,
 none,
 none,
 none,
 none,
 none,
 none,
 some ⟨⟨.sl 109,1,24,[.nils 1]⟩,none,(.sl (.int .u32)),[.nils (.int .u32)],some ⟨(.sl (.int .u32)),[]⟩⟩,
 none,
 none,
 none,
 none,
 none,
 none,
 none,
 none,
 none,
 none,
 none,
 none,
 some ⟨⟨.func,1,8,[.p .nilfn]⟩,none,.fnc,[.nilfn],some ⟨.fnc,(none:Option Nat)⟩⟩,
 some ⟨⟨.struct [(0,9),(1,191),(2,163)],3,32,[.p (.str []),.p .nilfn,.p .nilfn]⟩,some 11,(.st 11),[.v .str ([]:Str),.nilfn,.nilfn],some ⟨(.st 11),(Zrg.mk ([]:Str) (none:Option Nat) (none:Option Nat))⟩⟩,
 some ⟨⟨.struct [(0,9),(1,191),(2,163)],3,32,[.p (.str []),.p .nilfn,.p .nilfn]⟩,some 11,(.st 11),[.v .str ([]:Str),.nilfn,.nilfn],some ⟨(.st 11),(Zrg.mk ([]:Str) (none:Option Nat) (none:Option Nat))⟩⟩,
 some ⟨⟨.map 3 193,1,8,[.p (.map (.int .i64) [])]⟩,none,(.map (.int .i64) (.st 11)),[.v (.map (.int .i64) (.st 11)) []],some ⟨(.map (.int .i64) (.st 11)),[]⟩⟩,
 none,
 none,
 some ⟨⟨.int .u64,1,8,[.p (.int .u64 0)]⟩,none,(.int .u64),[.v (.int .u64) (0:Int)],some ⟨(.int .u64),(0:Int)⟩⟩,
 none,
 none,
 none,
 some ⟨⟨.ptr 3,1,8,[.p .nilp]⟩,none,.bool,[.nilp],none⟩,
 none,
 none,
 none,
 none,
 none,
 none,
 none,
 none,
 none,
 none,
 none,
 none,
 some ⟨⟨.sl 45,1,24,[.nils 2]⟩,none,(.sl (.st 3)),[.nils (.st 3)],some ⟨(.sl (.st 3)),[]⟩⟩,
 none,
 none,
 none,
 none,
 none,
 none,
 none,
 none,
 none,
 some ⟨⟨.ptr 197,1,8,[.p .nilp]⟩,none,.bool,[.nilp],none⟩,
 none,
 none,
 none,
 none,
 some ⟨⟨.arr 256 5,256,256,[.p (.int .u8 0),.p (.int .u8 0),.p (.int .u8 0),.p (.int .u8 0),.p (.int .u8 0),.p (.int .u8 0),.p (.int .u8 0),.p (.int .u8 0),.p (.int .u8 0),.p (.int .u8 0),.p (.int .u8 0),.p (.int .u8 0),.p (.int .u8 0),.p (.int .u8 0),.p (.int .u8 0),.p (.int .u8 0),.p (.int .u8 0),.p (.int .u8 0),.p (.int .u8 0),.p (.int .u8 0),.p (.int .u8 0),.p (.int .u8 0),.p (.int .u8 0),.p (.int .u8 0),.p (.int .u8 0),.p (.int .u8 0),.p (.int .u8 0),.p (.int .u8 0),.p (.int .u8 0),.p (.int .u8 0),.p (.int .u8 0),.p (.int .u8 0),.p (.int .u8 0),.p (.int .u8 0),.p (.int .u8 0),.p (.int .u8 0),.p (.int .u8 0),.p (.int .u8 0),.p (.int .u8 0),.p (.int .u8 0),.p (.int .u8 0),.p (.int .u8 0),.p (.int .u8 0),.p (.int .u8 0),.p (.int .u8 0),.p (.int .u8 0),.p (.int .u8 0),.p (.int .u8 0),.p (.int .u8 0),.p (.int .u8 0),.p (.int .u8 0),.p (.int .u8 0),.p (.int .u8 0),.p (.int .u8 0),.p (.int .u8 0),.p (.int .u8 0),.p (.int .u8 0),.p (.int .u8 0),.p (.int .u8 0),.p (.int .u8 0),.p (.int .u8 0),.p (.int .u8 0),.p (.int .u8 0),.p (.int .u8 0),.p (.int .u8 0),.p (.int .u8 0),.p (.int .u8 0),.p (.int .u8 0),.p (.int .u8 0),.p (.int .u8 0),.p (.int .u8 0),.p (.int .u8 0),.p (.int .u8 0),.p (.int .u8 0),.p (.int .u8 0),.p (.int .u8 0),.p (.int .u8 0),.p (.int .u8 0),.p (.int .u8 0),.p (.int .u8 0),.p (.int .u8 0),.p (.int .u8 0),.p (.int .u8 0),.p (.int .u8 0),.p (.int .u8 0),.p (.int .u8 0),.p (.int .u8 0),.p (.int .u8 0),.p (.int .u8 0),.p (.int .u8 0),.p (.int .u8 0),.p (.int .u8 0),.p (.int .u8 0),.p (.int .u8 0),.p (.int .u8 0),.p (.int .u8 0),.p (.int .u8 0),.p (.int .u8 0),.p (.int .u8 0),.p (.int .u8 0),.p (.int .u8 0),.p (.int .u8 0),.p (.int .u8 0),.p (.int .u8 0),.p (.int .u8 0),.p (.int .u8 0),.p (.int .u8 0),.p (.int .u8 0),.p (.int .u8 0),.p (.int .u8 0),.p (.int .u8 0),.p (.int .u8 0),.p (.int .u8 0),.p (.int .u8 0),.p (.int .u8 0),.p (.int .u8 0),.p (.int .u8 0),.p (.int .u8 0),.p (.int .u8 0),.p (.int .u8 0),.p (.int .u8 0),.p (.int .u8 0),.p (.int .u8 0),.p (.int .u8 0),.p (.int .u8 0),.p (.int .u8 0),.p (.int .u8 0),.p (.int .u8 0),.p (.int .u8 0),.p (.int .u8 0),.p (.int .u8 0),.p (.int .u8 0),.p (.int .u8 0),.p (.int .u8 0),.p (.int .u8 0),.p (.int .u8 0),.p (.int .u8 0),.p (.int .u8 0),.p (.int .u8 0),.p (.int .u8 0),.p (.int .u8 0),.p (.int .u8 0),.p (.int .u8 0),.p (.int .u8 0),.p (.int .u8 0),.p (.int .u8 0),.p (.int .u8 0),.p (.int .u8 0),.p (.int .u8 0),.p (.int .u8 0),.p (.int .u8 0),.p (.int .u8 0),.p (.int .u8 0),.p (.int .u8 0),.p (.int .u8 0),.p (.int .u8 0),.p (.int .u8 0),.p (.int .u8 0),.p (.int .u8 0),.p (.int .u8 0),.p (.int .u8 0),.p (.int .u8 0),.p (.int .u8 0),.p (.int .u8 0),.p (.int .u8 0),.p (.int .u8 0),.p (.int .u8 0),.p (.int .u8 0),.p (.int .u8 0),.p (.int .u8 0),.p (.int .u8 0),.p (.int .u8 0),.p (.int .u8 0),.p (.int .u8 0),.p (.int .u8 0),.p (.int .u8 0),.p (.int .u8 0),.p (.int .u8 0),.p (.int .u8 0),.p (.int .u8 0),.p (.int .u8 0),.p (.int .u8 0),.p (.int .u8 0),.p (.int .u8 0),.p (.int .u8 0),.p (.int .u8 0),.p (.int .u8 0),.p (.int .u8 0),.p (.int .u8 0),.p (.int .u8 0),.p (.int .u8 0),.p (.int .u8 0),.p (.int .u8 0),.p (.int .u8 0),.p (.int .u8 0),.p (.int .u8 0),.p (.int .u8 0),.p (.int .u8 0),.p (.int .u8 0),.p (.int .u8 0),.p (.int .u8 0),.p (.int .u8 0),.p (.int .u8 0),.p (.int .u8 0),.p (.int .u8 0),.p (.int .u8 0),.p (.int .u8 0),.p (.int .u8 0),.p (.int .u8 0),.p (.int .u8 0),.p (.int .u8 0),.p (.int .u8 0),.p (.int .u8 0),.p (.int .u8 0),.p (.int .u8 0),.p (.int .u8 0),.p (.int .u8 0),.p (.int .u8 0),.p (.int .u8 0),.p (.int .u8 0),.p (.int .u8 0),.p (.int .u8 0),.p (.int .u8 0),.p (.int .u8 0),.p (.int .u8 0),.p (.int .u8 0),.p (.int .u8 0),.p (.int .u8 0),.p (.int .u8 0),.p (.int .u8 0),.p (.int .u8 0),.p (.int .u8 0),.p (.int .u8 0),.p (.int .u8 0),.p (.int .u8 0),.p (.int .u8 0),.p (.int .u8 0),.p (.int .u8 0),.p (.int .u8 0),.p (.int .u8 0),.p (.int .u8 0),.p (.int .u8 0),.p (.int .u8 0),.p (.int .u8 0),.p (.int .u8 0),.p (.int .u8 0),.p (.int .u8 0),.p (.int .u8 0),.p (.int .u8 0),.p (.int .u8 0),.p (.int .u8 0),.p (.int .u8 0),.p (.int .u8 0),.p (.int .u8 0),.p (.int .u8 0),.p (.int .u8 0)]⟩,some 14,(.st 14),List.replicate 256 (.v (.int .u8) (0:Int)),some ⟨(.st 14),(⟨List.replicate 256 (0:Int),List.length_replicate⟩:Zz6)⟩⟩,
 some ⟨⟨.struct [(0,5),(1,5)],2,2,[.p (.int .u8 0),.p (.int .u8 0)]⟩,some 9,(.st 9),[.v (.int .u8) (0:Int),.v (.int .u8) (0:Int)],some ⟨(.st 9),(ZnQ.mk 0 0)⟩⟩,
 some ⟨⟨.struct [(0,5),(1,5)],2,2,[.p (.int .u8 0),.p (.int .u8 0)]⟩,some 9,(.st 9),[.v (.int .u8) (0:Int),.v (.int .u8) (0:Int)],some ⟨(.st 9),(ZnQ.mk 0 0)⟩⟩,
 some ⟨⟨.arr 16 231,32,32,[.p (.int .u8 0),.p (.int .u8 0),.p (.int .u8 0),.p (.int .u8 0),.p (.int .u8 0),.p (.int .u8 0),.p (.int .u8 0),.p (.int .u8 0),.p (.int .u8 0),.p (.int .u8 0),.p (.int .u8 0),.p (.int .u8 0),.p (.int .u8 0),.p (.int .u8 0),.p (.int .u8 0),.p (.int .u8 0),.p (.int .u8 0),.p (.int .u8 0),.p (.int .u8 0),.p (.int .u8 0),.p (.int .u8 0),.p (.int .u8 0),.p (.int .u8 0),.p (.int .u8 0),.p (.int .u8 0),.p (.int .u8 0),.p (.int .u8 0),.p (.int .u8 0),.p (.int .u8 0),.p (.int .u8 0),.p (.int .u8 0),.p (.int .u8 0)]⟩,some 15,(.st 15),[.v (.int .u8) (0:Int),.v (.int .u8) (0:Int),.v (.int .u8) (0:Int),.v (.int .u8) (0:Int),.v (.int .u8) (0:Int),.v (.int .u8) (0:Int),.v (.int .u8) (0:Int),.v (.int .u8) (0:Int),.v (.int .u8) (0:Int),.v (.int .u8) (0:Int),.v (.int .u8) (0:Int),.v (.int .u8) (0:Int),.v (.int .u8) (0:Int),.v (.int .u8) (0:Int),.v (.int .u8) (0:Int),.v (.int .u8) (0:Int),.v (.int .u8) (0:Int),.v (.int .u8) (0:Int),.v (.int .u8) (0:Int),.v (.int .u8) (0:Int),.v (.int .u8) (0:Int),.v (.int .u8) (0:Int),.v (.int .u8) (0:Int),.v (.int .u8) (0:Int),.v (.int .u8) (0:Int),.v (.int .u8) (0:Int),.v (.int .u8) (0:Int),.v (.int .u8) (0:Int),.v (.int .u8) (0:Int),.v (.int .u8) (0:Int),.v (.int .u8) (0:Int),.v (.int .u8) (0:Int)],some ⟨(.st 15),(ZoS.mk (ZnQ.mk 0 0) (ZnQ.mk 0 0) (ZnQ.mk 0 0) (ZnQ.mk 0 0) (ZnQ.mk 0 0) (ZnQ.mk 0 0) (ZnQ.mk 0 0) (ZnQ.mk 0 0) (ZnQ.mk 0 0) (ZnQ.mk 0 0) (ZnQ.mk 0 0) (ZnQ.mk 0 0) (ZnQ.mk 0 0) (ZnQ.mk 0 0) (ZnQ.mk 0 0) (ZnQ.mk 0 0))⟩⟩,
 none,
 none,
 none,
 none,
 none,
 none,
 none,
 none,
 none,
 none,
 none,
 none,
 none,
 none,
 none,
 none,
 none,
 none,
 none,
 none,
 none,
 none,
 none,
 none,
 none,
 none,
 none,
 none,
 none,
 none,
 none,
 none,
 none,
 none,
 none,
 none,
 none,
 none,
 none,
 none,
 none,
 none,
 none,
 none,
 none,
 none,
 none,
 none,
 none,
 none,
 none,
 none,
 none,
 none,
 none,
 none,
 none,
 none,
 none,
 none,
 none,
 none,
 none,
 none,
 none,
 none,
 none,
 none,
 none,
 none,
 none,
 none,
 none,
 none,
 none,
 none,
 none,
 none,
 none,
 none,
 none,
 none,
 none,
 none,
 none,
 none,
 none]
noncomputable def X0:ZG U:=⟨Tryz.prog,tt0,[(1,ZKC),(2,ZFp),(3,ZFN),(4,ZwY)],0⟩
theorem tok0:TOk X0:=tok_of (by kernel_rfl) (by kernel_rfl) (by kernel_rfl)
theorem eok0:Zl X0.E:=⟨by kernel_rfl⟩
theorem mixed:X0.prog.follows .mixedOrders=true:=by kernel_rfl
theorem G0:Gnd X0:=⟨uok,tok0,eok0,mixed⟩
noncomputable def ZG7:Zkh U:=⟨Str,[3],[.p],[none],[.p (.int .i64)],fun v=>ZC0 v.1,fun q=>⟨[.p ⟨.str,q⟩],[]⟩⟩
noncomputable def ZG6:Zkh U:=⟨Str,[9,9],[.p,.p],[none,none],[.p .str,.p .str],fun v=>ZE2 v.1 v.2.1,fun q=>⟨[.p ⟨.str,q⟩],[]⟩⟩
noncomputable def ZAt:Zkh U:=⟨Int,[9,5],[.p,.p],[none,none],[.p .str,.p (.int .u8)],fun v=>ZsW v.1 v.2.1,fun q=>⟨[.p ⟨(.int .i64),q⟩],[]⟩⟩
noncomputable def ZHd:Zkh U:=⟨Str,[9,9],[.p,.p],[none,none],[.p .str,.p .str],fun v=>ZDz v.1 v.2.1,fun q=>⟨[.p ⟨.str,q⟩],[]⟩⟩
noncomputable def ZGM:Zkh U:=⟨Str,[9,9],[.p,.p],[none,none],[.p .str,.p .str],fun v=>ZFc v.1 v.2.1,fun q=>⟨[.p ⟨.str,q⟩],[]⟩⟩
noncomputable def ZAu:Zkh U:=⟨Int,[9,9],[.p,.p],[none,none],[.p .str,.p .str],fun v=>Zrc v.1 v.2.1,fun q=>⟨[.p ⟨(.int .i64),q⟩],[]⟩⟩
end Go.Proofs
