/- Printed by wip/tools/tgen.py: tables. -/
import Derived.Test.YtbjnddlpdlfknaaGreatDoorCkS
import Derived.Test.YtbjnddlpdlfknaaGreatDoorProg
import Derived.KernelRfl
set_option linter.unusedVariables false
set_option linter.unusedSimpArgs false
set_option linter.unusedSectionVars false
namespace Go.Proofs
open Go Eng
set_option maxRecDepth 100000
def Zx0 (x:ZnD):List (Lf Zvy):=[⟨.bool,x.Neg⟩,⟨(.sl (.int .u32)),x.Words⟩]
def ZxT:List (Lf Zvy)→Option ZnD
 | [c0,c1]=>(c0.as .bool).bind fun a0=>(c1.as (.sl (.int .u32))).bind fun a1=>some (ZnD.mk a0 a1)
 |_=>none
theorem ZyT (cs:List (Lf Zvy)) (x:ZnD) (h:ZxT cs=some x):Zx0 x=cs:=by unfold ZxT at h;split at h;rotate_left;simp at h;obtain⟨a0,h0,h⟩:=bind_some h;obtain⟨a1,h1,h⟩:=bind_some h;simp only[Option.some.injEq]at h;subst h;rw[as_car h0,as_car h1];rfl
def Zzz (x:ZnD):P:= .agg [.bool x.Neg,.sl 1 (x.Words.map (fun x=> .int .u32 x))]
def Zws (x:ZnC):List (Lf Zvy):=[⟨.bool,x.Num.Neg⟩,⟨(.sl (.int .u32)),x.Num.Words⟩,⟨.bool,x.Den.Neg⟩,⟨(.sl (.int .u32)),x.Den.Words⟩]
def ZvV:List (Lf Zvy)→Option ZnC
 | [c0,c1,c2,c3]=>(c0.as .bool).bind fun a0=>(c1.as (.sl (.int .u32))).bind fun a1=>(c2.as .bool).bind fun a2=>(c3.as (.sl (.int .u32))).bind fun a3=>some (ZnC.mk (ZnD.mk a0 a1) (ZnD.mk a2 a3))
 |_=>none
theorem Zx6 (cs:List (Lf Zvy)) (x:ZnC) (h:ZvV cs=some x):Zws x=cs:=by unfold ZvV at h;split at h;rotate_left;simp at h;obtain⟨a0,h0,h⟩:=bind_some h;obtain⟨a1,h1,h⟩:=bind_some h;obtain⟨a2,h2,h⟩:=bind_some h;obtain⟨a3,h3,h⟩:=bind_some h;simp only[Option.some.injEq]at h;subst h;rw[as_car h0,as_car h1,as_car h2,as_car h3];rfl
def Zyu (x:ZnC):P:= .agg [.bool x.Num.Neg,.sl 1 (x.Num.Words.map (fun x=> .int .u32 x)),.bool x.Den.Neg,.sl 1 (x.Den.Words.map (fun x=> .int .u32 x))]
def ZuK (x:ZnB):List (Lf Zvy):=[⟨.bool,x.e0.Num.Neg⟩,⟨(.sl (.int .u32)),x.e0.Num.Words⟩,⟨.bool,x.e0.Den.Neg⟩,⟨(.sl (.int .u32)),x.e0.Den.Words⟩,⟨.bool,x.e1.Num.Neg⟩,⟨(.sl (.int .u32)),x.e1.Num.Words⟩,⟨.bool,x.e1.Den.Neg⟩,⟨(.sl (.int .u32)),x.e1.Den.Words⟩]
def ZtE:List (Lf Zvy)→Option ZnB
 | [c0,c1,c2,c3,c4,c5,c6,c7]=>(c0.as .bool).bind fun a0=>(c1.as (.sl (.int .u32))).bind fun a1=>(c2.as .bool).bind fun a2=>(c3.as (.sl (.int .u32))).bind fun a3=>(c4.as .bool).bind fun a4=>(c5.as (.sl (.int .u32))).bind fun a5=>(c6.as .bool).bind fun a6=>(c7.as (.sl (.int .u32))).bind fun a7=>some (ZnB.mk (ZnC.mk (ZnD.mk a0 a1) (ZnD.mk a2 a3)) (ZnC.mk (ZnD.mk a4 a5) (ZnD.mk a6 a7)))
 |_=>none
theorem Zw2 (cs:List (Lf Zvy)) (x:ZnB) (h:ZtE cs=some x):ZuK x=cs:=by unfold ZtE at h;split at h;rotate_left;simp at h;obtain⟨a0,h0,h⟩:=bind_some h;obtain⟨a1,h1,h⟩:=bind_some h;obtain⟨a2,h2,h⟩:=bind_some h;obtain⟨a3,h3,h⟩:=bind_some h;obtain⟨a4,h4,h⟩:=bind_some h;obtain⟨a5,h5,h⟩:=bind_some h;obtain⟨a6,h6,h⟩:=bind_some h;obtain⟨a7,h7,h⟩:=bind_some h;simp only[Option.some.injEq]at h;subst h;rw[as_car h0,as_car h1,as_car h2,as_car h3,as_car h4,as_car h5,as_car h6,as_car h7];rfl
def Zxq (x:ZnB):P:= .agg [.bool x.e0.Num.Neg,.sl 1 (x.e0.Num.Words.map (fun x=> .int .u32 x)),.bool x.e0.Den.Neg,.sl 1 (x.e0.Den.Words.map (fun x=> .int .u32 x)),.bool x.e1.Num.Neg,.sl 1 (x.e1.Num.Words.map (fun x=> .int .u32 x)),.bool x.e1.Den.Neg,.sl 1 (x.e1.Den.Words.map (fun x=> .int .u32 x))]
def Zw5 (x:ZnO):List (Lf Zvy):=[⟨(.int .i64),x.N⟩,⟨.bool,x.X.Num.Neg⟩,⟨(.sl (.int .u32)),x.X.Num.Words⟩,⟨.bool,x.X.Den.Neg⟩,⟨(.sl (.int .u32)),x.X.Den.Words⟩,⟨.bool,x.Y.Num.Neg⟩,⟨(.sl (.int .u32)),x.Y.Num.Words⟩,⟨.bool,x.Y.Den.Neg⟩,⟨(.sl (.int .u32)),x.Y.Den.Words⟩,⟨.bool,x.XX.Num.Neg⟩,⟨(.sl (.int .u32)),x.XX.Num.Words⟩,⟨.bool,x.XX.Den.Neg⟩,⟨(.sl (.int .u32)),x.XX.Den.Words⟩,⟨.bool,x.YY.Num.Neg⟩,⟨(.sl (.int .u32)),x.YY.Num.Words⟩,⟨.bool,x.YY.Den.Neg⟩,⟨(.sl (.int .u32)),x.YY.Den.Words⟩,⟨.bool,x.XY.Num.Neg⟩,⟨(.sl (.int .u32)),x.XY.Num.Words⟩,⟨.bool,x.XY.Den.Neg⟩,⟨(.sl (.int .u32)),x.XY.Den.Words⟩]
def Zwn:List (Lf Zvy)→Option ZnO
 | [c0,c1,c2,c3,c4,c5,c6,c7,c8,c9,c10,c11,c12,c13,c14,c15,c16,c17,c18,c19,c20]=>(c0.as (.int .i64)).bind fun a0=>(c1.as .bool).bind fun a1=>(c2.as (.sl (.int .u32))).bind fun a2=>(c3.as .bool).bind fun a3=>(c4.as (.sl (.int .u32))).bind fun a4=>(c5.as .bool).bind fun a5=>(c6.as (.sl (.int .u32))).bind fun a6=>(c7.as .bool).bind fun a7=>(c8.as (.sl (.int .u32))).bind fun a8=>(c9.as .bool).bind fun a9=>(c10.as (.sl (.int .u32))).bind fun a10=>(c11.as .bool).bind fun a11=>(c12.as (.sl (.int .u32))).bind fun a12=>(c13.as .bool).bind fun a13=>(c14.as (.sl (.int .u32))).bind fun a14=>(c15.as .bool).bind fun a15=>(c16.as (.sl (.int .u32))).bind fun a16=>(c17.as .bool).bind fun a17=>(c18.as (.sl (.int .u32))).bind fun a18=>(c19.as .bool).bind fun a19=>(c20.as (.sl (.int .u32))).bind fun a20=>some (ZnO.mk a0 (ZnC.mk (ZnD.mk a1 a2) (ZnD.mk a3 a4)) (ZnC.mk (ZnD.mk a5 a6) (ZnD.mk a7 a8)) (ZnC.mk (ZnD.mk a9 a10) (ZnD.mk a11 a12)) (ZnC.mk (ZnD.mk a13 a14) (ZnD.mk a15 a16)) (ZnC.mk (ZnD.mk a17 a18) (ZnD.mk a19 a20)))
 |_=>none
theorem Zyi (cs:List (Lf Zvy)) (x:ZnO) (h:Zwn cs=some x):Zw5 x=cs:=by unfold Zwn at h;split at h;rotate_left;simp at h;obtain⟨a0,h0,h⟩:=bind_some h;obtain⟨a1,h1,h⟩:=bind_some h;obtain⟨a2,h2,h⟩:=bind_some h;obtain⟨a3,h3,h⟩:=bind_some h;obtain⟨a4,h4,h⟩:=bind_some h;obtain⟨a5,h5,h⟩:=bind_some h;obtain⟨a6,h6,h⟩:=bind_some h;obtain⟨a7,h7,h⟩:=bind_some h;obtain⟨a8,h8,h⟩:=bind_some h;obtain⟨a9,h9,h⟩:=bind_some h;obtain⟨a10,h10,h⟩:=bind_some h;obtain⟨a11,h11,h⟩:=bind_some h;obtain⟨a12,h12,h⟩:=bind_some h;obtain⟨a13,h13,h⟩:=bind_some h;obtain⟨a14,h14,h⟩:=bind_some h;obtain⟨a15,h15,h⟩:=bind_some h;obtain⟨a16,h16,h⟩:=bind_some h;obtain⟨a17,h17,h⟩:=bind_some h;obtain⟨a18,h18,h⟩:=bind_some h;obtain⟨a19,h19,h⟩:=bind_some h;obtain⟨a20,h20,h⟩:=bind_some h;simp only[Option.some.injEq]at h;subst h;rw[as_car h0,as_car h1,as_car h2,as_car h3,as_car h4,as_car h5,as_car h6,as_car h7,as_car h8,as_car h9,as_car h10,as_car h11,as_car h12,as_car h13,as_car h14,as_car h15,as_car h16,as_car h17,as_car h18,as_car h19,as_car h20];rfl
def ZyC (x:ZnO):P:= .agg [.int .i64 x.N,.bool x.X.Num.Neg,.sl 1 (x.X.Num.Words.map (fun x=> .int .u32 x)),.bool x.X.Den.Neg,.sl 1 (x.X.Den.Words.map (fun x=> .int .u32 x)),.bool x.Y.Num.Neg,.sl 1 (x.Y.Num.Words.map (fun x=> .int .u32 x)),.bool x.Y.Den.Neg,.sl 1 (x.Y.Den.Words.map (fun x=> .int .u32 x)),.bool x.XX.Num.Neg,.sl 1 (x.XX.Num.Words.map (fun x=> .int .u32 x)),.bool x.XX.Den.Neg,.sl 1 (x.XX.Den.Words.map (fun x=> .int .u32 x)),.bool x.YY.Num.Neg,.sl 1 (x.YY.Num.Words.map (fun x=> .int .u32 x)),.bool x.YY.Den.Neg,.sl 1 (x.YY.Den.Words.map (fun x=> .int .u32 x)),.bool x.XY.Num.Neg,.sl 1 (x.XY.Num.Words.map (fun x=> .int .u32 x)),.bool x.XY.Den.Neg,.sl 1 (x.XY.Den.Words.map (fun x=> .int .u32 x))]
def ZuJ (x:ZnH):List (Lf Zvy):=[⟨(.sl (.int .i64)),x.l⟩,⟨(.int .i64),x.at_⟩]
def ZtD:List (Lf Zvy)→Option ZnH
 | [c0,c1]=>(c0.as (.sl (.int .i64))).bind fun a0=>(c1.as (.int .i64)).bind fun a1=>some (ZnH.mk a0 a1)
 |_=>none
theorem Zw1 (cs:List (Lf Zvy)) (x:ZnH) (h:ZtD cs=some x):ZuJ x=cs:=by unfold ZtD at h;split at h;rotate_left;simp at h;obtain⟨a0,h0,h⟩:=bind_some h;obtain⟨a1,h1,h⟩:=bind_some h;simp only[Option.some.injEq]at h;subst h;rw[as_car h0,as_car h1];rfl
def Zxp (x:ZnH):P:= .agg [.sl 1 (x.l.map (fun x=> .int .i64 x)),.int .i64 x.at_]
def ZxH (x:ZnF):List (Lf Zvy):=[⟨.bool,x.Null⟩,⟨.str,x.Text⟩]
def ZxD:List (Lf Zvy)→Option ZnF
 | [c0,c1]=>(c0.as .bool).bind fun a0=>(c1.as .str).bind fun a1=>some (ZnF.mk a0 a1)
 |_=>none
theorem ZyI (cs:List (Lf Zvy)) (x:ZnF) (h:ZxD cs=some x):ZxH x=cs:=by unfold ZxD at h;split at h;rotate_left;simp at h;obtain⟨a0,h0,h⟩:=bind_some h;obtain⟨a1,h1,h⟩:=bind_some h;simp only[Option.some.injEq]at h;subst h;rw[as_car h0,as_car h1];rfl
def Zya (x:ZnF):P:= .agg [.bool x.Null,.str x.Text]
def Zxj (x:ZnE):List (Lf Zvy):=[⟨.str,x.Name⟩,⟨(.sl (.st 5)),x.Cells⟩]
def Zw3:List (Lf Zvy)→Option ZnE
 | [c0,c1]=>(c0.as .str).bind fun a0=>(c1.as (.sl (.st 5))).bind fun a1=>some (ZnE.mk a0 a1)
 |_=>none
theorem Zyq (cs:List (Lf Zvy)) (x:ZnE) (h:Zw3 cs=some x):Zxj x=cs:=by unfold Zw3 at h;split at h;rotate_left;simp at h;obtain⟨a0,h0,h⟩:=bind_some h;obtain⟨a1,h1,h⟩:=bind_some h;simp only[Option.some.injEq]at h;subst h;rw[as_car h0,as_car h1];rfl
def ZyK (x:ZnE):P:= .agg [.str x.Name,.sl 2 (x.Cells.map Zya)]
def ZvO (x:ZnA):List (Lf Zvy):=[⟨.str,x.Key⟩,⟨(.int .u64),x.Hash⟩,⟨(.int .i64),x.Count⟩,⟨.bool,x.Sum.Num.Neg⟩,⟨(.sl (.int .u32)),x.Sum.Num.Words⟩,⟨.bool,x.Sum.Den.Neg⟩,⟨(.sl (.int .u32)),x.Sum.Den.Words⟩]
def Zu4:List (Lf Zvy)→Option ZnA
 | [c0,c1,c2,c3,c4,c5,c6]=>(c0.as .str).bind fun a0=>(c1.as (.int .u64)).bind fun a1=>(c2.as (.int .i64)).bind fun a2=>(c3.as .bool).bind fun a3=>(c4.as (.sl (.int .u32))).bind fun a4=>(c5.as .bool).bind fun a5=>(c6.as (.sl (.int .u32))).bind fun a6=>some (ZnA.mk a0 a1 a2 (ZnC.mk (ZnD.mk a3 a4) (ZnD.mk a5 a6)))
 |_=>none
theorem ZxC (cs:List (Lf Zvy)) (x:ZnA) (h:Zu4 cs=some x):ZvO x=cs:=by unfold Zu4 at h;split at h;rotate_left;simp at h;obtain⟨a0,h0,h⟩:=bind_some h;obtain⟨a1,h1,h⟩:=bind_some h;obtain⟨a2,h2,h⟩:=bind_some h;obtain⟨a3,h3,h⟩:=bind_some h;obtain⟨a4,h4,h⟩:=bind_some h;obtain⟨a5,h5,h⟩:=bind_some h;obtain⟨a6,h6,h⟩:=bind_some h;simp only[Option.some.injEq]at h;subst h;rw[as_car h0,as_car h1,as_car h2,as_car h3,as_car h4,as_car h5,as_car h6];rfl
def ZxX (x:ZnA):P:= .agg [.str x.Key,.int .u64 x.Hash,.int .i64 x.Count,.bool x.Sum.Num.Neg,.sl 1 (x.Sum.Num.Words.map (fun x=> .int .u32 x)),.bool x.Sum.Den.Neg,.sl 1 (x.Sum.Den.Words.map (fun x=> .int .u32 x))]
def Zxi (x:ZoP):List (Lf Zvy):=[⟨.str,x.word⟩,⟨.fnc,x.canonical⟩,⟨.fnc,x.value⟩]
def Zw0:List (Lf Zvy)→Option ZoP
 | [c0,c1,c2]=>(c0.as .str).bind fun a0=>(c1.as .fnc).bind fun a1=>(c2.as .fnc).bind fun a2=>some (ZoP.mk a0 a1 a2)
 |_=>none
theorem Zyp (cs:List (Lf Zvy)) (x:ZoP) (h:Zw0 cs=some x):Zxi x=cs:=by unfold Zw0 at h;split at h;rotate_left;simp at h;obtain⟨a0,h0,h⟩:=bind_some h;obtain⟨a1,h1,h⟩:=bind_some h;obtain⟨a2,h2,h⟩:=bind_some h;simp only[Option.some.injEq]at h;subst h;rw[as_car h0,as_car h1,as_car h2];rfl
def ZyJ (x:ZoP):P:= .agg [.str x.word,ZjM x.canonical,ZjM x.value]
def ZFs:(n:Nat)→Zvy n→List (Lf Zvy)
 |0,x=>Zx0 x
 |1,x=>Zws x
 |2,x=>ZuK x
 |3,x=>Zw5 x
 |4,x=>ZuJ x
 |5,x=>ZxH x
 |6,x=>Zxj x
 |7,x=>ZvO x
 |8,x=>Zxi x
 |_+9,_=>[]
def ofU:(n:Nat)→List (Lf Zvy)→Option (Zvy n)
 |0,cs=>ZxT cs
 |1,cs=>ZvV cs
 |2,cs=>ZtE cs
 |3,cs=>Zwn cs
 |4,cs=>ZtD cs
 |5,cs=>ZxD cs
 |6,cs=>Zw3 cs
 |7,cs=>Zu4 cs
 |8,cs=>Zw0 cs
 |_+9,cs=>match cs with | []=>some () |_=>none
def encU:(n:Nat)→Zvy n→P
 |0,x=>Zzz x
 |1,x=>Zyu x
 |2,x=>Zxq x
 |3,x=>ZyC x
 |4,x=>Zxp x
 |5,x=>Zya x
 |6,x=>ZyK x
 |7,x=>ZxX x
 |8,x=>ZyJ x
 |_+9,_=> .agg []
@[reducible] def U:Zc:=⟨Zvy,ZGI,ZFs,ofU,encU⟩
theorem uok:UOk U where
 of_cells:=fun n cs x h=>match n,x,h with
  |0,x,h=>ZyT cs x h
  |1,x,h=>Zx6 cs x h
  |2,x,h=>Zw2 cs x h
  |3,x,h=>Zyi cs x h
  |4,x,h=>Zw1 cs x h
  |5,x,h=>ZyI cs x h
  |6,x,h=>Zyq cs x h
  |7,x,h=>ZxC cs x h
  |8,x,h=>Zyp cs x h
  |_+9,x,h=>by
   match cs,h with
   | [],h=>rfl
 enc_cells:=fun n x=>match n,x with
  |0,x=>rfl
  |1,x=>rfl
  |2,x=>rfl
  |3,x=>rfl
  |4,x=>rfl
  |5,x=>rfl
  |6,x=>rfl
  |7,x=>rfl
  |8,x=>rfl
  |_+9,x=>rfl
 len:=fun n x=>match n,x with
  |0,x=>rfl
  |1,x=>rfl
  |2,x=>rfl
  |3,x=>rfl
  |4,x=>rfl
  |5,x=>rfl
  |6,x=>rfl
  |7,x=>rfl
  |8,x=>rfl
  |_+9,x=>rfl
noncomputable def tt0:List (Option (TT U)):=[
 none,
 some ⟨⟨.func,1,8,[.p .nilfn]⟩,none,.fnc,[.nilfn],some ⟨.fnc,(none:Option Nat)⟩⟩,
 some ⟨⟨.int .i64,1,8,[.p (.int .i64 0)]⟩,none,(.int .i64),[.v (.int .i64) (0:Int)],some ⟨(.int .i64),(0:Int)⟩⟩,
 some ⟨⟨.int .i64,1,8,[.p (.int .i64 0)]⟩,none,(.int .i64),[.v (.int .i64) (0:Int)],some ⟨(.int .i64),(0:Int)⟩⟩,
 some ⟨⟨.bool,1,1,[.p (.bool false)]⟩,none,.bool,[.v .bool false],some ⟨.bool,false⟩⟩,
 some ⟨⟨.int .u8,1,1,[.p (.int .u8 0)]⟩,none,(.int .u8),[.v (.int .u8) (0:Int)],some ⟨(.int .u8),(0:Int)⟩⟩,
 none,
 none,
 none,
 some ⟨⟨.str,1,16,[.p (.str [])]⟩,none,.str,[.v .str ([]:Str)],some ⟨.str,([]:Str)⟩⟩,
 none,
 none,
 none,
 none,
 none,
 none,
 none,
 none,
 none,
 none,
 none,
 none,
 some ⟨⟨.sl 3,1,24,[.nils 1]⟩,none,(.sl (.int .i64)),[.nils (.int .i64)],some ⟨(.sl (.int .i64)),[]⟩⟩,
 none,
 none,
 some ⟨⟨.ptr 82,1,8,[.p .nilp]⟩,none,.bool,[.nilp],none⟩,
 none,
 none,
 some ⟨⟨.sl 41,1,24,[.nils 2]⟩,none,(.sl (.st 5)),[.nils (.st 5)],some ⟨(.sl (.st 5)),[]⟩⟩,
 some ⟨⟨.struct [(0,9),(1,28)],2,40,[.p (.str []),.nils 2]⟩,some 6,(.st 6),[.v .str ([]:Str),.nils (.st 5)],some ⟨(.st 6),(ZnE.mk ([]:Str) ([]:(List ZnF)))⟩⟩,
 some ⟨⟨.struct [(0,9),(1,28)],2,40,[.p (.str []),.nils 2]⟩,some 6,(.st 6),[.v .str ([]:Str),.nils (.st 5)],some ⟨(.st 6),(ZnE.mk ([]:Str) ([]:(List ZnF)))⟩⟩,
 none,
 none,
 some ⟨⟨.sl 51,1,24,[.nils 7]⟩,none,(.sl (.st 7)),[.nils (.st 7)],some ⟨(.sl (.st 7)),[]⟩⟩,
 none,
 none,
 some ⟨⟨.int .i64,1,8,[.p (.int .i64 0)]⟩,none,(.int .i64),[.v (.int .i64) (0:Int)],some ⟨(.int .i64),(0:Int)⟩⟩,
 none,
 none,
 some ⟨⟨.map 9 4,1,8,[.p (.map (.str) [])]⟩,none,(.map .str .bool),[.v (.map .str .bool) []],some ⟨(.map .str .bool),[]⟩⟩,
 some ⟨⟨.struct [(0,4),(1,9)],2,24,[.p (.bool false),.p (.str [])]⟩,some 5,(.st 5),[.v .bool false,.v .str ([]:Str)],some ⟨(.st 5),(ZnF.mk false ([]:Str))⟩⟩,
 some ⟨⟨.struct [(0,4),(1,9)],2,24,[.p (.bool false),.p (.str [])]⟩,some 5,(.st 5),[.v .bool false,.v .str ([]:Str)],some ⟨(.st 5),(ZnF.mk false ([]:Str))⟩⟩,
 some ⟨⟨.sl 128,1,24,[.nils 1]⟩,none,(.sl (.int .u32)),[.nils (.int .u32)],some ⟨(.sl (.int .u32)),[]⟩⟩,
 some ⟨⟨.struct [(0,4),(1,42)],2,32,[.p (.bool false),.nils 1]⟩,some 0,(.st 0),[.v .bool false,.nils (.int .u32)],some ⟨(.st 0),(ZnD.mk false ([]:(List Int)))⟩⟩,
 some ⟨⟨.struct [(0,4),(1,42)],2,32,[.p (.bool false),.nils 1]⟩,some 0,(.st 0),[.v .bool false,.nils (.int .u32)],some ⟨(.st 0),(ZnD.mk false ([]:(List Int)))⟩⟩,
 some ⟨⟨.struct [(0,44),(2,44)],4,64,[.p (.bool false),.nils 1,.p (.bool false),.nils 1]⟩,some 1,(.st 1),[.v .bool false,.nils (.int .u32),.v .bool false,.nils (.int .u32)],some ⟨(.st 1),(ZnC.mk (ZnD.mk false ([]:(List Int))) (ZnD.mk false ([]:(List Int))))⟩⟩,
 some ⟨⟨.struct [(0,44),(2,44)],4,64,[.p (.bool false),.nils 1,.p (.bool false),.nils 1]⟩,some 1,(.st 1),[.v .bool false,.nils (.int .u32),.v .bool false,.nils (.int .u32)],some ⟨(.st 1),(ZnC.mk (ZnD.mk false ([]:(List Int))) (ZnD.mk false ([]:(List Int))))⟩⟩,
 none,
 none,
 some ⟨⟨.int .u64,1,8,[.p (.int .u64 0)]⟩,none,(.int .u64),[.v (.int .u64) (0:Int)],some ⟨(.int .u64),(0:Int)⟩⟩,
 some ⟨⟨.struct [(0,9),(1,49),(2,3),(3,46)],7,96,[.p (.str []),.p (.int .u64 0),.p (.int .i64 0),.p (.bool false),.nils 1,.p (.bool false),.nils 1]⟩,some 7,(.st 7),[.v .str ([]:Str),.v (.int .u64) (0:Int),.v (.int .i64) (0:Int),.v .bool false,.nils (.int .u32),.v .bool false,.nils (.int .u32)],some ⟨(.st 7),(ZnA.mk ([]:Str) 0 0 (ZnC.mk (ZnD.mk false ([]:(List Int))) (ZnD.mk false ([]:(List Int)))))⟩⟩,
 some ⟨⟨.struct [(0,9),(1,49),(2,3),(3,46)],7,96,[.p (.str []),.p (.int .u64 0),.p (.int .i64 0),.p (.bool false),.nils 1,.p (.bool false),.nils 1]⟩,some 7,(.st 7),[.v .str ([]:Str),.v (.int .u64) (0:Int),.v (.int .i64) (0:Int),.v .bool false,.nils (.int .u32),.v .bool false,.nils (.int .u32)],some ⟨(.st 7),(ZnA.mk ([]:Str) 0 0 (ZnC.mk (ZnD.mk false ([]:(List Int))) (ZnD.mk false ([]:(List Int)))))⟩⟩,
 none,
 none,
 none,
 some ⟨⟨.sl 58,1,24,[.nils 8]⟩,none,(.sl (.st 2)),[.nils (.st 2)],some ⟨(.sl (.st 2)),[]⟩⟩,
 none,
 none,
 some ⟨⟨.arr 2 46,8,128,[.p (.bool false),.nils 1,.p (.bool false),.nils 1,.p (.bool false),.nils 1,.p (.bool false),.nils 1]⟩,some 2,(.st 2),[.v .bool false,.nils (.int .u32),.v .bool false,.nils (.int .u32),.v .bool false,.nils (.int .u32),.v .bool false,.nils (.int .u32)],some ⟨(.st 2),(ZnB.mk (ZnC.mk (ZnD.mk false ([]:(List Int))) (ZnD.mk false ([]:(List Int)))) (ZnC.mk (ZnD.mk false ([]:(List Int))) (ZnD.mk false ([]:(List Int)))))⟩⟩,
 none,
 none,
 none,
 none,
 none,
 none,
 none,
 none,
 none,
 none,
 none,
 none,
 none,
 none,
 none,
 none,
 none,
 none,
 none,
 none,
 none,
 none,
 some ⟨⟨.struct [(0,22),(1,3)],2,32,[.nils 1,.p (.int .i64 0)]⟩,some 4,(.st 4),[.nils (.int .i64),.v (.int .i64) (0:Int)],some ⟨(.st 4),(ZnH.mk ([]:(List Int)) 0)⟩⟩,
 some ⟨⟨.struct [(0,22),(1,3)],2,32,[.nils 1,.p (.int .i64 0)]⟩,some 4,(.st 4),[.nils (.int .i64),.v (.int .i64) (0:Int)],some ⟨(.st 4),(ZnH.mk ([]:(List Int)) 0)⟩⟩,
 none,
 none,
 none,
 none,
 none,
 none,
 none,
 none,
 none,
 none,
 none,
 none,
 none,
 none,
 none,
 none,
 none,
 none,
 none,
 none,
 some ⟨⟨.struct [(0,3),(1,46),(5,46),(9,46),(13,46),(17,46)],21,328,[.p (.int .i64 0),.p (.bool false),.nils 1,.p (.bool false),.nils 1,.p (.bool false),.nils 1,.p (.bool false),.nils 1,.p (.bool false),.nils 1,.p (.bool false),.nils 1,.p (.bool false),.nils 1,.p (.bool false),.nils 1,.p (.bool false),.nils 1,.p (.bool false),.nils 1]⟩,some 3,(.st 3),[.v (.int .i64) (0:Int),.v .bool false,.nils (.int .u32),.v .bool false,.nils (.int .u32),.v .bool false,.nils (.int .u32),.v .bool false,.nils (.int .u32),.v .bool false,.nils (.int .u32),.v .bool false,.nils (.int .u32),.v .bool false,.nils (.int .u32),.v .bool false,.nils (.int .u32),.v .bool false,.nils (.int .u32),.v .bool false,.nils (.int .u32)],some ⟨(.st 3),(ZnO.mk 0 (ZnC.mk (ZnD.mk false ([]:(List Int))) (ZnD.mk false ([]:(List Int)))) (ZnC.mk (ZnD.mk false ([]:(List Int))) (ZnD.mk false ([]:(List Int)))) (ZnC.mk (ZnD.mk false ([]:(List Int))) (ZnD.mk false ([]:(List Int)))) (ZnC.mk (ZnD.mk false ([]:(List Int))) (ZnD.mk false ([]:(List Int)))) (ZnC.mk (ZnD.mk false ([]:(List Int))) (ZnD.mk false ([]:(List Int)))))⟩⟩,
 some ⟨⟨.struct [(0,3),(1,46),(5,46),(9,46),(13,46),(17,46)],21,328,[.p (.int .i64 0),.p (.bool false),.nils 1,.p (.bool false),.nils 1,.p (.bool false),.nils 1,.p (.bool false),.nils 1,.p (.bool false),.nils 1,.p (.bool false),.nils 1,.p (.bool false),.nils 1,.p (.bool false),.nils 1,.p (.bool false),.nils 1,.p (.bool false),.nils 1]⟩,some 3,(.st 3),[.v (.int .i64) (0:Int),.v .bool false,.nils (.int .u32),.v .bool false,.nils (.int .u32),.v .bool false,.nils (.int .u32),.v .bool false,.nils (.int .u32),.v .bool false,.nils (.int .u32),.v .bool false,.nils (.int .u32),.v .bool false,.nils (.int .u32),.v .bool false,.nils (.int .u32),.v .bool false,.nils (.int .u32),.v .bool false,.nils (.int .u32)],some ⟨(.st 3),(ZnO.mk 0 (ZnC.mk (ZnD.mk false ([]:(List Int))) (ZnD.mk false ([]:(List Int)))) (ZnC.mk (ZnD.mk false ([]:(List Int))) (ZnD.mk false ([]:(List Int)))) (ZnC.mk (ZnD.mk false ([]:(List Int))) (ZnD.mk false ([]:(List Int)))) (ZnC.mk (ZnD.mk false ([]:(List Int))) (ZnD.mk false ([]:(List Int)))) (ZnC.mk (ZnD.mk false ([]:(List Int))) (ZnD.mk false ([]:(List Int)))))⟩⟩,
 none,
 none,
 none,
 none,
 none,
 none,
 none,
 none,
 some ⟨⟨.func,1,8,[.p .nilfn]⟩,none,.fnc,[.nilfn],some ⟨.fnc,(none:Option Nat)⟩⟩,
 some ⟨⟨.sl 9,1,24,[.nils 1]⟩,none,(.sl .str),[.nils .str],some ⟨(.sl .str),[]⟩⟩,
 some ⟨⟨.map 9 3,1,8,[.p (.map (.str) [])]⟩,none,(.map .str (.int .i64)),[.v (.map .str (.int .i64)) []],some ⟨(.map .str (.int .i64)),[]⟩⟩,
 none,
 none,
 none,
 none,
 none,
 none,
 some ⟨⟨.func,1,8,[.p .nilfn]⟩,none,.fnc,[.nilfn],some ⟨.fnc,(none:Option Nat)⟩⟩,
 none,
 none,
 none,
 none,
 none,
 some ⟨⟨.int .u32,1,4,[.p (.int .u32 0)]⟩,none,(.int .u32),[.v (.int .u32) (0:Int)],some ⟨(.int .u32),(0:Int)⟩⟩,
 none,
 some ⟨⟨.int .u64,1,8,[.p (.int .u64 0)]⟩,none,(.int .u64),[.v (.int .u64) (0:Int)],some ⟨(.int .u64),(0:Int)⟩⟩,
 none,
 none,
 none,
 none,
 none,
 none,
 none,
 none,
 none,
 none,
 none,
 none,
 none,
 none,
 none,
 some ⟨⟨.sl 128,1,24,[.nils 1]⟩,none,(.sl (.int .u32)),[.nils (.int .u32)],some ⟨(.sl (.int .u32)),[]⟩⟩,
 none,
 none,
 none,
 none,
 none,
 none,
 none,
 none,
 none,
 none,
 none,
 none,
 none,
 none,
 none,
 some ⟨⟨.sl 5,1,24,[.nils 1]⟩,none,(.sl (.int .u8)),[.nils (.int .u8)],some ⟨(.sl (.int .u8)),[]⟩⟩,
 none,
 none,
 none,
 some ⟨⟨.func,1,8,[.p .nilfn]⟩,none,.fnc,[.nilfn],some ⟨.fnc,(none:Option Nat)⟩⟩,
 some ⟨⟨.struct [(0,9),(1,166),(2,122)],3,32,[.p (.str []),.p .nilfn,.p .nilfn]⟩,some 8,(.st 8),[.v .str ([]:Str),.nilfn,.nilfn],some ⟨(.st 8),(ZoP.mk ([]:Str) (none:Option Nat) (none:Option Nat))⟩⟩,
 some ⟨⟨.struct [(0,9),(1,166),(2,122)],3,32,[.p (.str []),.p .nilfn,.p .nilfn]⟩,some 8,(.st 8),[.v .str ([]:Str),.nilfn,.nilfn],some ⟨(.st 8),(ZoP.mk ([]:Str) (none:Option Nat) (none:Option Nat))⟩⟩,
 some ⟨⟨.map 3 168,1,8,[.p (.map (.int .i64) [])]⟩,none,(.map (.int .i64) (.st 8)),[.v (.map (.int .i64) (.st 8)) []],some ⟨(.map (.int .i64) (.st 8)),[]⟩⟩,
 none,
 none,
 some ⟨⟨.int .i64,1,8,[.p (.int .i64 0)]⟩,none,(.int .i64),[.v (.int .i64) (0:Int)],some ⟨(.int .i64),(0:Int)⟩⟩,
 none,
 none,
 none,
 none,
 none,
 none,
 none,
 none,
 some ⟨⟨.sl 44,1,24,[.nils 2]⟩,none,(.sl (.st 0)),[.nils (.st 0)],some ⟨(.sl (.st 0)),[]⟩⟩,
 none,
 none,
 none,
 none,
 none,
 none,
 none,
 none,
 some ⟨⟨.func,1,8,[.p .nilfn]⟩,none,.fnc,[.nilfn],some ⟨.fnc,(none:Option Nat)⟩⟩,
 some ⟨⟨.func,1,8,[.p .nilfn]⟩,none,.fnc,[.nilfn],some ⟨.fnc,(none:Option Nat)⟩⟩,
 none,
 none,
 none,
 none,
 none,
 none,
 none,
 none,
 none,
 none,
 none,
 none,
 some ⟨⟨.int .u64,1,8,[.p (.int .u64 0)]⟩,none,(.int .u64),[.v (.int .u64) (0:Int)],some ⟨(.int .u64),(0:Int)⟩⟩,
 none,
 none,
 none,
 some ⟨⟨.ptr 3,1,8,[.p .nilp]⟩,none,.bool,[.nilp],none⟩,
 none,
 none,
 none,
 none,
 none,
 none,
 none,
 none,
 none,
 none,
 none,
 none,
 none,
 none,
 none,
 none,
 none,
 none,
 none,
 none,
 none,
 none,
 none,
 none,
 none,
 none,
 none,
 none,
 none,
 some ⟨⟨.ptr 204,1,8,[.p .nilp]⟩,none,.bool,[.nilp],none⟩,
 none,
 none,
 none,
 none,
 none,
 none,
 none,
 none,
 none,
 none,
 none,
 none,
 none,
 none,
 none,
 none,
 none,
 none,
 none,
 none,
 none,
 none,
 none,
 none,
 none,
 none,
 none,
 none,
 none,
 none,
 none,
 none,
 none,
 none,
 none,
 none,
 none,
 none,
 none,
 none,
 none,
 none,
 none,
 none,
 none,
 none,
 none,
 none,
 none,
 none,
 none,
 none,
 none,
 none,
 none,
 none,
 none,
 none,
 none,
 none,
 none,
 none,
 none,
 none,
 none,
 none,
 none,
 none,
 none]
noncomputable def X0:ZG U:=⟨Tryz.prog,tt0,[(2,ZyB),(4,Zvx)],0⟩
theorem tok0:TOk X0:=tok_of (by kernel_rfl) (by kernel_rfl) (by kernel_rfl)
theorem eok0:Zk X0.E:=⟨by kernel_rfl⟩
theorem mixed:X0.prog.follows .mixedOrders=true:=by kernel_rfl
theorem G0:Gnd X0:=⟨uok,tok0,eok0,mixed⟩
noncomputable def Zwq:Zj9 U:=⟨Str,[3],[.p],[none],[.p (.int .i64)],fun v=>Zt0 v.1,fun q=>⟨[.p ⟨.str,q⟩],[]⟩⟩
noncomputable def Zwp:Zj9 U:=⟨Str,[9,9],[.p,.p],[none,none],[.p .str,.p .str],fun v=>Zxl v.1 v.2.1,fun q=>⟨[.p ⟨.str,q⟩],[]⟩⟩
noncomputable def Zsq:Zj9 U:=⟨Int,[9,5],[.p,.p],[none,none],[.p .str,.p (.int .u8)],fun v=>ZqH v.1 v.2.1,fun q=>⟨[.p ⟨(.int .i64),q⟩],[]⟩⟩
noncomputable def Zwt:Zj9 U:=⟨Str,[9,9],[.p,.p],[none,none],[.p .str,.p .str],fun v=>ZvC v.1 v.2.1,fun q=>⟨[.p ⟨.str,q⟩],[]⟩⟩
noncomputable def Zwg:Zj9 U:=⟨Str,[9,9],[.p,.p],[none,none],[.p .str,.p .str],fun v=>ZwS v.1 v.2.1,fun q=>⟨[.p ⟨.str,q⟩],[]⟩⟩
noncomputable def Zsr:Zj9 U:=⟨Int,[9,9],[.p,.p],[none,none],[.p .str,.p .str],fun v=>ZoK v.1 v.2.1,fun q=>⟨[.p ⟨(.int .i64),q⟩],[]⟩⟩
end Go.Proofs
