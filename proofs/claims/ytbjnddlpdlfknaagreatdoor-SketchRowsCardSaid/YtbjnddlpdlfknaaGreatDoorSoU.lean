/- Printed by wip/tools/tgen.py: tables. -/
import Derived.Test.YtbjnddlpdlfknaaGreatDoorSoS
import Derived.Test.YtbjnddlpdlfknaaGreatDoorProg
import Derived.KernelRfl
set_option linter.unusedVariables false
set_option linter.unusedSimpArgs false
set_option linter.unusedSectionVars false
namespace Go.Proofs
open Go Eng
set_option maxRecDepth 100000
def ZvC (x:ZnE):List (Lf ZtY):=[⟨.bool,x.Null⟩,⟨.str,x.Text⟩]
def Zvw:List (Lf ZtY)→Option ZnE
 | [c0,c1]=>(c0.as .bool).bind fun a0=>(c1.as .str).bind fun a1=>some (ZnE.mk a0 a1)
 |_=>none
theorem ZwE (cs:List (Lf ZtY)) (x:ZnE) (h:Zvw cs=some x):ZvC x=cs:=by unfold Zvw at h;split at h;rotate_left;simp at h;obtain⟨a0,h0,h⟩:=bind_some h;obtain⟨a1,h1,h⟩:=bind_some h;simp only[Option.some.injEq]at h;subst h;rw[as_car h0,as_car h1];rfl
def Zv4 (x:ZnE):P:= .agg [.bool x.Null,.str x.Text]
def Zvd (x:ZnL):List (Lf ZtY):=[⟨.str,x.Name⟩,⟨(.sl (.st 0)),x.Cells⟩]
def Zu1:List (Lf ZtY)→Option ZnL
 | [c0,c1]=>(c0.as .str).bind fun a0=>(c1.as (.sl (.st 0))).bind fun a1=>some (ZnL.mk a0 a1)
 |_=>none
theorem Zwn (cs:List (Lf ZtY)) (x:ZnL) (h:Zu1 cs=some x):Zvd x=cs:=by unfold Zu1 at h;split at h;rotate_left;simp at h;obtain⟨a0,h0,h⟩:=bind_some h;obtain⟨a1,h1,h⟩:=bind_some h;simp only[Option.some.injEq]at h;subst h;rw[as_car h0,as_car h1];rfl
def ZwH (x:ZnL):P:= .agg [.str x.Name,.sl 2 (x.Cells.map Zv4)]
def ZvT (x:ZnI):List (Lf ZtY):=[⟨.bool,x.Neg⟩,⟨(.sl (.int .u32)),x.Words⟩]
def ZvO:List (Lf ZtY)→Option ZnI
 | [c0,c1]=>(c0.as .bool).bind fun a0=>(c1.as (.sl (.int .u32))).bind fun a1=>some (ZnI.mk a0 a1)
 |_=>none
theorem ZwQ (cs:List (Lf ZtY)) (x:ZnI) (h:ZvO cs=some x):ZvT x=cs:=by unfold ZvO at h;split at h;rotate_left;simp at h;obtain⟨a0,h0,h⟩:=bind_some h;obtain⟨a1,h1,h⟩:=bind_some h;simp only[Option.some.injEq]at h;subst h;rw[as_car h0,as_car h1];rfl
def Zxp (x:ZnI):P:= .agg [.bool x.Neg,.sl 1 (x.Words.map (fun x=> .int .u32 x))]
def Zuz (x:ZnB):List (Lf ZtY):=[⟨.bool,x.Num.Neg⟩,⟨(.sl (.int .u32)),x.Num.Words⟩,⟨.bool,x.Den.Neg⟩,⟨(.sl (.int .u32)),x.Den.Words⟩]
def Zt7:List (Lf ZtY)→Option ZnB
 | [c0,c1,c2,c3]=>(c0.as .bool).bind fun a0=>(c1.as (.sl (.int .u32))).bind fun a1=>(c2.as .bool).bind fun a2=>(c3.as (.sl (.int .u32))).bind fun a3=>some (ZnB.mk (ZnI.mk a0 a1) (ZnI.mk a2 a3))
 |_=>none
theorem Zv1 (cs:List (Lf ZtY)) (x:ZnB) (h:Zt7 cs=some x):Zuz x=cs:=by unfold Zt7 at h;split at h;rotate_left;simp at h;obtain⟨a0,h0,h⟩:=bind_some h;obtain⟨a1,h1,h⟩:=bind_some h;obtain⟨a2,h2,h⟩:=bind_some h;obtain⟨a3,h3,h⟩:=bind_some h;simp only[Option.some.injEq]at h;subst h;rw[as_car h0,as_car h1,as_car h2,as_car h3];rfl
def Zws (x:ZnB):P:= .agg [.bool x.Num.Neg,.sl 1 (x.Num.Words.map (fun x=> .int .u32 x)),.bool x.Den.Neg,.sl 1 (x.Den.Words.map (fun x=> .int .u32 x))]
def ZtX (x:ZnA):List (Lf ZtY):=[⟨.str,x.Key⟩,⟨(.int .u64),x.Hash⟩,⟨(.int .i64),x.Count⟩,⟨.bool,x.Sum.Num.Neg⟩,⟨(.sl (.int .u32)),x.Sum.Num.Words⟩,⟨.bool,x.Sum.Den.Neg⟩,⟨(.sl (.int .u32)),x.Sum.Den.Words⟩]
def Ztq:List (Lf ZtY)→Option ZnA
 | [c0,c1,c2,c3,c4,c5,c6]=>(c0.as .str).bind fun a0=>(c1.as (.int .u64)).bind fun a1=>(c2.as (.int .i64)).bind fun a2=>(c3.as .bool).bind fun a3=>(c4.as (.sl (.int .u32))).bind fun a4=>(c5.as .bool).bind fun a5=>(c6.as (.sl (.int .u32))).bind fun a6=>some (ZnA.mk a0 a1 a2 (ZnB.mk (ZnI.mk a3 a4) (ZnI.mk a5 a6)))
 |_=>none
theorem Zvv (cs:List (Lf ZtY)) (x:ZnA) (h:Ztq cs=some x):ZtX x=cs:=by unfold Ztq at h;split at h;rotate_left;simp at h;obtain⟨a0,h0,h⟩:=bind_some h;obtain⟨a1,h1,h⟩:=bind_some h;obtain⟨a2,h2,h⟩:=bind_some h;obtain⟨a3,h3,h⟩:=bind_some h;obtain⟨a4,h4,h⟩:=bind_some h;obtain⟨a5,h5,h⟩:=bind_some h;obtain⟨a6,h6,h⟩:=bind_some h;simp only[Option.some.injEq]at h;subst h;rw[as_car h0,as_car h1,as_car h2,as_car h3,as_car h4,as_car h5,as_car h6];rfl
def Zs5 (x:ZnA):P:= .agg [.str x.Key,.int .u64 x.Hash,.int .i64 x.Count,.bool x.Sum.Num.Neg,.sl 1 (x.Sum.Num.Words.map (fun x=> .int .u32 x)),.bool x.Sum.Den.Neg,.sl 1 (x.Sum.Den.Words.map (fun x=> .int .u32 x))]
def Zvc (x:ZnF):List (Lf ZtY):=[⟨(.int .i64),x.K⟩,⟨.bool,x.All⟩,⟨(.sl (.st 4)),x.Entries⟩]
def Zu0:List (Lf ZtY)→Option ZnF
 | [c0,c1,c2]=>(c0.as (.int .i64)).bind fun a0=>(c1.as .bool).bind fun a1=>(c2.as (.sl (.st 4))).bind fun a2=>some (ZnF.mk a0 a1 a2)
 |_=>none
theorem Zwm (cs:List (Lf ZtY)) (x:ZnF) (h:Zu0 cs=some x):Zvc x=cs:=by unfold Zu0 at h;split at h;rotate_left;simp at h;obtain⟨a0,h0,h⟩:=bind_some h;obtain⟨a1,h1,h⟩:=bind_some h;obtain⟨a2,h2,h⟩:=bind_some h;simp only[Option.some.injEq]at h;subst h;rw[as_car h0,as_car h1,as_car h2];rfl
def ZwG (x:ZnF):P:= .agg [.int .i64 x.K,.bool x.All,.sl 7 (x.Entries.map Zs5)]
def Zvb (x:ZoC):List (Lf ZtY):=[⟨.str,x.word⟩,⟨.fnc,x.canonical⟩,⟨.fnc,x.value⟩]
def ZuX:List (Lf ZtY)→Option ZoC
 | [c0,c1,c2]=>(c0.as .str).bind fun a0=>(c1.as .fnc).bind fun a1=>(c2.as .fnc).bind fun a2=>some (ZoC.mk a0 a1 a2)
 |_=>none
theorem Zwl (cs:List (Lf ZtY)) (x:ZoC) (h:ZuX cs=some x):Zvb x=cs:=by unfold ZuX at h;split at h;rotate_left;simp at h;obtain⟨a0,h0,h⟩:=bind_some h;obtain⟨a1,h1,h⟩:=bind_some h;obtain⟨a2,h2,h⟩:=bind_some h;simp only[Option.some.injEq]at h;subst h;rw[as_car h0,as_car h1,as_car h2];rfl
def ZwF (x:ZoC):P:= .agg [.str x.word,ZjM x.canonical,ZjM x.value]
def Zs6 (x:ZnD):List (Lf ZtY):=[⟨(.sl (.int .i64)),x.l⟩,⟨(.int .i64),x.at_⟩]
def Zsd:List (Lf ZtY)→Option ZnD
 | [c0,c1]=>(c0.as (.sl (.int .i64))).bind fun a0=>(c1.as (.int .i64)).bind fun a1=>some (ZnD.mk a0 a1)
 |_=>none
theorem ZuY (cs:List (Lf ZtY)) (x:ZnD) (h:Zsd cs=some x):Zs6 x=cs:=by unfold Zsd at h;split at h;rotate_left;simp at h;obtain⟨a0,h0,h⟩:=bind_some h;obtain⟨a1,h1,h⟩:=bind_some h;simp only[Option.some.injEq]at h;subst h;rw[as_car h0,as_car h1];rfl
def Zvg (x:ZnD):P:= .agg [.sl 1 (x.l.map (fun x=> .int .i64 x)),.int .i64 x.at_]
def Zs7 (x:ZnG):List (Lf ZtY):=[⟨.bool,x.e0.Num.Neg⟩,⟨(.sl (.int .u32)),x.e0.Num.Words⟩,⟨.bool,x.e0.Den.Neg⟩,⟨(.sl (.int .u32)),x.e0.Den.Words⟩,⟨.bool,x.e1.Num.Neg⟩,⟨(.sl (.int .u32)),x.e1.Num.Words⟩,⟨.bool,x.e1.Den.Neg⟩,⟨(.sl (.int .u32)),x.e1.Den.Words⟩]
def Zse:List (Lf ZtY)→Option ZnG
 | [c0,c1,c2,c3,c4,c5,c6,c7]=>(c0.as .bool).bind fun a0=>(c1.as (.sl (.int .u32))).bind fun a1=>(c2.as .bool).bind fun a2=>(c3.as (.sl (.int .u32))).bind fun a3=>(c4.as .bool).bind fun a4=>(c5.as (.sl (.int .u32))).bind fun a5=>(c6.as .bool).bind fun a6=>(c7.as (.sl (.int .u32))).bind fun a7=>some (ZnG.mk (ZnB.mk (ZnI.mk a0 a1) (ZnI.mk a2 a3)) (ZnB.mk (ZnI.mk a4 a5) (ZnI.mk a6 a7)))
 |_=>none
theorem ZuZ (cs:List (Lf ZtY)) (x:ZnG) (h:Zse cs=some x):Zs7 x=cs:=by unfold Zse at h;split at h;rotate_left;simp at h;obtain⟨a0,h0,h⟩:=bind_some h;obtain⟨a1,h1,h⟩:=bind_some h;obtain⟨a2,h2,h⟩:=bind_some h;obtain⟨a3,h3,h⟩:=bind_some h;obtain⟨a4,h4,h⟩:=bind_some h;obtain⟨a5,h5,h⟩:=bind_some h;obtain⟨a6,h6,h⟩:=bind_some h;obtain⟨a7,h7,h⟩:=bind_some h;simp only[Option.some.injEq]at h;subst h;rw[as_car h0,as_car h1,as_car h2,as_car h3,as_car h4,as_car h5,as_car h6,as_car h7];rfl
def Zvh (x:ZnG):P:= .agg [.bool x.e0.Num.Neg,.sl 1 (x.e0.Num.Words.map (fun x=> .int .u32 x)),.bool x.e0.Den.Neg,.sl 1 (x.e0.Den.Words.map (fun x=> .int .u32 x)),.bool x.e1.Num.Neg,.sl 1 (x.e1.Num.Words.map (fun x=> .int .u32 x)),.bool x.e1.Den.Neg,.sl 1 (x.e1.Den.Words.map (fun x=> .int .u32 x))]
def Zuy (x:ZrU):List (Lf ZtY):=[⟨(.int .i64),x.K⟩,⟨.bool,x.All⟩,⟨(.sl (.st 4)),x.Entries⟩]
def Zt6:List (Lf ZtY)→Option ZrU
 | [c0,c1,c2]=>(c0.as (.int .i64)).bind fun a0=>(c1.as .bool).bind fun a1=>(c2.as (.sl (.st 4))).bind fun a2=>some (ZrU.mk a0 a1 a2)
 |_=>none
theorem Zv0 (cs:List (Lf ZtY)) (x:ZrU) (h:Zt6 cs=some x):Zuy x=cs:=by unfold Zt6 at h;split at h;rotate_left;simp at h;obtain⟨a0,h0,h⟩:=bind_some h;obtain⟨a1,h1,h⟩:=bind_some h;obtain⟨a2,h2,h⟩:=bind_some h;simp only[Option.some.injEq]at h;subst h;rw[as_car h0,as_car h1,as_car h2];rfl
def Zwr (x:ZrU):P:= .agg [.int .i64 x.K,.bool x.All,.sl 7 (x.Entries.map Zs5)]
def ZB7:(n:Nat)→ZtY n→List (Lf ZtY)
 |0,x=>ZvC x
 |1,x=>Zvd x
 |2,x=>ZvT x
 |3,x=>Zuz x
 |4,x=>ZtX x
 |5,x=>Zvc x
 |6,x=>Zvb x
 |7,x=>Zs6 x
 |8,x=>Zs7 x
 |9,x=>Zuy x
 |_+10,_=>[]
def ofU:(n:Nat)→List (Lf ZtY)→Option (ZtY n)
 |0,cs=>Zvw cs
 |1,cs=>Zu1 cs
 |2,cs=>ZvO cs
 |3,cs=>Zt7 cs
 |4,cs=>Ztq cs
 |5,cs=>Zu0 cs
 |6,cs=>ZuX cs
 |7,cs=>Zsd cs
 |8,cs=>Zse cs
 |9,cs=>Zt6 cs
 |_+10,cs=>match cs with | []=>some () |_=>none
def encU:(n:Nat)→ZtY n→P
 |0,x=>Zv4 x
 |1,x=>ZwH x
 |2,x=>Zxp x
 |3,x=>Zws x
 |4,x=>Zs5 x
 |5,x=>ZwG x
 |6,x=>ZwF x
 |7,x=>Zvg x
 |8,x=>Zvh x
 |9,x=>Zwr x
 |_+10,_=> .agg []
@[reducible] def U:Zc:=⟨ZtY,ZDf,ZB7,ofU,encU⟩
theorem uok:UOk U where
 of_cells:=fun n cs x h=>match n,x,h with
  |0,x,h=>ZwE cs x h
  |1,x,h=>Zwn cs x h
  |2,x,h=>ZwQ cs x h
  |3,x,h=>Zv1 cs x h
  |4,x,h=>Zvv cs x h
  |5,x,h=>Zwm cs x h
  |6,x,h=>Zwl cs x h
  |7,x,h=>ZuY cs x h
  |8,x,h=>ZuZ cs x h
  |9,x,h=>Zv0 cs x h
  |_+10,x,h=>by
   match cs,h with
   | [],h=>rfl
 enc_cells:=fun n x=>match n,x with
  |0,x=>rfl
  |1,x=>rfl
  |2,x=>rfl
  |3,x=>rfl
  |4,x=>rfl
  |5,x=>rfl
  |6,x=>rfl
  |7,x=>rfl
  |8,x=>rfl
  |9,x=>rfl
  |_+10,x=>rfl
 len:=fun n x=>match n,x with
  |0,x=>rfl
  |1,x=>rfl
  |2,x=>rfl
  |3,x=>rfl
  |4,x=>rfl
  |5,x=>rfl
  |6,x=>rfl
  |7,x=>rfl
  |8,x=>rfl
  |9,x=>rfl
  |_+10,x=>rfl
noncomputable def tt0:List (Option (TT U)):=[
 none,
 some ⟨⟨.func,1,8,[.p .nilfn]⟩,none,.fnc,[.nilfn],some ⟨.fnc,(none:Option Nat)⟩⟩,
 some ⟨⟨.int .i64,1,8,[.p (.int .i64 0)]⟩,none,(.int .i64),[.v (.int .i64) (0:Int)],some ⟨(.int .i64),(0:Int)⟩⟩,
 some ⟨⟨.int .i64,1,8,[.p (.int .i64 0)]⟩,none,(.int .i64),[.v (.int .i64) (0:Int)],some ⟨(.int .i64),(0:Int)⟩⟩,
 some ⟨⟨.bool,1,1,[.p (.bool false)]⟩,none,.bool,[.v .bool false],some ⟨.bool,false⟩⟩,
 some ⟨⟨.int .u8,1,1,[.p (.int .u8 0)]⟩,none,(.int .u8),[.v (.int .u8) (0:Int)],some ⟨(.int .u8),(0:Int)⟩⟩,
 none,
 none,
 none,
 some ⟨⟨.str,1,16,[.p (.str [])]⟩,none,.str,[.v .str ([]:Str)],some ⟨.str,([]:Str)⟩⟩,
 none,
 none,
 none,
 none,
 none,
 none,
 none,
 none,
 none,
 none,
 none,
 none,
 some ⟨⟨.sl 3,1,24,[.nils 1]⟩,none,(.sl (.int .i64)),[.nils (.int .i64)],some ⟨(.sl (.int .i64)),[]⟩⟩,
 none,
 none,
 some ⟨⟨.ptr 82,1,8,[.p .nilp]⟩,none,.bool,[.nilp],none⟩,
 none,
 none,
 some ⟨⟨.sl 41,1,24,[.nils 2]⟩,none,(.sl (.st 0)),[.nils (.st 0)],some ⟨(.sl (.st 0)),[]⟩⟩,
 some ⟨⟨.struct [(0,9),(1,28)],2,40,[.p (.str []),.nils 2]⟩,some 1,(.st 1),[.v .str ([]:Str),.nils (.st 0)],some ⟨(.st 1),(ZnL.mk ([]:Str) ([]:(List ZnE)))⟩⟩,
 some ⟨⟨.struct [(0,9),(1,28)],2,40,[.p (.str []),.nils 2]⟩,some 1,(.st 1),[.v .str ([]:Str),.nils (.st 0)],some ⟨(.st 1),(ZnL.mk ([]:Str) ([]:(List ZnE)))⟩⟩,
 none,
 none,
 some ⟨⟨.sl 51,1,24,[.nils 7]⟩,none,(.sl (.st 4)),[.nils (.st 4)],some ⟨(.sl (.st 4)),[]⟩⟩,
 some ⟨⟨.struct [(0,3),(1,4),(2,33)],3,40,[.p (.int .i64 0),.p (.bool false),.nils 7]⟩,some 5,(.st 5),[.v (.int .i64) (0:Int),.v .bool false,.nils (.st 4)],some ⟨(.st 5),(ZnF.mk 0 false ([]:(List ZnA)))⟩⟩,
 some ⟨⟨.struct [(0,3),(1,4),(2,33)],3,40,[.p (.int .i64 0),.p (.bool false),.nils 7]⟩,some 5,(.st 5),[.v (.int .i64) (0:Int),.v .bool false,.nils (.st 4)],some ⟨(.st 5),(ZnF.mk 0 false ([]:(List ZnA)))⟩⟩,
 some ⟨⟨.int .i64,1,8,[.p (.int .i64 0)]⟩,none,(.int .i64),[.v (.int .i64) (0:Int)],some ⟨(.int .i64),(0:Int)⟩⟩,
 none,
 none,
 none,
 some ⟨⟨.struct [(0,4),(1,9)],2,24,[.p (.bool false),.p (.str [])]⟩,some 0,(.st 0),[.v .bool false,.v .str ([]:Str)],some ⟨(.st 0),(ZnE.mk false ([]:Str))⟩⟩,
 some ⟨⟨.struct [(0,4),(1,9)],2,24,[.p (.bool false),.p (.str [])]⟩,some 0,(.st 0),[.v .bool false,.v .str ([]:Str)],some ⟨(.st 0),(ZnE.mk false ([]:Str))⟩⟩,
 some ⟨⟨.sl 128,1,24,[.nils 1]⟩,none,(.sl (.int .u32)),[.nils (.int .u32)],some ⟨(.sl (.int .u32)),[]⟩⟩,
 some ⟨⟨.struct [(0,4),(1,42)],2,32,[.p (.bool false),.nils 1]⟩,some 2,(.st 2),[.v .bool false,.nils (.int .u32)],some ⟨(.st 2),(ZnI.mk false ([]:(List Int)))⟩⟩,
 some ⟨⟨.struct [(0,4),(1,42)],2,32,[.p (.bool false),.nils 1]⟩,some 2,(.st 2),[.v .bool false,.nils (.int .u32)],some ⟨(.st 2),(ZnI.mk false ([]:(List Int)))⟩⟩,
 some ⟨⟨.struct [(0,44),(2,44)],4,64,[.p (.bool false),.nils 1,.p (.bool false),.nils 1]⟩,some 3,(.st 3),[.v .bool false,.nils (.int .u32),.v .bool false,.nils (.int .u32)],some ⟨(.st 3),(ZnB.mk (ZnI.mk false ([]:(List Int))) (ZnI.mk false ([]:(List Int))))⟩⟩,
 some ⟨⟨.struct [(0,44),(2,44)],4,64,[.p (.bool false),.nils 1,.p (.bool false),.nils 1]⟩,some 3,(.st 3),[.v .bool false,.nils (.int .u32),.v .bool false,.nils (.int .u32)],some ⟨(.st 3),(ZnB.mk (ZnI.mk false ([]:(List Int))) (ZnI.mk false ([]:(List Int))))⟩⟩,
 none,
 none,
 some ⟨⟨.int .u64,1,8,[.p (.int .u64 0)]⟩,none,(.int .u64),[.v (.int .u64) (0:Int)],some ⟨(.int .u64),(0:Int)⟩⟩,
 some ⟨⟨.struct [(0,9),(1,49),(2,3),(3,46)],7,96,[.p (.str []),.p (.int .u64 0),.p (.int .i64 0),.p (.bool false),.nils 1,.p (.bool false),.nils 1]⟩,some 4,(.st 4),[.v .str ([]:Str),.v (.int .u64) (0:Int),.v (.int .i64) (0:Int),.v .bool false,.nils (.int .u32),.v .bool false,.nils (.int .u32)],some ⟨(.st 4),(ZnA.mk ([]:Str) 0 0 (ZnB.mk (ZnI.mk false ([]:(List Int))) (ZnI.mk false ([]:(List Int)))))⟩⟩,
 some ⟨⟨.struct [(0,9),(1,49),(2,3),(3,46)],7,96,[.p (.str []),.p (.int .u64 0),.p (.int .i64 0),.p (.bool false),.nils 1,.p (.bool false),.nils 1]⟩,some 4,(.st 4),[.v .str ([]:Str),.v (.int .u64) (0:Int),.v (.int .i64) (0:Int),.v .bool false,.nils (.int .u32),.v .bool false,.nils (.int .u32)],some ⟨(.st 4),(ZnA.mk ([]:Str) 0 0 (ZnB.mk (ZnI.mk false ([]:(List Int))) (ZnI.mk false ([]:(List Int)))))⟩⟩,
 none,
 none,
 none,
 some ⟨⟨.sl 58,1,24,[.nils 8]⟩,none,(.sl (.st 8)),[.nils (.st 8)],some ⟨(.sl (.st 8)),[]⟩⟩,
 none,
 none,
 some ⟨⟨.arr 2 46,8,128,[.p (.bool false),.nils 1,.p (.bool false),.nils 1,.p (.bool false),.nils 1,.p (.bool false),.nils 1]⟩,some 8,(.st 8),[.v .bool false,.nils (.int .u32),.v .bool false,.nils (.int .u32),.v .bool false,.nils (.int .u32),.v .bool false,.nils (.int .u32)],some ⟨(.st 8),(ZnG.mk (ZnB.mk (ZnI.mk false ([]:(List Int))) (ZnI.mk false ([]:(List Int)))) (ZnB.mk (ZnI.mk false ([]:(List Int))) (ZnI.mk false ([]:(List Int)))))⟩⟩,
 none,
 none,
 none,
 none,
 none,
 none,
 none,
 none,
 none,
 none,
 none,
 none,
 none,
 none,
 none,
 none,
 none,
 none,
 none,
 none,
 none,
 none,
 some ⟨⟨.struct [(0,22),(1,3)],2,32,[.nils 1,.p (.int .i64 0)]⟩,some 7,(.st 7),[.nils (.int .i64),.v (.int .i64) (0:Int)],some ⟨(.st 7),(ZnD.mk ([]:(List Int)) 0)⟩⟩,
 some ⟨⟨.struct [(0,22),(1,3)],2,32,[.nils 1,.p (.int .i64 0)]⟩,some 7,(.st 7),[.nils (.int .i64),.v (.int .i64) (0:Int)],some ⟨(.st 7),(ZnD.mk ([]:(List Int)) 0)⟩⟩,
 none,
 none,
 some ⟨⟨.func,1,8,[.p .nilfn]⟩,none,.fnc,[.nilfn],some ⟨.fnc,(none:Option Nat)⟩⟩,
 none,
 none,
 none,
 none,
 none,
 none,
 none,
 none,
 none,
 none,
 none,
 none,
 none,
 none,
 none,
 none,
 none,
 none,
 none,
 none,
 none,
 none,
 none,
 none,
 none,
 none,
 none,
 some ⟨⟨.func,1,8,[.p .nilfn]⟩,none,.fnc,[.nilfn],some ⟨.fnc,(none:Option Nat)⟩⟩,
 some ⟨⟨.sl 9,1,24,[.nils 1]⟩,none,(.sl .str),[.nils .str],some ⟨(.sl .str),[]⟩⟩,
 some ⟨⟨.map 9 3,1,8,[.p (.map (.str) [])]⟩,none,(.map .str (.int .i64)),[.v (.map .str (.int .i64)) []],some ⟨(.map .str (.int .i64)),[]⟩⟩,
 none,
 none,
 none,
 none,
 none,
 none,
 some ⟨⟨.func,1,8,[.p .nilfn]⟩,none,.fnc,[.nilfn],some ⟨.fnc,(none:Option Nat)⟩⟩,
 none,
 none,
 none,
 some ⟨⟨.func,1,8,[.p .nilfn]⟩,none,.fnc,[.nilfn],some ⟨.fnc,(none:Option Nat)⟩⟩,
 some ⟨⟨.struct [(0,3),(1,4),(2,33)],3,40,[.p (.int .i64 0),.p (.bool false),.nils 7]⟩,some 9,(.st 9),[.v (.int .i64) (0:Int),.v .bool false,.nils (.st 4)],some ⟨(.st 9),(ZrU.mk 0 false ([]:(List ZnA)))⟩⟩,
 some ⟨⟨.int .u32,1,4,[.p (.int .u32 0)]⟩,none,(.int .u32),[.v (.int .u32) (0:Int)],some ⟨(.int .u32),(0:Int)⟩⟩,
 none,
 some ⟨⟨.int .u64,1,8,[.p (.int .u64 0)]⟩,none,(.int .u64),[.v (.int .u64) (0:Int)],some ⟨(.int .u64),(0:Int)⟩⟩,
 none,
 none,
 none,
 none,
 none,
 none,
 none,
 none,
 none,
 none,
 none,
 none,
 none,
 none,
 none,
 some ⟨⟨.sl 128,1,24,[.nils 1]⟩,none,(.sl (.int .u32)),[.nils (.int .u32)],some ⟨(.sl (.int .u32)),[]⟩⟩,
 none,
 none,
 none,
 none,
 none,
 none,
 none,
 none,
 none,
 none,
 none,
 none,
 none,
 none,
 none,
 some ⟨⟨.sl 5,1,24,[.nils 1]⟩,none,(.sl (.int .u8)),[.nils (.int .u8)],some ⟨(.sl (.int .u8)),[]⟩⟩,
 none,
 none,
 none,
 some ⟨⟨.func,1,8,[.p .nilfn]⟩,none,.fnc,[.nilfn],some ⟨.fnc,(none:Option Nat)⟩⟩,
 some ⟨⟨.struct [(0,9),(1,166),(2,122)],3,32,[.p (.str []),.p .nilfn,.p .nilfn]⟩,some 6,(.st 6),[.v .str ([]:Str),.nilfn,.nilfn],some ⟨(.st 6),(ZoC.mk ([]:Str) (none:Option Nat) (none:Option Nat))⟩⟩,
 some ⟨⟨.struct [(0,9),(1,166),(2,122)],3,32,[.p (.str []),.p .nilfn,.p .nilfn]⟩,some 6,(.st 6),[.v .str ([]:Str),.nilfn,.nilfn],some ⟨(.st 6),(ZoC.mk ([]:Str) (none:Option Nat) (none:Option Nat))⟩⟩,
 some ⟨⟨.map 3 168,1,8,[.p (.map (.int .i64) [])]⟩,none,(.map (.int .i64) (.st 6)),[.v (.map (.int .i64) (.st 6)) []],some ⟨(.map (.int .i64) (.st 6)),[]⟩⟩,
 none,
 none,
 some ⟨⟨.int .i64,1,8,[.p (.int .i64 0)]⟩,none,(.int .i64),[.v (.int .i64) (0:Int)],some ⟨(.int .i64),(0:Int)⟩⟩,
 none,
 none,
 none,
 none,
 none,
 none,
 none,
 none,
 some ⟨⟨.sl 44,1,24,[.nils 2]⟩,none,(.sl (.st 2)),[.nils (.st 2)],some ⟨(.sl (.st 2)),[]⟩⟩,
 none,
 none,
 none,
 none,
 none,
 none,
 none,
 none,
 some ⟨⟨.func,1,8,[.p .nilfn]⟩,none,.fnc,[.nilfn],some ⟨.fnc,(none:Option Nat)⟩⟩,
 some ⟨⟨.func,1,8,[.p .nilfn]⟩,none,.fnc,[.nilfn],some ⟨.fnc,(none:Option Nat)⟩⟩,
 none,
 none,
 none,
 none,
 none,
 none,
 none,
 none,
 none,
 none,
 none,
 none,
 some ⟨⟨.int .u64,1,8,[.p (.int .u64 0)]⟩,none,(.int .u64),[.v (.int .u64) (0:Int)],some ⟨(.int .u64),(0:Int)⟩⟩,
 none,
 none,
 none,
 some ⟨⟨.ptr 3,1,8,[.p .nilp]⟩,none,.bool,[.nilp],none⟩,
 none,
 none,
 none,
 none,
 none,
 none,
 none,
 none,
 none,
 none,
 none,
 none,
 none,
 none,
 none,
 none,
 none,
 none,
 none,
 none,
 none,
 none,
 none,
 none,
 none,
 none,
 none,
 none,
 none,
 some ⟨⟨.ptr 204,1,8,[.p .nilp]⟩,none,.bool,[.nilp],none⟩,
 none,
 none,
 none,
 none,
 none,
 none,
 none,
 none,
 none,
 none,
 none,
 none,
 none,
 none,
 none,
 none,
 none,
 none,
 none,
 none,
 none,
 none,
 none,
 none,
 none,
 none,
 none,
 none,
 none,
 none,
 none,
 none,
 none,
 none,
 none,
 none,
 none,
 none,
 none,
 none,
 none,
 none,
 none,
 none,
 none,
 none,
 none,
 none,
 none,
 none,
 none,
 none,
 none,
 none,
 none,
 none,
 none,
 none,
 none,
 none,
 none,
 none,
 none,
 none,
 none,
 none,
 none,
 none,
 none]
noncomputable def X0:ZG U:=⟨Tryz.prog,tt0,[(2,ZwA),(4,ZtJ)],0⟩
theorem tok0:TOk X0:=tok_of (by kernel_rfl) (by kernel_rfl) (by kernel_rfl)
theorem eok0:Zk X0.E:=⟨by kernel_rfl⟩
theorem mixed:X0.prog.follows .mixedOrders=true:=by kernel_rfl
theorem G0:Gnd X0:=⟨uok,tok0,eok0,mixed⟩
noncomputable def Zuv:Zj9 U:=⟨Str,[9,9],[.p,.p],[none,none],[.p .str,.p .str],fun v=>Zvf v.1 v.2.1,fun q=>⟨[.p ⟨.str,q⟩],[]⟩⟩
noncomputable def Zrm:Zj9 U:=⟨Int,[9,5],[.p,.p],[none,none],[.p .str,.p (.int .u8)],fun v=>Zp9 v.1 v.2.1,fun q=>⟨[.p ⟨(.int .i64),q⟩],[]⟩⟩
noncomputable def ZuA:Zj9 U:=⟨Str,[9,9],[.p,.p],[none,none],[.p .str,.p .str],fun v=>ZtN v.1 v.2.1,fun q=>⟨[.p ⟨.str,q⟩],[]⟩⟩
noncomputable def Zuo:Zj9 U:=⟨Str,[9,9],[.p,.p],[none,none],[.p .str,.p .str],fun v=>ZuP v.1 v.2.1,fun q=>⟨[.p ⟨.str,q⟩],[]⟩⟩
noncomputable def Zrn:Zj9 U:=⟨Int,[9,9],[.p,.p],[none,none],[.p .str,.p .str],fun v=>ZoZ v.1 v.2.1,fun q=>⟨[.p ⟨(.int .i64),q⟩],[]⟩⟩
noncomputable def Zuw:Zj9 U:=⟨Str,[3],[.p],[none],[.p (.int .i64)],fun v=>Zsv v.1,fun q=>⟨[.p ⟨.str,q⟩],[]⟩⟩
end Go.Proofs
