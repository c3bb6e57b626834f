/- Printed by wip/tools/tgen.py: tables. -/
import Derived.Test.YtbjnddlpdlfknaaGreatDoorSsS
import Derived.Test.YtbjnddlpdlfknaaGreatDoorProg
import Derived.KernelRfl
set_option linter.unusedVariables false
set_option linter.unusedSimpArgs false
set_option linter.unusedSectionVars false
namespace Go.Proofs
open Go Eng
set_option maxRecDepth 100000
def ZwF (x:ZnB):List (Lf ZuU):=[⟨.bool,x.Null⟩,⟨.str,x.Text⟩]
def Zwz:List (Lf ZuU)→Option ZnB
 | [c0,c1]=>(c0.as .bool).bind fun a0=>(c1.as .str).bind fun a1=>some (ZnB.mk a0 a1)
 |_=>none
theorem ZxD (cs:List (Lf ZuU)) (x:ZnB) (h:Zwz cs=some x):ZwF x=cs:=by unfold Zwz at h;split at h;rotate_left;simp at h;obtain⟨a0,h0,h⟩:=bind_some h;obtain⟨a1,h1,h⟩:=bind_some h;simp only[Option.some.injEq]at h;subst h;rw[as_car h0,as_car h1];rfl
def Zw1 (x:ZnB):P:= .agg [.bool x.Null,.str x.Text]
def Zwk (x:ZnI):List (Lf ZuU):=[⟨.str,x.Name⟩,⟨(.sl (.st 0)),x.Cells⟩]
def Zv5:List (Lf ZuU)→Option ZnI
 | [c0,c1]=>(c0.as .str).bind fun a0=>(c1.as (.sl (.st 0))).bind fun a1=>some (ZnI.mk a0 a1)
 |_=>none
theorem Zxk (cs:List (Lf ZuU)) (x:ZnI) (h:Zv5 cs=some x):Zwk x=cs:=by unfold Zv5 at h;split at h;rotate_left;simp at h;obtain⟨a0,h0,h⟩:=bind_some h;obtain⟨a1,h1,h⟩:=bind_some h;simp only[Option.some.injEq]at h;subst h;rw[as_car h0,as_car h1];rfl
def ZxG (x:ZnI):P:= .agg [.str x.Name,.sl 2 (x.Cells.map Zw1)]
def ZwS (x:ZnC):List (Lf ZuU):=[⟨.bool,x.Neg⟩,⟨(.sl (.int .u32)),x.Words⟩]
def ZwM:List (Lf ZuU)→Option ZnC
 | [c0,c1]=>(c0.as .bool).bind fun a0=>(c1.as (.sl (.int .u32))).bind fun a1=>some (ZnC.mk a0 a1)
 |_=>none
theorem ZxO (cs:List (Lf ZuU)) (x:ZnC) (h:ZwM cs=some x):ZwS x=cs:=by unfold ZwM at h;split at h;rotate_left;simp at h;obtain⟨a0,h0,h⟩:=bind_some h;obtain⟨a1,h1,h⟩:=bind_some h;simp only[Option.some.injEq]at h;subst h;rw[as_car h0,as_car h1];rfl
def Zyq (x:ZnC):P:= .agg [.bool x.Neg,.sl 1 (x.Words.map (fun x=> .int .u32 x))]
def Zvw (x:ZnD):List (Lf ZuU):=[⟨.bool,x.Num.Neg⟩,⟨(.sl (.int .u32)),x.Num.Words⟩,⟨.bool,x.Den.Neg⟩,⟨(.sl (.int .u32)),x.Den.Words⟩]
def Zu1:List (Lf ZuU)→Option ZnD
 | [c0,c1,c2,c3]=>(c0.as .bool).bind fun a0=>(c1.as (.sl (.int .u32))).bind fun a1=>(c2.as .bool).bind fun a2=>(c3.as (.sl (.int .u32))).bind fun a3=>some (ZnD.mk (ZnC.mk a0 a1) (ZnC.mk a2 a3))
 |_=>none
theorem ZwY (cs:List (Lf ZuU)) (x:ZnD) (h:Zu1 cs=some x):Zvw x=cs:=by unfold Zu1 at h;split at h;rotate_left;simp at h;obtain⟨a0,h0,h⟩:=bind_some h;obtain⟨a1,h1,h⟩:=bind_some h;obtain⟨a2,h2,h⟩:=bind_some h;obtain⟨a3,h3,h⟩:=bind_some h;simp only[Option.some.injEq]at h;subst h;rw[as_car h0,as_car h1,as_car h2,as_car h3];rfl
def Zxo (x:ZnD):P:= .agg [.bool x.Num.Neg,.sl 1 (x.Num.Words.map (fun x=> .int .u32 x)),.bool x.Den.Neg,.sl 1 (x.Den.Words.map (fun x=> .int .u32 x))]
def ZuT (x:ZnA):List (Lf ZuU):=[⟨.str,x.Key⟩,⟨(.int .u64),x.Hash⟩,⟨(.int .i64),x.Count⟩,⟨.bool,x.Sum.Num.Neg⟩,⟨(.sl (.int .u32)),x.Sum.Num.Words⟩,⟨.bool,x.Sum.Den.Neg⟩,⟨(.sl (.int .u32)),x.Sum.Den.Words⟩]
def Zuh:List (Lf ZuU)→Option ZnA
 | [c0,c1,c2,c3,c4,c5,c6]=>(c0.as .str).bind fun a0=>(c1.as (.int .u64)).bind fun a1=>(c2.as (.int .i64)).bind fun a2=>(c3.as .bool).bind fun a3=>(c4.as (.sl (.int .u32))).bind fun a4=>(c5.as .bool).bind fun a5=>(c6.as (.sl (.int .u32))).bind fun a6=>some (ZnA.mk a0 a1 a2 (ZnD.mk (ZnC.mk a3 a4) (ZnC.mk a5 a6)))
 |_=>none
theorem Zwy (cs:List (Lf ZuU)) (x:ZnA) (h:Zuh cs=some x):ZuT x=cs:=by unfold Zuh at h;split at h;rotate_left;simp at h;obtain⟨a0,h0,h⟩:=bind_some h;obtain⟨a1,h1,h⟩:=bind_some h;obtain⟨a2,h2,h⟩:=bind_some h;obtain⟨a3,h3,h⟩:=bind_some h;obtain⟨a4,h4,h⟩:=bind_some h;obtain⟨a5,h5,h⟩:=bind_some h;obtain⟨a6,h6,h⟩:=bind_some h;simp only[Option.some.injEq]at h;subst h;rw[as_car h0,as_car h1,as_car h2,as_car h3,as_car h4,as_car h5,as_car h6];rfl
def Zvk (x:ZnA):P:= .agg [.str x.Key,.int .u64 x.Hash,.int .i64 x.Count,.bool x.Sum.Num.Neg,.sl 1 (x.Sum.Num.Words.map (fun x=> .int .u32 x)),.bool x.Sum.Den.Neg,.sl 1 (x.Sum.Den.Words.map (fun x=> .int .u32 x))]
def Zwj (x:ZnG):List (Lf ZuU):=[⟨(.int .i64),x.K⟩,⟨.bool,x.All⟩,⟨(.sl (.st 4)),x.Entries⟩]
def Zv4:List (Lf ZuU)→Option ZnG
 | [c0,c1,c2]=>(c0.as (.int .i64)).bind fun a0=>(c1.as .bool).bind fun a1=>(c2.as (.sl (.st 4))).bind fun a2=>some (ZnG.mk a0 a1 a2)
 |_=>none
theorem Zxj (cs:List (Lf ZuU)) (x:ZnG) (h:Zv4 cs=some x):Zwj x=cs:=by unfold Zv4 at h;split at h;rotate_left;simp at h;obtain⟨a0,h0,h⟩:=bind_some h;obtain⟨a1,h1,h⟩:=bind_some h;obtain⟨a2,h2,h⟩:=bind_some h;simp only[Option.some.injEq]at h;subst h;rw[as_car h0,as_car h1,as_car h2];rfl
def ZxF (x:ZnG):P:= .agg [.int .i64 x.K,.bool x.All,.sl 7 (x.Entries.map Zvk)]
def Zwi (x:Zot):List (Lf ZuU):=[⟨.str,x.word⟩,⟨.fnc,x.canonical⟩,⟨.fnc,x.value⟩]
def Zv2:List (Lf ZuU)→Option Zot
 | [c0,c1,c2]=>(c0.as .str).bind fun a0=>(c1.as .fnc).bind fun a1=>(c2.as .fnc).bind fun a2=>some (Zot.mk a0 a1 a2)
 |_=>none
theorem Zxi (cs:List (Lf ZuU)) (x:Zot) (h:Zv2 cs=some x):Zwi x=cs:=by unfold Zv2 at h;split at h;rotate_left;simp at h;obtain⟨a0,h0,h⟩:=bind_some h;obtain⟨a1,h1,h⟩:=bind_some h;obtain⟨a2,h2,h⟩:=bind_some h;simp only[Option.some.injEq]at h;subst h;rw[as_car h0,as_car h1,as_car h2];rfl
def ZxE (x:Zot):P:= .agg [.str x.word,ZjM x.canonical,ZjM x.value]
def ZtZ (x:ZnE):List (Lf ZuU):=[⟨(.sl (.int .i64)),x.l⟩,⟨(.int .i64),x.at_⟩]
def Zs0:List (Lf ZuU)→Option ZnE
 | [c0,c1]=>(c0.as (.sl (.int .i64))).bind fun a0=>(c1.as (.int .i64)).bind fun a1=>some (ZnE.mk a0 a1)
 |_=>none
theorem Zv3 (cs:List (Lf ZuU)) (x:ZnE) (h:Zs0 cs=some x):ZtZ x=cs:=by unfold Zs0 at h;split at h;rotate_left;simp at h;obtain⟨a0,h0,h⟩:=bind_some h;obtain⟨a1,h1,h⟩:=bind_some h;simp only[Option.some.injEq]at h;subst h;rw[as_car h0,as_car h1];rfl
def Zwo (x:ZnE):P:= .agg [.sl 1 (x.l.map (fun x=> .int .i64 x)),.int .i64 x.at_]
def ZC9:(n:Nat)→ZuU n→List (Lf ZuU)
 |0,x=>ZwF x
 |1,x=>Zwk x
 |2,x=>ZwS x
 |3,x=>Zvw x
 |4,x=>ZuT x
 |5,x=>Zwj x
 |6,x=>Zwi x
 |7,x=>ZtZ x
 |_+8,_=>[]
def ofU:(n:Nat)→List (Lf ZuU)→Option (ZuU n)
 |0,cs=>Zwz cs
 |1,cs=>Zv5 cs
 |2,cs=>ZwM cs
 |3,cs=>Zu1 cs
 |4,cs=>Zuh cs
 |5,cs=>Zv4 cs
 |6,cs=>Zv2 cs
 |7,cs=>Zs0 cs
 |_+8,cs=>match cs with | []=>some () |_=>none
def encU:(n:Nat)→ZuU n→P
 |0,x=>Zw1 x
 |1,x=>ZxG x
 |2,x=>Zyq x
 |3,x=>Zxo x
 |4,x=>Zvk x
 |5,x=>ZxF x
 |6,x=>ZxE x
 |7,x=>Zwo x
 |_+8,_=> .agg []
@[reducible] def U:Zc:=⟨ZuU,ZEm,ZC9,ofU,encU⟩
theorem uok:UOk U where
 of_cells:=fun n cs x h=>match n,x,h with
  |0,x,h=>ZxD cs x h
  |1,x,h=>Zxk cs x h
  |2,x,h=>ZxO cs x h
  |3,x,h=>ZwY cs x h
  |4,x,h=>Zwy cs x h
  |5,x,h=>Zxj cs x h
  |6,x,h=>Zxi cs x h
  |7,x,h=>Zv3 cs x h
  |_+8,x,h=>by
   match cs,h with
   | [],h=>rfl
 enc_cells:=fun n x=>match n,x with
  |0,x=>rfl
  |1,x=>rfl
  |2,x=>rfl
  |3,x=>rfl
  |4,x=>rfl
  |5,x=>rfl
  |6,x=>rfl
  |7,x=>rfl
  |_+8,x=>rfl
 len:=fun n x=>match n,x with
  |0,x=>rfl
  |1,x=>rfl
  |2,x=>rfl
  |3,x=>rfl
  |4,x=>rfl
  |5,x=>rfl
  |6,x=>rfl
  |7,x=>rfl
  |_+8,x=>rfl
noncomputable def tt0:List (Option (TT U)):=[
 none,
 some ⟨⟨.func,1,8,[.p .nilfn]⟩,none,.fnc,[.nilfn],some ⟨.fnc,(none:Option Nat)⟩⟩,
 some ⟨⟨.int .i64,1,8,[.p (.int .i64 0)]⟩,none,(.int .i64),[.v (.int .i64) (0:Int)],some ⟨(.int .i64),(0:Int)⟩⟩,
 some ⟨⟨.int .i64,1,8,[.p (.int .i64 0)]⟩,none,(.int .i64),[.v (.int .i64) (0:Int)],some ⟨(.int .i64),(0:Int)⟩⟩,
 some ⟨⟨.bool,1,1,[.p (.bool false)]⟩,none,.bool,[.v .bool false],some ⟨.bool,false⟩⟩,
 some ⟨⟨.int .u8,1,1,[.p (.int .u8 0)]⟩,none,(.int .u8),[.v (.int .u8) (0:Int)],some ⟨(.int .u8),(0:Int)⟩⟩,
 none,
 none,
 none,
 some ⟨⟨.str,1,16,[.p (.str [])]⟩,none,.str,[.v .str ([]:Str)],some ⟨.str,([]:Str)⟩⟩,
 none,
 none,
 none,
 none,
 none,
 none,
 none,
 none,
 none,
 none,
 none,
 none,
 some ⟨⟨.sl 3,1,24,[.nils 1]⟩,none,(.sl (.int .i64)),[.nils (.int .i64)],some ⟨(.sl (.int .i64)),[]⟩⟩,
 none,
 none,
 some ⟨⟨.ptr 82,1,8,[.p .nilp]⟩,none,.bool,[.nilp],none⟩,
 none,
 none,
 some ⟨⟨.sl 41,1,24,[.nils 2]⟩,none,(.sl (.st 0)),[.nils (.st 0)],some ⟨(.sl (.st 0)),[]⟩⟩,
 some ⟨⟨.struct [(0,9),(1,28)],2,40,[.p (.str []),.nils 2]⟩,some 1,(.st 1),[.v .str ([]:Str),.nils (.st 0)],some ⟨(.st 1),(ZnI.mk ([]:Str) ([]:(List ZnB)))⟩⟩,
 some ⟨⟨.struct [(0,9),(1,28)],2,40,[.p (.str []),.nils 2]⟩,some 1,(.st 1),[.v .str ([]:Str),.nils (.st 0)],some ⟨(.st 1),(ZnI.mk ([]:Str) ([]:(List ZnB)))⟩⟩,
 none,
 none,
 some ⟨⟨.sl 51,1,24,[.nils 7]⟩,none,(.sl (.st 4)),[.nils (.st 4)],some ⟨(.sl (.st 4)),[]⟩⟩,
 some ⟨⟨.struct [(0,3),(1,4),(2,33)],3,40,[.p (.int .i64 0),.p (.bool false),.nils 7]⟩,some 5,(.st 5),[.v (.int .i64) (0:Int),.v .bool false,.nils (.st 4)],some ⟨(.st 5),(ZnG.mk 0 false ([]:(List ZnA)))⟩⟩,
 some ⟨⟨.struct [(0,3),(1,4),(2,33)],3,40,[.p (.int .i64 0),.p (.bool false),.nils 7]⟩,some 5,(.st 5),[.v (.int .i64) (0:Int),.v .bool false,.nils (.st 4)],some ⟨(.st 5),(ZnG.mk 0 false ([]:(List ZnA)))⟩⟩,
 some ⟨⟨.int .i64,1,8,[.p (.int .i64 0)]⟩,none,(.int .i64),[.v (.int .i64) (0:Int)],some ⟨(.int .i64),(0:Int)⟩⟩,
 none,
 none,
 some ⟨⟨.map 9 4,1,8,[.p (.map (.str) [])]⟩,none,(.map .str .bool),[.v (.map .str .bool) []],some ⟨(.map .str .bool),[]⟩⟩,
 some ⟨⟨.struct [(0,4),(1,9)],2,24,[.p (.bool false),.p (.str [])]⟩,some 0,(.st 0),[.v .bool false,.v .str ([]:Str)],some ⟨(.st 0),(ZnB.mk false ([]:Str))⟩⟩,
 some ⟨⟨.struct [(0,4),(1,9)],2,24,[.p (.bool false),.p (.str [])]⟩,some 0,(.st 0),[.v .bool false,.v .str ([]:Str)],some ⟨(.st 0),(ZnB.mk false ([]:Str))⟩⟩,
 some ⟨⟨.sl 128,1,24,[.nils 1]⟩,none,(.sl (.int .u32)),[.nils (.int .u32)],some ⟨(.sl (.int .u32)),[]⟩⟩,
 some ⟨⟨.struct [(0,4),(1,42)],2,32,[.p (.bool false),.nils 1]⟩,some 2,(.st 2),[.v .bool false,.nils (.int .u32)],some ⟨(.st 2),(ZnC.mk false ([]:(List Int)))⟩⟩,
 some ⟨⟨.struct [(0,4),(1,42)],2,32,[.p (.bool false),.nils 1]⟩,some 2,(.st 2),[.v .bool false,.nils (.int .u32)],some ⟨(.st 2),(ZnC.mk false ([]:(List Int)))⟩⟩,
 some ⟨⟨.struct [(0,44),(2,44)],4,64,[.p (.bool false),.nils 1,.p (.bool false),.nils 1]⟩,some 3,(.st 3),[.v .bool false,.nils (.int .u32),.v .bool false,.nils (.int .u32)],some ⟨(.st 3),(ZnD.mk (ZnC.mk false ([]:(List Int))) (ZnC.mk false ([]:(List Int))))⟩⟩,
 some ⟨⟨.struct [(0,44),(2,44)],4,64,[.p (.bool false),.nils 1,.p (.bool false),.nils 1]⟩,some 3,(.st 3),[.v .bool false,.nils (.int .u32),.v .bool false,.nils (.int .u32)],some ⟨(.st 3),(ZnD.mk (ZnC.mk false ([]:(List Int))) (ZnC.mk false ([]:(List Int))))⟩⟩,
 none,
 none,
 some ⟨⟨.int .u64,1,8,[.p (.int .u64 0)]⟩,none,(.int .u64),[.v (.int .u64) (0:Int)],some ⟨(.int .u64),(0:Int)⟩⟩,
 some ⟨⟨.struct [(0,9),(1,49),(2,3),(3,46)],7,96,[.p (.str []),.p (.int .u64 0),.p (.int .i64 0),.p (.bool false),.nils 1,.p (.bool false),.nils 1]⟩,some 4,(.st 4),[.v .str ([]:Str),.v (.int .u64) (0:Int),.v (.int .i64) (0:Int),.v .bool false,.nils (.int .u32),.v .bool false,.nils (.int .u32)],some ⟨(.st 4),(ZnA.mk ([]:Str) 0 0 (ZnD.mk (ZnC.mk false ([]:(List Int))) (ZnC.mk false ([]:(List Int)))))⟩⟩,
 some ⟨⟨.struct [(0,9),(1,49),(2,3),(3,46)],7,96,[.p (.str []),.p (.int .u64 0),.p (.int .i64 0),.p (.bool false),.nils 1,.p (.bool false),.nils 1]⟩,some 4,(.st 4),[.v .str ([]:Str),.v (.int .u64) (0:Int),.v (.int .i64) (0:Int),.v .bool false,.nils (.int .u32),.v .bool false,.nils (.int .u32)],some ⟨(.st 4),(ZnA.mk ([]:Str) 0 0 (ZnD.mk (ZnC.mk false ([]:(List Int))) (ZnC.mk false ([]:(List Int)))))⟩⟩,
 none,
 none,
 none,
 none,
 none,
 none,
 none,
 none,
 none,
 none,
 none,
 none,
 none,
 none,
 none,
 none,
 none,
 none,
 none,
 none,
 none,
 none,
 none,
 none,
 none,
 none,
 none,
 none,
 none,
 some ⟨⟨.struct [(0,22),(1,3)],2,32,[.nils 1,.p (.int .i64 0)]⟩,some 7,(.st 7),[.nils (.int .i64),.v (.int .i64) (0:Int)],some ⟨(.st 7),(ZnE.mk ([]:(List Int)) 0)⟩⟩,
 some ⟨⟨.struct [(0,22),(1,3)],2,32,[.nils 1,.p (.int .i64 0)]⟩,some 7,(.st 7),[.nils (.int .i64),.v (.int .i64) (0:Int)],some ⟨(.st 7),(ZnE.mk ([]:(List Int)) 0)⟩⟩,
 none,
 none,
 none,
 none,
 none,
 none,
 none,
 none,
 none,
 none,
 none,
 none,
 none,
 none,
 none,
 none,
 none,
 none,
 none,
 none,
 none,
 none,
 none,
 none,
 none,
 none,
 none,
 none,
 none,
 none,
 some ⟨⟨.func,1,8,[.p .nilfn]⟩,none,.fnc,[.nilfn],some ⟨.fnc,(none:Option Nat)⟩⟩,
 some ⟨⟨.sl 9,1,24,[.nils 1]⟩,none,(.sl .str),[.nils .str],some ⟨(.sl .str),[]⟩⟩,
 some ⟨⟨.map 9 3,1,8,[.p (.map (.str) [])]⟩,none,(.map .str (.int .i64)),[.v (.map .str (.int .i64)) []],some ⟨(.map .str (.int .i64)),[]⟩⟩,
 none,
 none,
 none,
 none,
 none,
 none,
 some ⟨⟨.func,1,8,[.p .nilfn]⟩,none,.fnc,[.nilfn],some ⟨.fnc,(none:Option Nat)⟩⟩,
 none,
 none,
 none,
 none,
 none,
 some ⟨⟨.int .u32,1,4,[.p (.int .u32 0)]⟩,none,(.int .u32),[.v (.int .u32) (0:Int)],some ⟨(.int .u32),(0:Int)⟩⟩,
 none,
 some ⟨⟨.int .u64,1,8,[.p (.int .u64 0)]⟩,none,(.int .u64),[.v (.int .u64) (0:Int)],some ⟨(.int .u64),(0:Int)⟩⟩,
 none,
 none,
 none,
 none,
 none,
 none,
 none,
 none,
 none,
 none,
 none,
 none,
 none,
 none,
 none,
 some ⟨⟨.sl 128,1,24,[.nils 1]⟩,none,(.sl (.int .u32)),[.nils (.int .u32)],some ⟨(.sl (.int .u32)),[]⟩⟩,
 none,
 none,
 none,
 none,
 none,
 none,
 none,
 none,
 none,
 none,
 none,
 none,
 none,
 none,
 none,
 some ⟨⟨.sl 5,1,24,[.nils 1]⟩,none,(.sl (.int .u8)),[.nils (.int .u8)],some ⟨(.sl (.int .u8)),[]⟩⟩,
 none,
 none,
 none,
 some ⟨⟨.func,1,8,[.p .nilfn]⟩,none,.fnc,[.nilfn],some ⟨.fnc,(none:Option Nat)⟩⟩,
 some ⟨⟨.struct [(0,9),(1,166),(2,122)],3,32,[.p (.str []),.p .nilfn,.p .nilfn]⟩,some 6,(.st 6),[.v .str ([]:Str),.nilfn,.nilfn],some ⟨(.st 6),(Zot.mk ([]:Str) (none:Option Nat) (none:Option Nat))⟩⟩,
 some ⟨⟨.struct [(0,9),(1,166),(2,122)],3,32,[.p (.str []),.p .nilfn,.p .nilfn]⟩,some 6,(.st 6),[.v .str ([]:Str),.nilfn,.nilfn],some ⟨(.st 6),(Zot.mk ([]:Str) (none:Option Nat) (none:Option Nat))⟩⟩,
 some ⟨⟨.map 3 168,1,8,[.p (.map (.int .i64) [])]⟩,none,(.map (.int .i64) (.st 6)),[.v (.map (.int .i64) (.st 6)) []],some ⟨(.map (.int .i64) (.st 6)),[]⟩⟩,
 none,
 none,
 some ⟨⟨.int .i64,1,8,[.p (.int .i64 0)]⟩,none,(.int .i64),[.v (.int .i64) (0:Int)],some ⟨(.int .i64),(0:Int)⟩⟩,
 none,
 none,
 none,
 none,
 none,
 none,
 none,
 none,
 some ⟨⟨.sl 44,1,24,[.nils 2]⟩,none,(.sl (.st 2)),[.nils (.st 2)],some ⟨(.sl (.st 2)),[]⟩⟩,
 none,
 none,
 none,
 none,
 none,
 none,
 none,
 none,
 some ⟨⟨.func,1,8,[.p .nilfn]⟩,none,.fnc,[.nilfn],some ⟨.fnc,(none:Option Nat)⟩⟩,
 some ⟨⟨.func,1,8,[.p .nilfn]⟩,none,.fnc,[.nilfn],some ⟨.fnc,(none:Option Nat)⟩⟩,
 none,
 none,
 none,
 none,
 none,
 none,
 none,
 none,
 none,
 none,
 none,
 none,
 some ⟨⟨.int .u64,1,8,[.p (.int .u64 0)]⟩,none,(.int .u64),[.v (.int .u64) (0:Int)],some ⟨(.int .u64),(0:Int)⟩⟩,
 none,
 none,
 none,
 some ⟨⟨.ptr 3,1,8,[.p .nilp]⟩,none,.bool,[.nilp],none⟩,
 none,
 none,
 none,
 none,
 none,
 none,
 none,
 none,
 none,
 none,
 none,
 none,
 none,
 none,
 none,
 none,
 none,
 none,
 none,
 none,
 none,
 none,
 none,
 none,
 none,
 none,
 none,
 none,
 none,
 some ⟨⟨.ptr 204,1,8,[.p .nilp]⟩,none,.bool,[.nilp],none⟩,
 none,
 none,
 none,
 none,
 none,
 none,
 none,
 none,
 none,
 none,
 none,
 none,
 none,
 none,
 none,
 none,
 none,
 none,
 none,
 none,
 none,
 none,
 none,
 none,
 none,
 none,
 none,
 none,
 none,
 none,
 none,
 none,
 none,
 none,
 none,
 none,
 none,
 none,
 none,
 none,
 none,
 none,
 none,
 none,
 none,
 none,
 none,
 none,
 none,
 none,
 none,
 none,
 none,
 none,
 none,
 none,
 none,
 none,
 none,
 none,
 none,
 none,
 none,
 none,
 none,
 none,
 none,
 none,
 none]
noncomputable def X0:ZG U:=⟨Tryz.prog,tt0,[(2,Zxy),(4,ZuF)],0⟩
theorem tok0:TOk X0:=tok_of (by kernel_rfl) (by kernel_rfl) (by kernel_rfl)
theorem eok0:Zk X0.E:=⟨by kernel_rfl⟩
theorem mixed:X0.prog.follows .mixedOrders=true:=by kernel_rfl
theorem G0:Gnd X0:=⟨uok,tok0,eok0,mixed⟩
noncomputable def Zvt:Zj9 U:=⟨Str,[9,9],[.p,.p],[none,none],[.p .str,.p .str],fun v=>Zwm v.1 v.2.1,fun q=>⟨[.p ⟨.str,q⟩],[]⟩⟩
noncomputable def ZrW:Zj9 U:=⟨Int,[9,5],[.p,.p],[none,none],[.p .str,.p (.int .u8)],fun v=>Zqh v.1 v.2.1,fun q=>⟨[.p ⟨(.int .i64),q⟩],[]⟩⟩
noncomputable def Zvx:Zj9 U:=⟨Str,[9,9],[.p,.p],[none,none],[.p .str,.p .str],fun v=>ZuJ v.1 v.2.1,fun q=>⟨[.p ⟨.str,q⟩],[]⟩⟩
noncomputable def Zvl:Zj9 U:=⟨Str,[9,9],[.p,.p],[none,none],[.p .str,.p .str],fun v=>ZvV v.1 v.2.1,fun q=>⟨[.p ⟨.str,q⟩],[]⟩⟩
noncomputable def ZrX:Zj9 U:=⟨Int,[9,9],[.p,.p],[none,none],[.p .str,.p .str],fun v=>ZoW v.1 v.2.1,fun q=>⟨[.p ⟨(.int .i64),q⟩],[]⟩⟩
noncomputable def Zvu:Zj9 U:=⟨Str,[3],[.p],[none],[.p (.int .i64)],fun v=>Ztk v.1,fun q=>⟨[.p ⟨.str,q⟩],[]⟩⟩
end Go.Proofs
