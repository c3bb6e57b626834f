/- Printed by wip/tools/tgen.py: tables. -/
import Derived.Test.YtbjnddlpdlfknaaGreatDoorQmS
import Derived.Test.YtbjnddlpdlfknaaGreatDoorProg
import Derived.KernelRfl
set_option linter.unusedVariables false
set_option linter.unusedSimpArgs false
set_option linter.unusedSectionVars false
namespace Go.Proofs
open Go Eng
set_option maxRecDepth 100000
def Zv9 (x:ZnF):List (Lf ZvV):=[⟨.bool,x.Neg⟩,⟨(.sl (.int .u32)),x.Words⟩]
def Zv1:List (Lf ZvV)→Option ZnF
 | [c0,c1]=>(c0.as .bool).bind fun a0=>(c1.as (.sl (.int .u32))).bind fun a1=>some (ZnF.mk a0 a1)
 |_=>none
theorem ZwT (cs:List (Lf ZvV)) (x:ZnF) (h:Zv1 cs=some x):Zv9 x=cs:=by unfold Zv1 at h;split at h;rotate_left;simp at h;obtain⟨a0,h0,h⟩:=bind_some h;obtain⟨a1,h1,h⟩:=bind_some h;simp only[Option.some.injEq]at h;subst h;rw[as_car h0,as_car h1];rfl
def Zxr (x:ZnF):P:= .agg [.bool x.Neg,.sl 1 (x.Words.map (fun x=> .int .u32 x))]
def ZuV (x:ZnA):List (Lf ZvV):=[⟨.bool,x.Num.Neg⟩,⟨(.sl (.int .u32)),x.Num.Words⟩,⟨.bool,x.Den.Neg⟩,⟨(.sl (.int .u32)),x.Den.Words⟩]
def Zuv:List (Lf ZvV)→Option ZnA
 | [c0,c1,c2,c3]=>(c0.as .bool).bind fun a0=>(c1.as (.sl (.int .u32))).bind fun a1=>(c2.as .bool).bind fun a2=>(c3.as (.sl (.int .u32))).bind fun a3=>some (ZnA.mk (ZnF.mk a0 a1) (ZnF.mk a2 a3))
 |_=>none
theorem Zwf (cs:List (Lf ZvV)) (x:ZnA) (h:Zuv cs=some x):ZuV x=cs:=by unfold Zuv at h;split at h;rotate_left;simp at h;obtain⟨a0,h0,h⟩:=bind_some h;obtain⟨a1,h1,h⟩:=bind_some h;obtain⟨a2,h2,h⟩:=bind_some h;obtain⟨a3,h3,h⟩:=bind_some h;simp only[Option.some.injEq]at h;subst h;rw[as_car h0,as_car h1,as_car h2,as_car h3];rfl
def Zwx (x:ZnA):P:= .agg [.bool x.Num.Neg,.sl 1 (x.Num.Words.map (fun x=> .int .u32 x)),.bool x.Den.Neg,.sl 1 (x.Den.Words.map (fun x=> .int .u32 x))]
def ZvP (x:ZnD):List (Lf ZvV):=[⟨.bool,x.Null⟩,⟨.str,x.Text⟩]
def ZvL:List (Lf ZvV)→Option ZnD
 | [c0,c1]=>(c0.as .bool).bind fun a0=>(c1.as .str).bind fun a1=>some (ZnD.mk a0 a1)
 |_=>none
theorem ZwH (cs:List (Lf ZvV)) (x:ZnD) (h:ZvL cs=some x):ZvP x=cs:=by unfold ZvL at h;split at h;rotate_left;simp at h;obtain⟨a0,h0,h⟩:=bind_some h;obtain⟨a1,h1,h⟩:=bind_some h;simp only[Option.some.injEq]at h;subst h;rw[as_car h0,as_car h1];rfl
def Zwg (x:ZnD):P:= .agg [.bool x.Null,.str x.Text]
def Zvu (x:ZnO):List (Lf ZvV):=[⟨.str,x.Name⟩,⟨(.sl (.st 2)),x.Cells⟩]
def Zvk:List (Lf ZvV)→Option ZnO
 | [c0,c1]=>(c0.as .str).bind fun a0=>(c1.as (.sl (.st 2))).bind fun a1=>some (ZnO.mk a0 a1)
 |_=>none
theorem Zwt (cs:List (Lf ZvV)) (x:ZnO) (h:Zvk cs=some x):Zvu x=cs:=by unfold Zvk at h;split at h;rotate_left;simp at h;obtain⟨a0,h0,h⟩:=bind_some h;obtain⟨a1,h1,h⟩:=bind_some h;simp only[Option.some.injEq]at h;subst h;rw[as_car h0,as_car h1];rfl
def ZwJ (x:ZnO):P:= .agg [.str x.Name,.sl 2 (x.Cells.map Zwg)]
def Zvt (x:Zox):List (Lf ZvV):=[⟨.str,x.word⟩,⟨.fnc,x.canonical⟩,⟨.fnc,x.value⟩]
def Zvi:List (Lf ZvV)→Option Zox
 | [c0,c1,c2]=>(c0.as .str).bind fun a0=>(c1.as .fnc).bind fun a1=>(c2.as .fnc).bind fun a2=>some (Zox.mk a0 a1 a2)
 |_=>none
theorem Zws (cs:List (Lf ZvV)) (x:Zox) (h:Zvi cs=some x):Zvt x=cs:=by unfold Zvi at h;split at h;rotate_left;simp at h;obtain⟨a0,h0,h⟩:=bind_some h;obtain⟨a1,h1,h⟩:=bind_some h;obtain⟨a2,h2,h⟩:=bind_some h;simp only[Option.some.injEq]at h;subst h;rw[as_car h0,as_car h1,as_car h2];rfl
def ZwI (x:Zox):P:= .agg [.str x.word,ZjM x.canonical,ZjM x.value]
def ZtD (x:ZnB):List (Lf ZvV):=[⟨(.sl (.int .i64)),x.l⟩,⟨(.int .i64),x.at_⟩]
def ZsU:List (Lf ZvV)→Option ZnB
 | [c0,c1]=>(c0.as (.sl (.int .i64))).bind fun a0=>(c1.as (.int .i64)).bind fun a1=>some (ZnB.mk a0 a1)
 |_=>none
theorem Zvj (cs:List (Lf ZvV)) (x:ZnB) (h:ZsU cs=some x):ZtD x=cs:=by unfold ZsU at h;split at h;rotate_left;simp at h;obtain⟨a0,h0,h⟩:=bind_some h;obtain⟨a1,h1,h⟩:=bind_some h;simp only[Option.some.injEq]at h;subst h;rw[as_car h0,as_car h1];rfl
def Zvz (x:ZnB):P:= .agg [.sl 1 (x.l.map (fun x=> .int .i64 x)),.int .i64 x.at_]
def ZBL:(n:Nat)→ZvV n→List (Lf ZvV)
 |0,x=>Zv9 x
 |1,x=>ZuV x
 |2,x=>ZvP x
 |3,x=>Zvu x
 |4,x=>Zvt x
 |5,x=>ZtD x
 |_+6,_=>[]
def ofU:(n:Nat)→List (Lf ZvV)→Option (ZvV n)
 |0,cs=>Zv1 cs
 |1,cs=>Zuv cs
 |2,cs=>ZvL cs
 |3,cs=>Zvk cs
 |4,cs=>Zvi cs
 |5,cs=>ZsU cs
 |_+6,cs=>match cs with | []=>some () |_=>none
def encU:(n:Nat)→ZvV n→P
 |0,x=>Zxr x
 |1,x=>Zwx x
 |2,x=>Zwg x
 |3,x=>ZwJ x
 |4,x=>ZwI x
 |5,x=>Zvz x
 |_+6,_=> .agg []
@[reducible] def U:Zc:=⟨ZvV,ZCU,ZBL,ofU,encU⟩
theorem uok:UOk U where
 of_cells:=fun n cs x h=>match n,x,h with
  |0,x,h=>ZwT cs x h
  |1,x,h=>Zwf cs x h
  |2,x,h=>ZwH cs x h
  |3,x,h=>Zwt cs x h
  |4,x,h=>Zws cs x h
  |5,x,h=>Zvj cs x h
  |_+6,x,h=>by
   match cs,h with
   | [],h=>rfl
 enc_cells:=fun n x=>match n,x with
  |0,x=>rfl
  |1,x=>rfl
  |2,x=>rfl
  |3,x=>rfl
  |4,x=>rfl
  |5,x=>rfl
  |_+6,x=>rfl
 len:=fun n x=>match n,x with
  |0,x=>rfl
  |1,x=>rfl
  |2,x=>rfl
  |3,x=>rfl
  |4,x=>rfl
  |5,x=>rfl
  |_+6,x=>rfl
noncomputable def tt0:List (Option (TT U)):=[
 none,
 some ⟨⟨.func,1,8,[.p .nilfn]⟩,none,.fnc,[.nilfn],some ⟨.fnc,(none:Option Nat)⟩⟩,
 some ⟨⟨.int .i64,1,8,[.p (.int .i64 0)]⟩,none,(.int .i64),[.v (.int .i64) (0:Int)],some ⟨(.int .i64),(0:Int)⟩⟩,
 some ⟨⟨.int .i64,1,8,[.p (.int .i64 0)]⟩,none,(.int .i64),[.v (.int .i64) (0:Int)],some ⟨(.int .i64),(0:Int)⟩⟩,
 some ⟨⟨.bool,1,1,[.p (.bool false)]⟩,none,.bool,[.v .bool false],some ⟨.bool,false⟩⟩,
 some ⟨⟨.int .u8,1,1,[.p (.int .u8 0)]⟩,none,(.int .u8),[.v (.int .u8) (0:Int)],some ⟨(.int .u8),(0:Int)⟩⟩,
 none,
 none,
 none,
 some ⟨⟨.str,1,16,[.p (.str [])]⟩,none,.str,[.v .str ([]:Str)],some ⟨.str,([]:Str)⟩⟩,
 none,
 none,
 none,
 none,
 none,
 none,
 none,
 none,
 none,
 none,
 none,
 none,
 some ⟨⟨.sl 3,1,24,[.nils 1]⟩,none,(.sl (.int .i64)),[.nils (.int .i64)],some ⟨(.sl (.int .i64)),[]⟩⟩,
 none,
 none,
 some ⟨⟨.ptr 82,1,8,[.p .nilp]⟩,none,.bool,[.nilp],none⟩,
 none,
 none,
 some ⟨⟨.sl 41,1,24,[.nils 2]⟩,none,(.sl (.st 2)),[.nils (.st 2)],some ⟨(.sl (.st 2)),[]⟩⟩,
 some ⟨⟨.struct [(0,9),(1,28)],2,40,[.p (.str []),.nils 2]⟩,some 3,(.st 3),[.v .str ([]:Str),.nils (.st 2)],some ⟨(.st 3),(ZnO.mk ([]:Str) ([]:(List ZnD)))⟩⟩,
 some ⟨⟨.struct [(0,9),(1,28)],2,40,[.p (.str []),.nils 2]⟩,some 3,(.st 3),[.v .str ([]:Str),.nils (.st 2)],some ⟨(.st 3),(ZnO.mk ([]:Str) ([]:(List ZnD)))⟩⟩,
 none,
 none,
 none,
 none,
 none,
 some ⟨⟨.int .i64,1,8,[.p (.int .i64 0)]⟩,none,(.int .i64),[.v (.int .i64) (0:Int)],some ⟨(.int .i64),(0:Int)⟩⟩,
 none,
 none,
 none,
 some ⟨⟨.struct [(0,4),(1,9)],2,24,[.p (.bool false),.p (.str [])]⟩,some 2,(.st 2),[.v .bool false,.v .str ([]:Str)],some ⟨(.st 2),(ZnD.mk false ([]:Str))⟩⟩,
 some ⟨⟨.struct [(0,4),(1,9)],2,24,[.p (.bool false),.p (.str [])]⟩,some 2,(.st 2),[.v .bool false,.v .str ([]:Str)],some ⟨(.st 2),(ZnD.mk false ([]:Str))⟩⟩,
 some ⟨⟨.sl 128,1,24,[.nils 1]⟩,none,(.sl (.int .u32)),[.nils (.int .u32)],some ⟨(.sl (.int .u32)),[]⟩⟩,
 some ⟨⟨.struct [(0,4),(1,42)],2,32,[.p (.bool false),.nils 1]⟩,some 0,(.st 0),[.v .bool false,.nils (.int .u32)],some ⟨(.st 0),(ZnF.mk false ([]:(List Int)))⟩⟩,
 some ⟨⟨.struct [(0,4),(1,42)],2,32,[.p (.bool false),.nils 1]⟩,some 0,(.st 0),[.v .bool false,.nils (.int .u32)],some ⟨(.st 0),(ZnF.mk false ([]:(List Int)))⟩⟩,
 some ⟨⟨.struct [(0,44),(2,44)],4,64,[.p (.bool false),.nils 1,.p (.bool false),.nils 1]⟩,some 1,(.st 1),[.v .bool false,.nils (.int .u32),.v .bool false,.nils (.int .u32)],some ⟨(.st 1),(ZnA.mk (ZnF.mk false ([]:(List Int))) (ZnF.mk false ([]:(List Int))))⟩⟩,
 some ⟨⟨.struct [(0,44),(2,44)],4,64,[.p (.bool false),.nils 1,.p (.bool false),.nils 1]⟩,some 1,(.st 1),[.v .bool false,.nils (.int .u32),.v .bool false,.nils (.int .u32)],some ⟨(.st 1),(ZnA.mk (ZnF.mk false ([]:(List Int))) (ZnF.mk false ([]:(List Int))))⟩⟩,
 none,
 none,
 some ⟨⟨.int .u64,1,8,[.p (.int .u64 0)]⟩,none,(.int .u64),[.v (.int .u64) (0:Int)],some ⟨(.int .u64),(0:Int)⟩⟩,
 none,
 none,
 none,
 none,
 none,
 none,
 none,
 none,
 none,
 none,
 none,
 some ⟨⟨.sl 46,1,24,[.nils 4]⟩,none,(.sl (.st 1)),[.nils (.st 1)],some ⟨(.sl (.st 1)),[]⟩⟩,
 none,
 none,
 none,
 none,
 none,
 none,
 none,
 none,
 none,
 none,
 none,
 none,
 none,
 none,
 none,
 none,
 some ⟨⟨.func,1,8,[.p .nilfn]⟩,none,.fnc,[.nilfn],some ⟨.fnc,(none:Option Nat)⟩⟩,
 none,
 none,
 some ⟨⟨.struct [(0,22),(1,3)],2,32,[.nils 1,.p (.int .i64 0)]⟩,some 5,(.st 5),[.nils (.int .i64),.v (.int .i64) (0:Int)],some ⟨(.st 5),(ZnB.mk ([]:(List Int)) 0)⟩⟩,
 some ⟨⟨.struct [(0,22),(1,3)],2,32,[.nils 1,.p (.int .i64 0)]⟩,some 5,(.st 5),[.nils (.int .i64),.v (.int .i64) (0:Int)],some ⟨(.st 5),(ZnB.mk ([]:(List Int)) 0)⟩⟩,
 none,
 none,
 none,
 none,
 none,
 none,
 none,
 none,
 none,
 none,
 none,
 none,
 none,
 none,
 none,
 none,
 none,
 none,
 none,
 none,
 none,
 none,
 none,
 none,
 none,
 none,
 none,
 none,
 none,
 none,
 none,
 some ⟨⟨.sl 9,1,24,[.nils 1]⟩,none,(.sl .str),[.nils .str],some ⟨(.sl .str),[]⟩⟩,
 none,
 none,
 none,
 none,
 none,
 none,
 none,
 some ⟨⟨.func,1,8,[.p .nilfn]⟩,none,.fnc,[.nilfn],some ⟨.fnc,(none:Option Nat)⟩⟩,
 none,
 none,
 none,
 none,
 none,
 some ⟨⟨.int .u32,1,4,[.p (.int .u32 0)]⟩,none,(.int .u32),[.v (.int .u32) (0:Int)],some ⟨(.int .u32),(0:Int)⟩⟩,
 none,
 some ⟨⟨.int .u64,1,8,[.p (.int .u64 0)]⟩,none,(.int .u64),[.v (.int .u64) (0:Int)],some ⟨(.int .u64),(0:Int)⟩⟩,
 none,
 none,
 none,
 none,
 none,
 none,
 none,
 none,
 none,
 none,
 none,
 none,
 none,
 none,
 none,
 some ⟨⟨.sl 128,1,24,[.nils 1]⟩,none,(.sl (.int .u32)),[.nils (.int .u32)],some ⟨(.sl (.int .u32)),[]⟩⟩,
 none,
 none,
 none,
 none,
 none,
 none,
 none,
 none,
 none,
 none,
 none,
 none,
 none,
 none,
 none,
 some ⟨⟨.sl 5,1,24,[.nils 1]⟩,none,(.sl (.int .u8)),[.nils (.int .u8)],some ⟨(.sl (.int .u8)),[]⟩⟩,
 none,
 none,
 none,
 some ⟨⟨.func,1,8,[.p .nilfn]⟩,none,.fnc,[.nilfn],some ⟨.fnc,(none:Option Nat)⟩⟩,
 some ⟨⟨.struct [(0,9),(1,166),(2,122)],3,32,[.p (.str []),.p .nilfn,.p .nilfn]⟩,some 4,(.st 4),[.v .str ([]:Str),.nilfn,.nilfn],some ⟨(.st 4),(Zox.mk ([]:Str) (none:Option Nat) (none:Option Nat))⟩⟩,
 some ⟨⟨.struct [(0,9),(1,166),(2,122)],3,32,[.p (.str []),.p .nilfn,.p .nilfn]⟩,some 4,(.st 4),[.v .str ([]:Str),.nilfn,.nilfn],some ⟨(.st 4),(Zox.mk ([]:Str) (none:Option Nat) (none:Option Nat))⟩⟩,
 some ⟨⟨.map 3 168,1,8,[.p (.map (.int .i64) [])]⟩,none,(.map (.int .i64) (.st 4)),[.v (.map (.int .i64) (.st 4)) []],some ⟨(.map (.int .i64) (.st 4)),[]⟩⟩,
 none,
 none,
 some ⟨⟨.int .i64,1,8,[.p (.int .i64 0)]⟩,none,(.int .i64),[.v (.int .i64) (0:Int)],some ⟨(.int .i64),(0:Int)⟩⟩,
 none,
 none,
 none,
 none,
 none,
 none,
 none,
 none,
 some ⟨⟨.sl 44,1,24,[.nils 2]⟩,none,(.sl (.st 0)),[.nils (.st 0)],some ⟨(.sl (.st 0)),[]⟩⟩,
 none,
 none,
 none,
 none,
 none,
 none,
 none,
 none,
 none,
 none,
 none,
 none,
 none,
 none,
 none,
 none,
 none,
 none,
 none,
 none,
 none,
 none,
 some ⟨⟨.int .u64,1,8,[.p (.int .u64 0)]⟩,none,(.int .u64),[.v (.int .u64) (0:Int)],some ⟨(.int .u64),(0:Int)⟩⟩,
 none,
 none,
 none,
 some ⟨⟨.ptr 3,1,8,[.p .nilp]⟩,none,.bool,[.nilp],none⟩,
 none,
 none,
 none,
 none,
 none,
 none,
 none,
 none,
 none,
 none,
 none,
 none,
 none,
 none,
 none,
 none,
 none,
 none,
 none,
 none,
 none,
 none,
 none,
 none,
 none,
 none,
 none,
 none,
 none,
 some ⟨⟨.ptr 204,1,8,[.p .nilp]⟩,none,.bool,[.nilp],none⟩,
 none,
 none,
 none,
 none,
 none,
 none,
 none,
 none,
 none,
 none,
 none,
 none,
 none,
 none,
 none,
 none,
 none,
 none,
 none,
 none,
 none,
 none,
 none,
 none,
 none,
 none,
 none,
 none,
 none,
 none,
 none,
 none,
 none,
 none,
 none,
 none,
 none,
 none,
 none,
 none,
 none,
 none,
 none,
 none,
 none,
 none,
 none,
 none,
 none,
 none,
 none,
 none,
 none,
 none,
 none,
 none,
 none,
 none,
 none,
 none,
 none,
 none,
 none,
 none,
 none,
 none,
 none,
 none,
 none]
noncomputable def X0:ZG U:=⟨Tryz.prog,tt0,[(2,ZwC),(4,Zuc)],0⟩
theorem tok0:TOk X0:=tok_of (by kernel_rfl) (by kernel_rfl) (by kernel_rfl)
theorem eok0:Zk X0.E:=⟨by kernel_rfl⟩
theorem mixed:X0.prog.follows .mixedOrders=true:=by kernel_rfl
theorem G0:Gnd X0:=⟨uok,tok0,eok0,mixed⟩
noncomputable def Zvo:Zj9 U:=⟨(Int×Int),[49,49,49],[.p,.p,.p],[none,none,none],[.p (.int .u64),.p (.int .u64),.p (.int .u64)],fun v=>ZtK v.1 v.2.1 v.2.2.1,fun q=>⟨[.p ⟨(.int .u64),q.1⟩,.p ⟨(.int .u64),q.2⟩],[]⟩⟩
noncomputable def ZuO:Zj9 U:=⟨Str,[9,9],[.p,.p],[none,none],[.p .str,.p .str],fun v=>Zvx v.1 v.2.1,fun q=>⟨[.p ⟨.str,q⟩],[]⟩⟩
noncomputable def ZrL:Zj9 U:=⟨Int,[9,5],[.p,.p],[none,none],[.p .str,.p (.int .u8)],fun v=>Zqo v.1 v.2.1,fun q=>⟨[.p ⟨(.int .i64),q⟩],[]⟩⟩
noncomputable def ZuW:Zj9 U:=⟨Str,[9,9],[.p,.p],[none,none],[.p .str,.p .str],fun v=>Zui v.1 v.2.1,fun q=>⟨[.p ⟨.str,q⟩],[]⟩⟩
noncomputable def ZuK:Zj9 U:=⟨Str,[9,9],[.p,.p],[none,none],[.p .str,.p .str],fun v=>Zvd v.1 v.2.1,fun q=>⟨[.p ⟨.str,q⟩],[]⟩⟩
noncomputable def ZuP:Zj9 U:=⟨Str,[3],[.p],[none],[.p (.int .i64)],fun v=>Zs5 v.1,fun q=>⟨[.p ⟨.str,q⟩],[]⟩⟩
end Go.Proofs
