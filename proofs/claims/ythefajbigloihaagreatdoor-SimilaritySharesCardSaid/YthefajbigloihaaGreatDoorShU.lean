/- Printed by wip/tools/tgen.py: tables. -/
import Derived.Test.YthefajbigloihaaGreatDoorShS
import Derived.Test.YthefajbigloihaaGreatDoorProg
import Derived.KernelRfl
set_option linter.unusedVariables false
set_option linter.unusedSimpArgs false
set_option linter.unusedSectionVars false
namespace Go.Proofs
open Go Eng
set_option maxRecDepth 100000
def Zwo (x:ZnB):List (Lf Zwu):=[⟨.bool,x.Null⟩,⟨.str,x.Text⟩]
def Zwh:List (Lf Zwu)→Option ZnB
 | [c0,c1]=>(c0.as .bool).bind fun a0=>(c1.as .str).bind fun a1=>some (ZnB.mk a0 a1)
 |_=>none
theorem Zxj (cs:List (Lf Zwu)) (x:ZnB) (h:Zwh cs=some x):Zwo x=cs:=by unfold Zwh at h;split at h;rotate_left;simp at h;obtain⟨a0,h0,h⟩:=bind_some h;obtain⟨a1,h1,h⟩:=bind_some h;simp only[Option.some.injEq]at h;subst h;rw[as_car h0,as_car h1];rfl
def Ztc (x:ZnB):P:= .agg [.bool x.Null,.str x.Text]
def ZvY (x:ZnE):List (Lf Zwu):=[⟨.str,x.Name⟩,⟨(.sl (.st 0)),x.Cells⟩]
def ZvP:List (Lf Zwu)→Option ZnE
 | [c0,c1]=>(c0.as .str).bind fun a0=>(c1.as (.sl (.st 0))).bind fun a1=>some (ZnE.mk a0 a1)
 |_=>none
theorem Zw5 (cs:List (Lf Zwu)) (x:ZnE) (h:ZvP cs=some x):ZvY x=cs:=by unfold ZvP at h;split at h;rotate_left;simp at h;obtain⟨a0,h0,h⟩:=bind_some h;obtain⟨a1,h1,h⟩:=bind_some h;simp only[Option.some.injEq]at h;subst h;rw[as_car h0,as_car h1];rfl
def Zvc (x:ZnE):P:= .agg [.str x.Name,.sl 2 (x.Cells.map Ztc)]
def ZwH (x:ZnC):List (Lf Zwu):=[⟨.bool,x.Neg⟩,⟨(.sl (.int .u32)),x.Words⟩]
def ZwC:List (Lf Zwu)→Option ZnC
 | [c0,c1]=>(c0.as .bool).bind fun a0=>(c1.as (.sl (.int .u32))).bind fun a1=>some (ZnC.mk a0 a1)
 |_=>none
theorem Zxv (cs:List (Lf Zwu)) (x:ZnC) (h:ZwC cs=some x):ZwH x=cs:=by unfold ZwC at h;split at h;rotate_left;simp at h;obtain⟨a0,h0,h⟩:=bind_some h;obtain⟨a1,h1,h⟩:=bind_some h;simp only[Option.some.injEq]at h;subst h;rw[as_car h0,as_car h1];rfl
def Zya (x:ZnC):P:= .agg [.bool x.Neg,.sl 1 (x.Words.map (fun x=> .int .u32 x))]
def Zvg (x:ZnA):List (Lf Zwu):=[⟨.bool,x.Num.Neg⟩,⟨(.sl (.int .u32)),x.Num.Words⟩,⟨.bool,x.Den.Neg⟩,⟨(.sl (.int .u32)),x.Den.Words⟩]
def ZuM:List (Lf Zwu)→Option ZnA
 | [c0,c1,c2,c3]=>(c0.as .bool).bind fun a0=>(c1.as (.sl (.int .u32))).bind fun a1=>(c2.as .bool).bind fun a2=>(c3.as (.sl (.int .u32))).bind fun a3=>some (ZnA.mk (ZnC.mk a0 a1) (ZnC.mk a2 a3))
 |_=>none
theorem ZwO (cs:List (Lf Zwu)) (x:ZnA) (h:ZuM cs=some x):Zvg x=cs:=by unfold ZuM at h;split at h;rotate_left;simp at h;obtain⟨a0,h0,h⟩:=bind_some h;obtain⟨a1,h1,h⟩:=bind_some h;obtain⟨a2,h2,h⟩:=bind_some h;obtain⟨a3,h3,h⟩:=bind_some h;simp only[Option.some.injEq]at h;subst h;rw[as_car h0,as_car h1,as_car h2,as_car h3];rfl
def Zw9 (x:ZnA):P:= .agg [.bool x.Num.Neg,.sl 1 (x.Num.Words.map (fun x=> .int .u32 x)),.bool x.Den.Neg,.sl 1 (x.Den.Words.map (fun x=> .int .u32 x))]
def ZvX (x:Zom):List (Lf Zwu):=[⟨.str,x.word⟩,⟨.fnc,x.canonical⟩,⟨.fnc,x.value⟩]
def ZvN:List (Lf Zwu)→Option Zom
 | [c0,c1,c2]=>(c0.as .str).bind fun a0=>(c1.as .fnc).bind fun a1=>(c2.as .fnc).bind fun a2=>some (Zom.mk a0 a1 a2)
 |_=>none
theorem Zw4 (cs:List (Lf Zwu)) (x:Zom) (h:ZvN cs=some x):ZvX x=cs:=by unfold ZvN at h;split at h;rotate_left;simp at h;obtain⟨a0,h0,h⟩:=bind_some h;obtain⟨a1,h1,h⟩:=bind_some h;obtain⟨a2,h2,h⟩:=bind_some h;simp only[Option.some.injEq]at h;subst h;rw[as_car h0,as_car h1,as_car h2];rfl
def Zxk (x:Zom):P:= .agg [.str x.word,ZjM x.canonical,ZjM x.value]
def ZtP (x:ZnD):List (Lf Zwu):=[⟨(.sl (.int .i64)),x.l⟩,⟨(.int .i64),x.at_⟩]
def ZsR:List (Lf Zwu)→Option ZnD
 | [c0,c1]=>(c0.as (.sl (.int .i64))).bind fun a0=>(c1.as (.int .i64)).bind fun a1=>some (ZnD.mk a0 a1)
 |_=>none
theorem ZvO (cs:List (Lf Zwu)) (x:ZnD) (h:ZsR cs=some x):ZtP x=cs:=by unfold ZsR at h;split at h;rotate_left;simp at h;obtain⟨a0,h0,h⟩:=bind_some h;obtain⟨a1,h1,h⟩:=bind_some h;simp only[Option.some.injEq]at h;subst h;rw[as_car h0,as_car h1];rfl
def Zv3 (x:ZnD):P:= .agg [.sl 1 (x.l.map (fun x=> .int .i64 x)),.int .i64 x.at_]
def ZDp:(n:Nat)→Zwu n→List (Lf Zwu)
 |0,x=>Zwo x
 |1,x=>ZvY x
 |2,x=>ZwH x
 |3,x=>Zvg x
 |4,x=>ZvX x
 |5,x=>ZtP x
 |_+6,_=>[]
def ofU:(n:Nat)→List (Lf Zwu)→Option (Zwu n)
 |0,cs=>Zwh cs
 |1,cs=>ZvP cs
 |2,cs=>ZwC cs
 |3,cs=>ZuM cs
 |4,cs=>ZvN cs
 |5,cs=>ZsR cs
 |_+6,cs=>match cs with | []=>some () |_=>none
def encU:(n:Nat)→Zwu n→P
 |0,x=>Ztc x
 |1,x=>Zvc x
 |2,x=>Zya x
 |3,x=>Zw9 x
 |4,x=>Zxk x
 |5,x=>Zv3 x
 |_+6,_=> .agg []
@[reducible] def U:Zc:=⟨Zwu,ZEt,ZDp,ofU,encU⟩
theorem uok:UOk U where
 of_cells:=fun n cs x h=>match n,x,h with
  |0,x,h=>Zxj cs x h
  |1,x,h=>Zw5 cs x h
  |2,x,h=>Zxv cs x h
  |3,x,h=>ZwO cs x h
  |4,x,h=>Zw4 cs x h
  |5,x,h=>ZvO cs x h
  |_+6,x,h=>by
   match cs,h with
   | [],h=>rfl
 enc_cells:=fun n x=>match n,x with
  |0,x=>rfl
  |1,x=>rfl
  |2,x=>rfl
  |3,x=>rfl
  |4,x=>rfl
  |5,x=>rfl
  |_+6,x=>rfl
 len:=fun n x=>match n,x with
  |0,x=>rfl
  |1,x=>rfl
  |2,x=>rfl
  |3,x=>rfl
  |4,x=>rfl
  |5,x=>rfl
  |_+6,x=>rfl
noncomputable def tt0:List (Option (TT U)):=[
 none,
 some ⟨⟨.func,1,8,[.p .nilfn]⟩,none,.fnc,[.nilfn],some ⟨.fnc,(none:Option Nat)⟩⟩,
 some ⟨⟨.int .i64,1,8,[.p (.int .i64 0)]⟩,none,(.int .i64),[.v (.int .i64) (0:Int)],some ⟨(.int .i64),(0:Int)⟩⟩,
 some ⟨⟨.int .i64,1,8,[.p (.int .i64 0)]⟩,none,(.int .i64),[.v (.int .i64) (0:Int)],some ⟨(.int .i64),(0:Int)⟩⟩,
 some ⟨⟨.bool,1,1,[.p (.bool false)]⟩,none,.bool,[.v .bool false],some ⟨.bool,false⟩⟩,
 some ⟨⟨.int .u8,1,1,[.p (.int .u8 0)]⟩,none,(.int .u8),[.v (.int .u8) (0:Int)],some ⟨(.int .u8),(0:Int)⟩⟩,
 none,
 none,
 none,
 some ⟨⟨.str,1,16,[.p (.str [])]⟩,none,.str,[.v .str ([]:Str)],some ⟨.str,([]:Str)⟩⟩,
 none,
 none,
 none,
 none,
 none,
 none,
 none,
 none,
 none,
 none,
 none,
 none,
 some ⟨⟨.sl 72,1,24,[.nils 2]⟩,none,(.sl (.st 0)),[.nils (.st 0)],some ⟨(.sl (.st 0)),[]⟩⟩,
 some ⟨⟨.struct [(0,9),(1,22)],2,40,[.p (.str []),.nils 2]⟩,some 1,(.st 1),[.v .str ([]:Str),.nils (.st 0)],some ⟨(.st 1),(ZnE.mk ([]:Str) ([]:(List ZnB)))⟩⟩,
 some ⟨⟨.struct [(0,9),(1,22)],2,40,[.p (.str []),.nils 2]⟩,some 1,(.st 1),[.v .str ([]:Str),.nils (.st 0)],some ⟨(.st 1),(ZnE.mk ([]:Str) ([]:(List ZnB)))⟩⟩,
 some ⟨⟨.sl 3,1,24,[.nils 1]⟩,none,(.sl (.int .i64)),[.nils (.int .i64)],some ⟨(.sl (.int .i64)),[]⟩⟩,
 none,
 none,
 some ⟨⟨.ptr 94,1,8,[.p .nilp]⟩,none,.bool,[.nilp],none⟩,
 none,
 none,
 none,
 none,
 none,
 none,
 none,
 none,
 none,
 some ⟨⟨.int .i64,1,8,[.p (.int .i64 0)]⟩,none,(.int .i64),[.v (.int .i64) (0:Int)],some ⟨(.int .i64),(0:Int)⟩⟩,
 none,
 none,
 none,
 some ⟨⟨.int .u64,1,8,[.p (.int .u64 0)]⟩,none,(.int .u64),[.v (.int .u64) (0:Int)],some ⟨(.int .u64),(0:Int)⟩⟩,
 none,
 none,
 none,
 none,
 some ⟨⟨.sl 144,1,24,[.nils 1]⟩,none,(.sl (.int .u32)),[.nils (.int .u32)],some ⟨(.sl (.int .u32)),[]⟩⟩,
 some ⟨⟨.struct [(0,4),(1,47)],2,32,[.p (.bool false),.nils 1]⟩,some 2,(.st 2),[.v .bool false,.nils (.int .u32)],some ⟨(.st 2),(ZnC.mk false ([]:(List Int)))⟩⟩,
 some ⟨⟨.struct [(0,4),(1,47)],2,32,[.p (.bool false),.nils 1]⟩,some 2,(.st 2),[.v .bool false,.nils (.int .u32)],some ⟨(.st 2),(ZnC.mk false ([]:(List Int)))⟩⟩,
 some ⟨⟨.struct [(0,49),(2,49)],4,64,[.p (.bool false),.nils 1,.p (.bool false),.nils 1]⟩,some 3,(.st 3),[.v .bool false,.nils (.int .u32),.v .bool false,.nils (.int .u32)],some ⟨(.st 3),(ZnA.mk (ZnC.mk false ([]:(List Int))) (ZnC.mk false ([]:(List Int))))⟩⟩,
 some ⟨⟨.struct [(0,49),(2,49)],4,64,[.p (.bool false),.nils 1,.p (.bool false),.nils 1]⟩,some 3,(.st 3),[.v .bool false,.nils (.int .u32),.v .bool false,.nils (.int .u32)],some ⟨(.st 3),(ZnA.mk (ZnC.mk false ([]:(List Int))) (ZnC.mk false ([]:(List Int))))⟩⟩,
 none,
 none,
 none,
 none,
 none,
 none,
 none,
 none,
 none,
 none,
 some ⟨⟨.sl 9,1,24,[.nils 1]⟩,none,(.sl .str),[.nils .str],some ⟨(.sl .str),[]⟩⟩,
 none,
 none,
 none,
 none,
 none,
 none,
 none,
 none,
 some ⟨⟨.struct [(0,4),(1,9)],2,24,[.p (.bool false),.p (.str [])]⟩,some 0,(.st 0),[.v .bool false,.v .str ([]:Str)],some ⟨(.st 0),(ZnB.mk false ([]:Str))⟩⟩,
 some ⟨⟨.struct [(0,4),(1,9)],2,24,[.p (.bool false),.p (.str [])]⟩,some 0,(.st 0),[.v .bool false,.v .str ([]:Str)],some ⟨(.st 0),(ZnB.mk false ([]:Str))⟩⟩,
 none,
 none,
 none,
 none,
 none,
 none,
 none,
 none,
 none,
 none,
 none,
 none,
 none,
 none,
 none,
 none,
 none,
 none,
 none,
 none,
 some ⟨⟨.struct [(0,25),(1,3)],2,32,[.nils 1,.p (.int .i64 0)]⟩,some 5,(.st 5),[.nils (.int .i64),.v (.int .i64) (0:Int)],some ⟨(.st 5),(ZnD.mk ([]:(List Int)) 0)⟩⟩,
 some ⟨⟨.struct [(0,25),(1,3)],2,32,[.nils 1,.p (.int .i64 0)]⟩,some 5,(.st 5),[.nils (.int .i64),.v (.int .i64) (0:Int)],some ⟨(.st 5),(ZnD.mk ([]:(List Int)) 0)⟩⟩,
 none,
 none,
 none,
 none,
 none,
 none,
 none,
 none,
 none,
 some ⟨⟨.sl 5,1,24,[.nils 1]⟩,none,(.sl (.int .u8)),[.nils (.int .u8)],some ⟨(.sl (.int .u8)),[]⟩⟩,
 none,
 none,
 none,
 none,
 none,
 none,
 none,
 none,
 none,
 none,
 none,
 none,
 none,
 none,
 none,
 none,
 none,
 none,
 none,
 none,
 none,
 none,
 none,
 none,
 none,
 none,
 none,
 none,
 none,
 none,
 none,
 none,
 none,
 none,
 none,
 none,
 none,
 none,
 some ⟨⟨.int .u64,1,8,[.p (.int .u64 0)]⟩,none,(.int .u64),[.v (.int .u64) (0:Int)],some ⟨(.int .u64),(0:Int)⟩⟩,
 some ⟨⟨.int .u32,1,4,[.p (.int .u32 0)]⟩,none,(.int .u32),[.v (.int .u32) (0:Int)],some ⟨(.int .u32),(0:Int)⟩⟩,
 none,
 none,
 none,
 none,
 none,
 none,
 none,
 none,
 none,
 none,
 none,
 none,
 none,
 none,
 none,
 none,
 none,
 none,
 none,
 none,
 none,
 none,
 some ⟨⟨.func,1,8,[.p .nilfn]⟩,none,.fnc,[.nilfn],some ⟨.fnc,(none:Option Nat)⟩⟩,
 none,
 none,
 none,
 none,
 none,
 none,
 none,
 none,
 none,
 none,
 none,
 some ⟨⟨.sl 144,1,24,[.nils 1]⟩,none,(.sl (.int .u32)),[.nils (.int .u32)],some ⟨(.sl (.int .u32)),[]⟩⟩,
 none,
 none,
 none,
 none,
 none,
 none,
 none,
 none,
 some ⟨⟨.func,1,8,[.p .nilfn]⟩,none,.fnc,[.nilfn],some ⟨.fnc,(none:Option Nat)⟩⟩,
 some ⟨⟨.struct [(0,9),(1,188),(2,167)],3,32,[.p (.str []),.p .nilfn,.p .nilfn]⟩,some 4,(.st 4),[.v .str ([]:Str),.nilfn,.nilfn],some ⟨(.st 4),(Zom.mk ([]:Str) (none:Option Nat) (none:Option Nat))⟩⟩,
 some ⟨⟨.struct [(0,9),(1,188),(2,167)],3,32,[.p (.str []),.p .nilfn,.p .nilfn]⟩,some 4,(.st 4),[.v .str ([]:Str),.nilfn,.nilfn],some ⟨(.st 4),(Zom.mk ([]:Str) (none:Option Nat) (none:Option Nat))⟩⟩,
 some ⟨⟨.map 3 190,1,8,[.p (.map (.int .i64) [])]⟩,none,(.map (.int .i64) (.st 4)),[.v (.map (.int .i64) (.st 4)) []],some ⟨(.map (.int .i64) (.st 4)),[]⟩⟩,
 none,
 none,
 none,
 none,
 none,
 none,
 none,
 none,
 none,
 none,
 none,
 none,
 none,
 none,
 none,
 none,
 none,
 none,
 none,
 none,
 some ⟨⟨.func,1,8,[.p .nilfn]⟩,none,.fnc,[.nilfn],some ⟨.fnc,(none:Option Nat)⟩⟩,
 some ⟨⟨.func,1,8,[.p .nilfn]⟩,none,.fnc,[.nilfn],some ⟨.fnc,(none:Option Nat)⟩⟩,
 none,
 none,
 none,
 none,
 none,
 none,
 none,
 none,
 none,
 none,
 none,
 none,
 none,
 none,
 none,
 none,
 some ⟨⟨.sl 49,1,24,[.nils 2]⟩,none,(.sl (.st 2)),[.nils (.st 2)],some ⟨(.sl (.st 2)),[]⟩⟩,
 none,
 none,
 none,
 none,
 none,
 none,
 none,
 none,
 none,
 none,
 none,
 none,
 none,
 none,
 none,
 none,
 none,
 none,
 none,
 none,
 none,
 none,
 none,
 none,
 none,
 none,
 none,
 none,
 none,
 none,
 none,
 none,
 none,
 none,
 none,
 none,
 none,
 none,
 none,
 none,
 none,
 none,
 none,
 none,
 none,
 none,
 none,
 none,
 none,
 none,
 none,
 none,
 none,
 none,
 none,
 none,
 none,
 none,
 none,
 none,
 none,
 none,
 none,
 none,
 none,
 none,
 none,
 none,
 none,
 none,
 none,
 none,
 none,
 none,
 none,
 none,
 none,
 none,
 none,
 none,
 none,
 none,
 none,
 none,
 none,
 none,
 none,
 none,
 none,
 none,
 none,
 none,
 none,
 none,
 none,
 none,
 none,
 none,
 none,
 none,
 none,
 none,
 none,
 none,
 none,
 none,
 none,
 none,
 none,
 none,
 none,
 none,
 none,
 none,
 none,
 none,
 none,
 none,
 none,
 none,
 none,
 none,
 none,
 none,
 none,
 none,
 none,
 none,
 none,
 none,
 none,
 none,
 none,
 none]
noncomputable def X0:ZG U:=⟨Tryz.prog,tt0,[(0,Zxd),(4,Zup)],0⟩
theorem tok0:TOk X0:=tok_of (by kernel_rfl) (by kernel_rfl) (by kernel_rfl)
theorem eok0:Zk X0.E:=⟨by kernel_rfl⟩
theorem mixed:X0.prog.follows .mixedOrders=true:=by kernel_rfl
theorem G0:Gnd X0:=⟨uok,tok0,eok0,mixed⟩
noncomputable def Zt5:Zj9 U:=⟨(List Str),[9],[.p],[none],[.p .str],fun v=>ZoF v.1,fun q=>⟨[.p ⟨(.sl .str),q⟩],[]⟩⟩
noncomputable def ZvZ:Zj9 U:=⟨(List Str),[24],[.p],[some 1],[.p (.st 1)],fun v=>ZqS v.1,fun q=>⟨[.p ⟨(.sl .str),q⟩],[]⟩⟩
noncomputable def Zvd:Zj9 U:=⟨Str,[9,9],[.p,.p],[none,none],[.p .str,.p .str],fun v=>Zv1 v.1 v.2.1,fun q=>⟨[.p ⟨.str,q⟩],[]⟩⟩
noncomputable def ZrF:Zj9 U:=⟨Int,[9,5],[.p,.p],[none,none],[.p .str,.p (.int .u8)],fun v=>ZpX v.1 v.2.1,fun q=>⟨[.p ⟨(.int .i64),q⟩],[]⟩⟩
noncomputable def Zvh:Zj9 U:=⟨Str,[9,9],[.p,.p],[none,none],[.p .str,.p .str],fun v=>Zuu v.1 v.2.1,fun q=>⟨[.p ⟨.str,q⟩],[]⟩⟩
noncomputable def Zu5:Zj9 U:=⟨Str,[9,9],[.p,.p],[none,none],[.p .str,.p .str],fun v=>ZvG v.1 v.2.1,fun q=>⟨[.p ⟨.str,q⟩],[]⟩⟩
noncomputable def Zve:Zj9 U:=⟨Str,[3],[.p],[none],[.p (.int .i64)],fun v=>Zta v.1,fun q=>⟨[.p ⟨.str,q⟩],[]⟩⟩
end Go.Proofs
