/- Printed by wip/tools/tgen.py: tables. -/
import Derived.Test.YtbjnddlpdlfknaaGreatDoorQwS
import Derived.Test.YtbjnddlpdlfknaaGreatDoorProg
import Derived.KernelRfl
set_option linter.unusedVariables false
set_option linter.unusedSimpArgs false
set_option linter.unusedSectionVars false
namespace Go.Proofs
open Go Eng
set_option maxRecDepth 100000
def ZvP (x:ZnE):List (Lf ZvQ):=[⟨.bool,x.Neg⟩,⟨(.sl (.int .u32)),x.Words⟩]
def ZvJ:List (Lf ZvQ)→Option ZnE
 | [c0,c1]=>(c0.as .bool).bind fun a0=>(c1.as (.sl (.int .u32))).bind fun a1=>some (ZnE.mk a0 a1)
 |_=>none
theorem Zwr (cs:List (Lf ZvQ)) (x:ZnE) (h:ZvJ cs=some x):ZvP x=cs:=by unfold ZvJ at h;split at h;rotate_left;simp at h;obtain⟨a0,h0,h⟩:=bind_some h;obtain⟨a1,h1,h⟩:=bind_some h;simp only[Option.some.injEq]at h;subst h;rw[as_car h0,as_car h1];rfl
def ZwU (x:ZnE):P:= .agg [.bool x.Neg,.sl 1 (x.Words.map (fun x=> .int .u32 x))]
def ZuB (x:ZnA):List (Lf ZvQ):=[⟨.bool,x.Num.Neg⟩,⟨(.sl (.int .u32)),x.Num.Words⟩,⟨.bool,x.Den.Neg⟩,⟨(.sl (.int .u32)),x.Den.Words⟩]
def Zud:List (Lf ZvQ)→Option ZnA
 | [c0,c1,c2,c3]=>(c0.as .bool).bind fun a0=>(c1.as (.sl (.int .u32))).bind fun a1=>(c2.as .bool).bind fun a2=>(c3.as (.sl (.int .u32))).bind fun a3=>some (ZnA.mk (ZnE.mk a0 a1) (ZnE.mk a2 a3))
 |_=>none
theorem ZvU (cs:List (Lf ZvQ)) (x:ZnA) (h:Zud cs=some x):ZuB x=cs:=by unfold Zud at h;split at h;rotate_left;simp at h;obtain⟨a0,h0,h⟩:=bind_some h;obtain⟨a1,h1,h⟩:=bind_some h;obtain⟨a2,h2,h⟩:=bind_some h;obtain⟨a3,h3,h⟩:=bind_some h;simp only[Option.some.injEq]at h;subst h;rw[as_car h0,as_car h1,as_car h2,as_car h3];rfl
def Zv7 (x:ZnA):P:= .agg [.bool x.Num.Neg,.sl 1 (x.Num.Words.map (fun x=> .int .u32 x)),.bool x.Den.Neg,.sl 1 (x.Den.Words.map (fun x=> .int .u32 x))]
def Zvz (x:ZnU):List (Lf ZvQ):=[⟨.bool,x.Null⟩,⟨.str,x.Text⟩]
def Zvw:List (Lf ZvQ)→Option ZnU
 | [c0,c1]=>(c0.as .bool).bind fun a0=>(c1.as .str).bind fun a1=>some (ZnU.mk a0 a1)
 |_=>none
theorem Zwg (cs:List (Lf ZvQ)) (x:ZnU) (h:Zvw cs=some x):Zvz x=cs:=by unfold Zvw at h;split at h;rotate_left;simp at h;obtain⟨a0,h0,h⟩:=bind_some h;obtain⟨a1,h1,h⟩:=bind_some h;simp only[Option.some.injEq]at h;subst h;rw[as_car h0,as_car h1];rfl
def ZvV (x:ZnU):P:= .agg [.bool x.Null,.str x.Text]
def Zve (x:ZqF):List (Lf ZvQ):=[⟨.str,x.Name⟩,⟨(.sl (.st 2)),x.Cells⟩]
def Zu3:List (Lf ZvQ)→Option ZqF
 | [c0,c1]=>(c0.as .str).bind fun a0=>(c1.as (.sl (.st 2))).bind fun a1=>some (ZqF.mk a0 a1)
 |_=>none
theorem Zv6 (cs:List (Lf ZvQ)) (x:ZqF) (h:Zu3 cs=some x):Zve x=cs:=by unfold Zu3 at h;split at h;rotate_left;simp at h;obtain⟨a0,h0,h⟩:=bind_some h;obtain⟨a1,h1,h⟩:=bind_some h;simp only[Option.some.injEq]at h;subst h;rw[as_car h0,as_car h1];rfl
def Zwi (x:ZqF):P:= .agg [.str x.Name,.sl 2 (x.Cells.map ZvV)]
def Zvd (x:Zow):List (Lf ZvQ):=[⟨.str,x.word⟩,⟨.fnc,x.canonical⟩,⟨.fnc,x.value⟩]
def Zu1:List (Lf ZvQ)→Option Zow
 | [c0,c1,c2]=>(c0.as .str).bind fun a0=>(c1.as .fnc).bind fun a1=>(c2.as .fnc).bind fun a2=>some (Zow.mk a0 a1 a2)
 |_=>none
theorem Zv5 (cs:List (Lf ZvQ)) (x:Zow) (h:Zu1 cs=some x):Zvd x=cs:=by unfold Zu1 at h;split at h;rotate_left;simp at h;obtain⟨a0,h0,h⟩:=bind_some h;obtain⟨a1,h1,h⟩:=bind_some h;obtain⟨a2,h2,h⟩:=bind_some h;simp only[Option.some.injEq]at h;subst h;rw[as_car h0,as_car h1,as_car h2];rfl
def Zwh (x:Zow):P:= .agg [.str x.word,ZjM x.canonical,ZjM x.value]
def Ztk (x:ZnB):List (Lf ZvQ):=[⟨(.sl (.int .i64)),x.l⟩,⟨(.int .i64),x.at_⟩]
def Zsz:List (Lf ZvQ)→Option ZnB
 | [c0,c1]=>(c0.as (.sl (.int .i64))).bind fun a0=>(c1.as (.int .i64)).bind fun a1=>some (ZnB.mk a0 a1)
 |_=>none
theorem Zu2 (cs:List (Lf ZvQ)) (x:ZnB) (h:Zsz cs=some x):Ztk x=cs:=by unfold Zsz at h;split at h;rotate_left;simp at h;obtain⟨a0,h0,h⟩:=bind_some h;obtain⟨a1,h1,h⟩:=bind_some h;simp only[Option.some.injEq]at h;subst h;rw[as_car h0,as_car h1];rfl
def Zvj (x:ZnB):P:= .agg [.sl 1 (x.l.map (fun x=> .int .i64 x)),.int .i64 x.at_]
def ZAF:(n:Nat)→ZvQ n→List (Lf ZvQ)
 |0,x=>ZvP x
 |1,x=>ZuB x
 |2,x=>Zvz x
 |3,x=>Zve x
 |4,x=>Zvd x
 |5,x=>Ztk x
 |_+6,_=>[]
def ofU:(n:Nat)→List (Lf ZvQ)→Option (ZvQ n)
 |0,cs=>ZvJ cs
 |1,cs=>Zud cs
 |2,cs=>Zvw cs
 |3,cs=>Zu3 cs
 |4,cs=>Zu1 cs
 |5,cs=>Zsz cs
 |_+6,cs=>match cs with | []=>some () |_=>none
def encU:(n:Nat)→ZvQ n→P
 |0,x=>ZwU x
 |1,x=>Zv7 x
 |2,x=>ZvV x
 |3,x=>Zwi x
 |4,x=>Zwh x
 |5,x=>Zvj x
 |_+6,_=> .agg []
@[reducible] def U:Zc:=⟨ZvQ,ZBR,ZAF,ofU,encU⟩
theorem uok:UOk U where
 of_cells:=fun n cs x h=>match n,x,h with
  |0,x,h=>Zwr cs x h
  |1,x,h=>ZvU cs x h
  |2,x,h=>Zwg cs x h
  |3,x,h=>Zv6 cs x h
  |4,x,h=>Zv5 cs x h
  |5,x,h=>Zu2 cs x h
  |_+6,x,h=>by
   match cs,h with
   | [],h=>rfl
 enc_cells:=fun n x=>match n,x with
  |0,x=>rfl
  |1,x=>rfl
  |2,x=>rfl
  |3,x=>rfl
  |4,x=>rfl
  |5,x=>rfl
  |_+6,x=>rfl
 len:=fun n x=>match n,x with
  |0,x=>rfl
  |1,x=>rfl
  |2,x=>rfl
  |3,x=>rfl
  |4,x=>rfl
  |5,x=>rfl
  |_+6,x=>rfl
noncomputable def tt0:List (Option (TT U)):=[
 none,
 some ⟨⟨.func,1,8,[.p .nilfn]⟩,none,.fnc,[.nilfn],some ⟨.fnc,(none:Option Nat)⟩⟩,
 some ⟨⟨.int .i64,1,8,[.p (.int .i64 0)]⟩,none,(.int .i64),[.v (.int .i64) (0:Int)],some ⟨(.int .i64),(0:Int)⟩⟩,
 some ⟨⟨.int .i64,1,8,[.p (.int .i64 0)]⟩,none,(.int .i64),[.v (.int .i64) (0:Int)],some ⟨(.int .i64),(0:Int)⟩⟩,
 some ⟨⟨.bool,1,1,[.p (.bool false)]⟩,none,.bool,[.v .bool false],some ⟨.bool,false⟩⟩,
 some ⟨⟨.int .u8,1,1,[.p (.int .u8 0)]⟩,none,(.int .u8),[.v (.int .u8) (0:Int)],some ⟨(.int .u8),(0:Int)⟩⟩,
 none,
 none,
 none,
 some ⟨⟨.str,1,16,[.p (.str [])]⟩,none,.str,[.v .str ([]:Str)],some ⟨.str,([]:Str)⟩⟩,
 none,
 none,
 none,
 none,
 none,
 none,
 none,
 none,
 none,
 none,
 none,
 none,
 some ⟨⟨.sl 3,1,24,[.nils 1]⟩,none,(.sl (.int .i64)),[.nils (.int .i64)],some ⟨(.sl (.int .i64)),[]⟩⟩,
 none,
 none,
 some ⟨⟨.ptr 82,1,8,[.p .nilp]⟩,none,.bool,[.nilp],none⟩,
 none,
 none,
 some ⟨⟨.sl 41,1,24,[.nils 2]⟩,none,(.sl (.st 2)),[.nils (.st 2)],some ⟨(.sl (.st 2)),[]⟩⟩,
 some ⟨⟨.struct [(0,9),(1,28)],2,40,[.p (.str []),.nils 2]⟩,some 3,(.st 3),[.v .str ([]:Str),.nils (.st 2)],some ⟨(.st 3),(ZqF.mk ([]:Str) ([]:(List ZnU)))⟩⟩,
 some ⟨⟨.struct [(0,9),(1,28)],2,40,[.p (.str []),.nils 2]⟩,some 3,(.st 3),[.v .str ([]:Str),.nils (.st 2)],some ⟨(.st 3),(ZqF.mk ([]:Str) ([]:(List ZnU)))⟩⟩,
 none,
 none,
 none,
 none,
 none,
 some ⟨⟨.int .i64,1,8,[.p (.int .i64 0)]⟩,none,(.int .i64),[.v (.int .i64) (0:Int)],some ⟨(.int .i64),(0:Int)⟩⟩,
 none,
 none,
 none,
 some ⟨⟨.struct [(0,4),(1,9)],2,24,[.p (.bool false),.p (.str [])]⟩,some 2,(.st 2),[.v .bool false,.v .str ([]:Str)],some ⟨(.st 2),(ZnU.mk false ([]:Str))⟩⟩,
 some ⟨⟨.struct [(0,4),(1,9)],2,24,[.p (.bool false),.p (.str [])]⟩,some 2,(.st 2),[.v .bool false,.v .str ([]:Str)],some ⟨(.st 2),(ZnU.mk false ([]:Str))⟩⟩,
 some ⟨⟨.sl 128,1,24,[.nils 1]⟩,none,(.sl (.int .u32)),[.nils (.int .u32)],some ⟨(.sl (.int .u32)),[]⟩⟩,
 some ⟨⟨.struct [(0,4),(1,42)],2,32,[.p (.bool false),.nils 1]⟩,some 0,(.st 0),[.v .bool false,.nils (.int .u32)],some ⟨(.st 0),(ZnE.mk false ([]:(List Int)))⟩⟩,
 some ⟨⟨.struct [(0,4),(1,42)],2,32,[.p (.bool false),.nils 1]⟩,some 0,(.st 0),[.v .bool false,.nils (.int .u32)],some ⟨(.st 0),(ZnE.mk false ([]:(List Int)))⟩⟩,
 some ⟨⟨.struct [(0,44),(2,44)],4,64,[.p (.bool false),.nils 1,.p (.bool false),.nils 1]⟩,some 1,(.st 1),[.v .bool false,.nils (.int .u32),.v .bool false,.nils (.int .u32)],some ⟨(.st 1),(ZnA.mk (ZnE.mk false ([]:(List Int))) (ZnE.mk false ([]:(List Int))))⟩⟩,
 some ⟨⟨.struct [(0,44),(2,44)],4,64,[.p (.bool false),.nils 1,.p (.bool false),.nils 1]⟩,some 1,(.st 1),[.v .bool false,.nils (.int .u32),.v .bool false,.nils (.int .u32)],some ⟨(.st 1),(ZnA.mk (ZnE.mk false ([]:(List Int))) (ZnE.mk false ([]:(List Int))))⟩⟩,
 none,
 none,
 some ⟨⟨.int .u64,1,8,[.p (.int .u64 0)]⟩,none,(.int .u64),[.v (.int .u64) (0:Int)],some ⟨(.int .u64),(0:Int)⟩⟩,
 none,
 none,
 none,
 none,
 none,
 none,
 none,
 none,
 none,
 none,
 none,
 some ⟨⟨.sl 46,1,24,[.nils 4]⟩,none,(.sl (.st 1)),[.nils (.st 1)],some ⟨(.sl (.st 1)),[]⟩⟩,
 none,
 none,
 none,
 none,
 none,
 none,
 none,
 none,
 none,
 none,
 none,
 none,
 none,
 none,
 none,
 none,
 some ⟨⟨.func,1,8,[.p .nilfn]⟩,none,.fnc,[.nilfn],some ⟨.fnc,(none:Option Nat)⟩⟩,
 none,
 none,
 some ⟨⟨.struct [(0,22),(1,3)],2,32,[.nils 1,.p (.int .i64 0)]⟩,some 5,(.st 5),[.nils (.int .i64),.v (.int .i64) (0:Int)],some ⟨(.st 5),(ZnB.mk ([]:(List Int)) 0)⟩⟩,
 some ⟨⟨.struct [(0,22),(1,3)],2,32,[.nils 1,.p (.int .i64 0)]⟩,some 5,(.st 5),[.nils (.int .i64),.v (.int .i64) (0:Int)],some ⟨(.st 5),(ZnB.mk ([]:(List Int)) 0)⟩⟩,
 none,
 none,
 none,
 none,
 none,
 none,
 none,
 none,
 none,
 none,
 none,
 none,
 none,
 none,
 none,
 none,
 none,
 none,
 none,
 none,
 none,
 none,
 none,
 none,
 none,
 none,
 none,
 none,
 none,
 none,
 none,
 some ⟨⟨.sl 9,1,24,[.nils 1]⟩,none,(.sl .str),[.nils .str],some ⟨(.sl .str),[]⟩⟩,
 none,
 none,
 none,
 none,
 none,
 none,
 none,
 some ⟨⟨.func,1,8,[.p .nilfn]⟩,none,.fnc,[.nilfn],some ⟨.fnc,(none:Option Nat)⟩⟩,
 none,
 none,
 none,
 none,
 none,
 some ⟨⟨.int .u32,1,4,[.p (.int .u32 0)]⟩,none,(.int .u32),[.v (.int .u32) (0:Int)],some ⟨(.int .u32),(0:Int)⟩⟩,
 none,
 some ⟨⟨.int .u64,1,8,[.p (.int .u64 0)]⟩,none,(.int .u64),[.v (.int .u64) (0:Int)],some ⟨(.int .u64),(0:Int)⟩⟩,
 none,
 none,
 none,
 none,
 none,
 none,
 none,
 none,
 none,
 none,
 none,
 none,
 none,
 none,
 none,
 some ⟨⟨.sl 128,1,24,[.nils 1]⟩,none,(.sl (.int .u32)),[.nils (.int .u32)],some ⟨(.sl (.int .u32)),[]⟩⟩,
 none,
 none,
 none,
 none,
 none,
 none,
 none,
 none,
 none,
 none,
 none,
 none,
 none,
 none,
 none,
 some ⟨⟨.sl 5,1,24,[.nils 1]⟩,none,(.sl (.int .u8)),[.nils (.int .u8)],some ⟨(.sl (.int .u8)),[]⟩⟩,
 none,
 none,
 none,
 some ⟨⟨.func,1,8,[.p .nilfn]⟩,none,.fnc,[.nilfn],some ⟨.fnc,(none:Option Nat)⟩⟩,
 some ⟨⟨.struct [(0,9),(1,166),(2,122)],3,32,[.p (.str []),.p .nilfn,.p .nilfn]⟩,some 4,(.st 4),[.v .str ([]:Str),.nilfn,.nilfn],some ⟨(.st 4),(Zow.mk ([]:Str) (none:Option Nat) (none:Option Nat))⟩⟩,
 some ⟨⟨.struct [(0,9),(1,166),(2,122)],3,32,[.p (.str []),.p .nilfn,.p .nilfn]⟩,some 4,(.st 4),[.v .str ([]:Str),.nilfn,.nilfn],some ⟨(.st 4),(Zow.mk ([]:Str) (none:Option Nat) (none:Option Nat))⟩⟩,
 some ⟨⟨.map 3 168,1,8,[.p (.map (.int .i64) [])]⟩,none,(.map (.int .i64) (.st 4)),[.v (.map (.int .i64) (.st 4)) []],some ⟨(.map (.int .i64) (.st 4)),[]⟩⟩,
 none,
 none,
 some ⟨⟨.int .i64,1,8,[.p (.int .i64 0)]⟩,none,(.int .i64),[.v (.int .i64) (0:Int)],some ⟨(.int .i64),(0:Int)⟩⟩,
 none,
 none,
 none,
 none,
 none,
 none,
 none,
 none,
 some ⟨⟨.sl 44,1,24,[.nils 2]⟩,none,(.sl (.st 0)),[.nils (.st 0)],some ⟨(.sl (.st 0)),[]⟩⟩,
 none,
 none,
 none,
 none,
 none,
 none,
 none,
 none,
 none,
 none,
 none,
 none,
 none,
 none,
 none,
 none,
 none,
 none,
 none,
 none,
 none,
 none,
 some ⟨⟨.int .u64,1,8,[.p (.int .u64 0)]⟩,none,(.int .u64),[.v (.int .u64) (0:Int)],some ⟨(.int .u64),(0:Int)⟩⟩,
 none,
 none,
 none,
 some ⟨⟨.ptr 3,1,8,[.p .nilp]⟩,none,.bool,[.nilp],none⟩,
 none,
 none,
 none,
 none,
 none,
 none,
 none,
 none,
 none,
 none,
 none,
 none,
 none,
 none,
 none,
 none,
 none,
 none,
 none,
 none,
 none,
 none,
 none,
 none,
 none,
 none,
 none,
 none,
 none,
 some ⟨⟨.ptr 204,1,8,[.p .nilp]⟩,none,.bool,[.nilp],none⟩,
 none,
 none,
 none,
 none,
 none,
 none,
 none,
 none,
 none,
 none,
 none,
 none,
 none,
 none,
 none,
 none,
 none,
 none,
 none,
 none,
 none,
 none,
 none,
 none,
 none,
 none,
 none,
 none,
 none,
 none,
 none,
 none,
 none,
 none,
 none,
 none,
 none,
 none,
 none,
 none,
 none,
 none,
 none,
 none,
 none,
 none,
 none,
 none,
 none,
 none,
 none,
 none,
 none,
 none,
 none,
 none,
 none,
 none,
 none,
 none,
 none,
 none,
 none,
 none,
 none,
 none,
 none,
 none,
 none]
noncomputable def X0:ZG U:=⟨Tryz.prog,tt0,[(2,Zwc)],0⟩
theorem tok0:TOk X0:=tok_of (by kernel_rfl) (by kernel_rfl) (by kernel_rfl)
theorem eok0:Zk X0.E:=⟨by kernel_rfl⟩
theorem mixed:X0.prog.follows .mixedOrders=true:=by kernel_rfl
theorem G0:Gnd X0:=⟨uok,tok0,eok0,mixed⟩
noncomputable def Zu6:Zj9 U:=⟨(Int×Int),[49,49,49],[.p,.p,.p],[none,none,none],[.p (.int .u64),.p (.int .u64),.p (.int .u64)],fun v=>Ztn v.1 v.2.1 v.2.2.1,fun q=>⟨[.p ⟨(.int .u64),q.1⟩,.p ⟨(.int .u64),q.2⟩],[]⟩⟩
noncomputable def Zuv:Zj9 U:=⟨Str,[9,9],[.p,.p],[none,none],[.p .str,.p .str],fun v=>Zvh v.1 v.2.1,fun q=>⟨[.p ⟨.str,q⟩],[]⟩⟩
noncomputable def Zrt:Zj9 U:=⟨Int,[9,5],[.p,.p],[none,none],[.p .str,.p (.int .u8)],fun v=>Zp8 v.1 v.2.1,fun q=>⟨[.p ⟨(.int .i64),q⟩],[]⟩⟩
noncomputable def ZuC:Zj9 U:=⟨Str,[9,9],[.p,.p],[none,none],[.p .str,.p .str],fun v=>ZtY v.1 v.2.1,fun q=>⟨[.p ⟨.str,q⟩],[]⟩⟩
noncomputable def Zut:Zj9 U:=⟨Str,[9,9],[.p,.p],[none,none],[.p .str,.p .str],fun v=>ZuV v.1 v.2.1,fun q=>⟨[.p ⟨.str,q⟩],[]⟩⟩
end Go.Proofs
