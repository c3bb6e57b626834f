/- Printed by wip/tools/tgen.py: tables. -/
import Derived.Test.YthefajbigloihaaGreatDoorSnS
import Derived.Test.YthefajbigloihaaGreatDoorProg
import Derived.KernelRfl
set_option linter.unusedVariables false
set_option linter.unusedSimpArgs false
set_option linter.unusedSectionVars false
namespace Go.Proofs
open Go Eng
set_option maxRecDepth 100000
def Zve (x:ZnG):List (Lf Zvf):=[⟨.bool,x.Null⟩,⟨.str,x.Text⟩]
def Zu8:List (Lf Zvf)→Option ZnG
 | [c0,c1]=>(c0.as .bool).bind fun a0=>(c1.as .str).bind fun a1=>some (ZnG.mk a0 a1)
 |_=>none
theorem Zv9 (cs:List (Lf Zvf)) (x:ZnG) (h:Zu8 cs=some x):Zve x=cs:=by unfold Zu8 at h;split at h;rotate_left;simp at h;obtain⟨a0,h0,h⟩:=bind_some h;obtain⟨a1,h1,h⟩:=bind_some h;simp only[Option.some.injEq]at h;subst h;rw[as_car h0,as_car h1];rfl
def Zsw (x:ZnG):P:= .agg [.bool x.Null,.str x.Text]
def ZuN (x:ZnJ):List (Lf Zvf):=[⟨.str,x.Name⟩,⟨(.sl (.st 0)),x.Cells⟩]
def ZuH:List (Lf Zvf)→Option ZnJ
 | [c0,c1]=>(c0.as .str).bind fun a0=>(c1.as (.sl (.st 0))).bind fun a1=>some (ZnJ.mk a0 a1)
 |_=>none
theorem ZvS (cs:List (Lf Zvf)) (x:ZnJ) (h:ZuH cs=some x):ZuN x=cs:=by unfold ZuH at h;split at h;rotate_left;simp at h;obtain⟨a0,h0,h⟩:=bind_some h;obtain⟨a1,h1,h⟩:=bind_some h;simp only[Option.some.injEq]at h;subst h;rw[as_car h0,as_car h1];rfl
def Zub (x:ZnJ):P:= .agg [.str x.Name,.sl 2 (x.Cells.map Zsw)]
def Zvv (x:ZnC):List (Lf Zvf):=[⟨.bool,x.Neg⟩,⟨(.sl (.int .u32)),x.Words⟩]
def Zvq:List (Lf Zvf)→Option ZnC
 | [c0,c1]=>(c0.as .bool).bind fun a0=>(c1.as (.sl (.int .u32))).bind fun a1=>some (ZnC.mk a0 a1)
 |_=>none
theorem Zwk (cs:List (Lf Zvf)) (x:ZnC) (h:Zvq cs=some x):Zvv x=cs:=by unfold Zvq at h;split at h;rotate_left;simp at h;obtain⟨a0,h0,h⟩:=bind_some h;obtain⟨a1,h1,h⟩:=bind_some h;simp only[Option.some.injEq]at h;subst h;rw[as_car h0,as_car h1];rfl
def ZwV (x:ZnC):P:= .agg [.bool x.Neg,.sl 1 (x.Words.map (fun x=> .int .u32 x))]
def Zug (x:ZnA):List (Lf Zvf):=[⟨.bool,x.Num.Neg⟩,⟨(.sl (.int .u32)),x.Num.Words⟩,⟨.bool,x.Den.Neg⟩,⟨(.sl (.int .u32)),x.Den.Words⟩]
def ZtS:List (Lf Zvf)→Option ZnA
 | [c0,c1,c2,c3]=>(c0.as .bool).bind fun a0=>(c1.as (.sl (.int .u32))).bind fun a1=>(c2.as .bool).bind fun a2=>(c3.as (.sl (.int .u32))).bind fun a3=>some (ZnA.mk (ZnC.mk a0 a1) (ZnC.mk a2 a3))
 |_=>none
theorem ZvB (cs:List (Lf Zvf)) (x:ZnA) (h:ZtS cs=some x):Zug x=cs:=by unfold ZtS at h;split at h;rotate_left;simp at h;obtain⟨a0,h0,h⟩:=bind_some h;obtain⟨a1,h1,h⟩:=bind_some h;obtain⟨a2,h2,h⟩:=bind_some h;obtain⟨a3,h3,h⟩:=bind_some h;simp only[Option.some.injEq]at h;subst h;rw[as_car h0,as_car h1,as_car h2,as_car h3];rfl
def ZvW (x:ZnA):P:= .agg [.bool x.Num.Neg,.sl 1 (x.Num.Words.map (fun x=> .int .u32 x)),.bool x.Den.Neg,.sl 1 (x.Den.Words.map (fun x=> .int .u32 x))]
def ZuM (x:Zog):List (Lf Zvf):=[⟨.str,x.word⟩,⟨.fnc,x.canonical⟩,⟨.fnc,x.value⟩]
def ZuF:List (Lf Zvf)→Option Zog
 | [c0,c1,c2]=>(c0.as .str).bind fun a0=>(c1.as .fnc).bind fun a1=>(c2.as .fnc).bind fun a2=>some (Zog.mk a0 a1 a2)
 |_=>none
theorem ZvR (cs:List (Lf Zvf)) (x:Zog) (h:ZuF cs=some x):ZuM x=cs:=by unfold ZuF at h;split at h;rotate_left;simp at h;obtain⟨a0,h0,h⟩:=bind_some h;obtain⟨a1,h1,h⟩:=bind_some h;obtain⟨a2,h2,h⟩:=bind_some h;simp only[Option.some.injEq]at h;subst h;rw[as_car h0,as_car h1,as_car h2];rfl
def Zwa (x:Zog):P:= .agg [.str x.word,ZjM x.canonical,ZjM x.value]
def Zs5 (x:ZnD):List (Lf Zvf):=[⟨(.sl (.int .i64)),x.l⟩,⟨(.int .i64),x.at_⟩]
def Zse:List (Lf Zvf)→Option ZnD
 | [c0,c1]=>(c0.as (.sl (.int .i64))).bind fun a0=>(c1.as (.int .i64)).bind fun a1=>some (ZnD.mk a0 a1)
 |_=>none
theorem ZuG (cs:List (Lf Zvf)) (x:ZnD) (h:Zse cs=some x):Zs5 x=cs:=by unfold Zse at h;split at h;rotate_left;simp at h;obtain⟨a0,h0,h⟩:=bind_some h;obtain⟨a1,h1,h⟩:=bind_some h;simp only[Option.some.injEq]at h;subst h;rw[as_car h0,as_car h1];rfl
def ZuS (x:ZnD):P:= .agg [.sl 1 (x.l.map (fun x=> .int .i64 x)),.int .i64 x.at_]
def Zvd (x:ZnS):List (Lf Zvf):=[⟨.str,x.e0⟩,⟨.str,x.e1⟩]
def Zu7:List (Lf Zvf)→Option ZnS
 | [c0,c1]=>(c0.as .str).bind fun a0=>(c1.as .str).bind fun a1=>some (ZnS.mk a0 a1)
 |_=>none
theorem Zv8 (cs:List (Lf Zvf)) (x:ZnS) (h:Zu7 cs=some x):Zvd x=cs:=by unfold Zu7 at h;split at h;rotate_left;simp at h;obtain⟨a0,h0,h⟩:=bind_some h;obtain⟨a1,h1,h⟩:=bind_some h;simp only[Option.some.injEq]at h;subst h;rw[as_car h0,as_car h1];rfl
def Zwu (x:ZnS):P:= .agg [.str x.e0,.str x.e1]
def ZBR:(n:Nat)→Zvf n→List (Lf Zvf)
 |0,x=>Zve x
 |1,x=>ZuN x
 |2,x=>Zvv x
 |3,x=>Zug x
 |4,x=>ZuM x
 |5,x=>Zs5 x
 |6,x=>Zvd x
 |_+7,_=>[]
def ofU:(n:Nat)→List (Lf Zvf)→Option (Zvf n)
 |0,cs=>Zu8 cs
 |1,cs=>ZuH cs
 |2,cs=>Zvq cs
 |3,cs=>ZtS cs
 |4,cs=>ZuF cs
 |5,cs=>Zse cs
 |6,cs=>Zu7 cs
 |_+7,cs=>match cs with | []=>some () |_=>none
def encU:(n:Nat)→Zvf n→P
 |0,x=>Zsw x
 |1,x=>Zub x
 |2,x=>ZwV x
 |3,x=>ZvW x
 |4,x=>Zwa x
 |5,x=>ZuS x
 |6,x=>Zwu x
 |_+7,_=> .agg []
@[reducible] def U:Zc:=⟨Zvf,ZCV,ZBR,ofU,encU⟩
theorem uok:UOk U where
 of_cells:=fun n cs x h=>match n,x,h with
  |0,x,h=>Zv9 cs x h
  |1,x,h=>ZvS cs x h
  |2,x,h=>Zwk cs x h
  |3,x,h=>ZvB cs x h
  |4,x,h=>ZvR cs x h
  |5,x,h=>ZuG cs x h
  |6,x,h=>Zv8 cs x h
  |_+7,x,h=>by
   match cs,h with
   | [],h=>rfl
 enc_cells:=fun n x=>match n,x with
  |0,x=>rfl
  |1,x=>rfl
  |2,x=>rfl
  |3,x=>rfl
  |4,x=>rfl
  |5,x=>rfl
  |6,x=>rfl
  |_+7,x=>rfl
 len:=fun n x=>match n,x with
  |0,x=>rfl
  |1,x=>rfl
  |2,x=>rfl
  |3,x=>rfl
  |4,x=>rfl
  |5,x=>rfl
  |6,x=>rfl
  |_+7,x=>rfl
noncomputable def tt0:List (Option (TT U)):=[
 none,
 some ⟨⟨.func,1,8,[.p .nilfn]⟩,none,.fnc,[.nilfn],some ⟨.fnc,(none:Option Nat)⟩⟩,
 some ⟨⟨.int .i64,1,8,[.p (.int .i64 0)]⟩,none,(.int .i64),[.v (.int .i64) (0:Int)],some ⟨(.int .i64),(0:Int)⟩⟩,
 some ⟨⟨.int .i64,1,8,[.p (.int .i64 0)]⟩,none,(.int .i64),[.v (.int .i64) (0:Int)],some ⟨(.int .i64),(0:Int)⟩⟩,
 some ⟨⟨.bool,1,1,[.p (.bool false)]⟩,none,.bool,[.v .bool false],some ⟨.bool,false⟩⟩,
 some ⟨⟨.int .u8,1,1,[.p (.int .u8 0)]⟩,none,(.int .u8),[.v (.int .u8) (0:Int)],some ⟨(.int .u8),(0:Int)⟩⟩,
 none,
 none,
 none,
 some ⟨⟨.str,1,16,[.p (.str [])]⟩,none,.str,[.v .str ([]:Str)],some ⟨.str,([]:Str)⟩⟩,
 none,
 none,
 none,
 none,
 none,
 none,
 none,
 none,
 none,
 none,
 none,
 none,
 some ⟨⟨.sl 72,1,24,[.nils 2]⟩,none,(.sl (.st 0)),[.nils (.st 0)],some ⟨(.sl (.st 0)),[]⟩⟩,
 some ⟨⟨.struct [(0,9),(1,22)],2,40,[.p (.str []),.nils 2]⟩,some 1,(.st 1),[.v .str ([]:Str),.nils (.st 0)],some ⟨(.st 1),(ZnJ.mk ([]:Str) ([]:(List ZnG)))⟩⟩,
 some ⟨⟨.struct [(0,9),(1,22)],2,40,[.p (.str []),.nils 2]⟩,some 1,(.st 1),[.v .str ([]:Str),.nils (.st 0)],some ⟨(.st 1),(ZnJ.mk ([]:Str) ([]:(List ZnG)))⟩⟩,
 some ⟨⟨.sl 3,1,24,[.nils 1]⟩,none,(.sl (.int .i64)),[.nils (.int .i64)],some ⟨(.sl (.int .i64)),[]⟩⟩,
 none,
 none,
 some ⟨⟨.ptr 94,1,8,[.p .nilp]⟩,none,.bool,[.nilp],none⟩,
 none,
 none,
 none,
 none,
 none,
 none,
 none,
 none,
 none,
 some ⟨⟨.int .i64,1,8,[.p (.int .i64 0)]⟩,none,(.int .i64),[.v (.int .i64) (0:Int)],some ⟨(.int .i64),(0:Int)⟩⟩,
 none,
 none,
 none,
 some ⟨⟨.int .u64,1,8,[.p (.int .u64 0)]⟩,none,(.int .u64),[.v (.int .u64) (0:Int)],some ⟨(.int .u64),(0:Int)⟩⟩,
 none,
 none,
 none,
 none,
 some ⟨⟨.sl 144,1,24,[.nils 1]⟩,none,(.sl (.int .u32)),[.nils (.int .u32)],some ⟨(.sl (.int .u32)),[]⟩⟩,
 some ⟨⟨.struct [(0,4),(1,47)],2,32,[.p (.bool false),.nils 1]⟩,some 2,(.st 2),[.v .bool false,.nils (.int .u32)],some ⟨(.st 2),(ZnC.mk false ([]:(List Int)))⟩⟩,
 some ⟨⟨.struct [(0,4),(1,47)],2,32,[.p (.bool false),.nils 1]⟩,some 2,(.st 2),[.v .bool false,.nils (.int .u32)],some ⟨(.st 2),(ZnC.mk false ([]:(List Int)))⟩⟩,
 some ⟨⟨.struct [(0,49),(2,49)],4,64,[.p (.bool false),.nils 1,.p (.bool false),.nils 1]⟩,some 3,(.st 3),[.v .bool false,.nils (.int .u32),.v .bool false,.nils (.int .u32)],some ⟨(.st 3),(ZnA.mk (ZnC.mk false ([]:(List Int))) (ZnC.mk false ([]:(List Int))))⟩⟩,
 some ⟨⟨.struct [(0,49),(2,49)],4,64,[.p (.bool false),.nils 1,.p (.bool false),.nils 1]⟩,some 3,(.st 3),[.v .bool false,.nils (.int .u32),.v .bool false,.nils (.int .u32)],some ⟨(.st 3),(ZnA.mk (ZnC.mk false ([]:(List Int))) (ZnC.mk false ([]:(List Int))))⟩⟩,
 none,
 none,
 none,
 none,
 none,
 none,
 none,
 some ⟨⟨.arr 2 9,2,32,[.p (.str []),.p (.str [])]⟩,some 6,(.st 6),[.v .str ([]:Str),.v .str ([]:Str)],some ⟨(.st 6),(ZnS.mk ([]:Str) ([]:Str))⟩⟩,
 some ⟨⟨.sl 59,1,24,[.nils 2]⟩,none,(.sl (.st 6)),[.nils (.st 6)],some ⟨(.sl (.st 6)),[]⟩⟩,
 none,
 some ⟨⟨.sl 9,1,24,[.nils 1]⟩,none,(.sl .str),[.nils .str],some ⟨(.sl .str),[]⟩⟩,
 none,
 none,
 none,
 none,
 none,
 none,
 none,
 none,
 some ⟨⟨.struct [(0,4),(1,9)],2,24,[.p (.bool false),.p (.str [])]⟩,some 0,(.st 0),[.v .bool false,.v .str ([]:Str)],some ⟨(.st 0),(ZnG.mk false ([]:Str))⟩⟩,
 some ⟨⟨.struct [(0,4),(1,9)],2,24,[.p (.bool false),.p (.str [])]⟩,some 0,(.st 0),[.v .bool false,.v .str ([]:Str)],some ⟨(.st 0),(ZnG.mk false ([]:Str))⟩⟩,
 none,
 none,
 none,
 none,
 none,
 none,
 none,
 none,
 none,
 none,
 none,
 none,
 none,
 none,
 none,
 none,
 none,
 none,
 none,
 none,
 some ⟨⟨.struct [(0,25),(1,3)],2,32,[.nils 1,.p (.int .i64 0)]⟩,some 5,(.st 5),[.nils (.int .i64),.v (.int .i64) (0:Int)],some ⟨(.st 5),(ZnD.mk ([]:(List Int)) 0)⟩⟩,
 some ⟨⟨.struct [(0,25),(1,3)],2,32,[.nils 1,.p (.int .i64 0)]⟩,some 5,(.st 5),[.nils (.int .i64),.v (.int .i64) (0:Int)],some ⟨(.st 5),(ZnD.mk ([]:(List Int)) 0)⟩⟩,
 none,
 none,
 none,
 none,
 none,
 none,
 none,
 none,
 none,
 some ⟨⟨.sl 5,1,24,[.nils 1]⟩,none,(.sl (.int .u8)),[.nils (.int .u8)],some ⟨(.sl (.int .u8)),[]⟩⟩,
 none,
 none,
 none,
 none,
 none,
 none,
 none,
 none,
 none,
 none,
 none,
 none,
 none,
 none,
 none,
 none,
 none,
 none,
 none,
 none,
 none,
 none,
 none,
 none,
 none,
 none,
 none,
 none,
 none,
 none,
 none,
 none,
 none,
 none,
 none,
 none,
 none,
 none,
 some ⟨⟨.int .u64,1,8,[.p (.int .u64 0)]⟩,none,(.int .u64),[.v (.int .u64) (0:Int)],some ⟨(.int .u64),(0:Int)⟩⟩,
 some ⟨⟨.int .u32,1,4,[.p (.int .u32 0)]⟩,none,(.int .u32),[.v (.int .u32) (0:Int)],some ⟨(.int .u32),(0:Int)⟩⟩,
 none,
 none,
 none,
 none,
 none,
 none,
 none,
 none,
 none,
 none,
 none,
 none,
 none,
 none,
 none,
 none,
 none,
 none,
 none,
 none,
 none,
 none,
 some ⟨⟨.func,1,8,[.p .nilfn]⟩,none,.fnc,[.nilfn],some ⟨.fnc,(none:Option Nat)⟩⟩,
 none,
 none,
 none,
 none,
 none,
 none,
 none,
 none,
 none,
 none,
 none,
 some ⟨⟨.sl 144,1,24,[.nils 1]⟩,none,(.sl (.int .u32)),[.nils (.int .u32)],some ⟨(.sl (.int .u32)),[]⟩⟩,
 none,
 none,
 none,
 none,
 none,
 none,
 none,
 none,
 some ⟨⟨.func,1,8,[.p .nilfn]⟩,none,.fnc,[.nilfn],some ⟨.fnc,(none:Option Nat)⟩⟩,
 some ⟨⟨.struct [(0,9),(1,188),(2,167)],3,32,[.p (.str []),.p .nilfn,.p .nilfn]⟩,some 4,(.st 4),[.v .str ([]:Str),.nilfn,.nilfn],some ⟨(.st 4),(Zog.mk ([]:Str) (none:Option Nat) (none:Option Nat))⟩⟩,
 some ⟨⟨.struct [(0,9),(1,188),(2,167)],3,32,[.p (.str []),.p .nilfn,.p .nilfn]⟩,some 4,(.st 4),[.v .str ([]:Str),.nilfn,.nilfn],some ⟨(.st 4),(Zog.mk ([]:Str) (none:Option Nat) (none:Option Nat))⟩⟩,
 some ⟨⟨.map 3 190,1,8,[.p (.map (.int .i64) [])]⟩,none,(.map (.int .i64) (.st 4)),[.v (.map (.int .i64) (.st 4)) []],some ⟨(.map (.int .i64) (.st 4)),[]⟩⟩,
 none,
 none,
 none,
 none,
 none,
 none,
 none,
 none,
 none,
 none,
 none,
 none,
 none,
 none,
 none,
 none,
 none,
 none,
 none,
 none,
 some ⟨⟨.func,1,8,[.p .nilfn]⟩,none,.fnc,[.nilfn],some ⟨.fnc,(none:Option Nat)⟩⟩,
 some ⟨⟨.func,1,8,[.p .nilfn]⟩,none,.fnc,[.nilfn],some ⟨.fnc,(none:Option Nat)⟩⟩,
 none,
 none,
 none,
 none,
 none,
 none,
 none,
 none,
 none,
 none,
 none,
 none,
 none,
 none,
 none,
 none,
 some ⟨⟨.sl 49,1,24,[.nils 2]⟩,none,(.sl (.st 2)),[.nils (.st 2)],some ⟨(.sl (.st 2)),[]⟩⟩,
 none,
 none,
 none,
 none,
 none,
 none,
 none,
 none,
 none,
 none,
 none,
 none,
 none,
 none,
 none,
 none,
 none,
 none,
 none,
 none,
 none,
 none,
 none,
 none,
 none,
 none,
 none,
 none,
 none,
 none,
 none,
 none,
 none,
 none,
 none,
 none,
 none,
 none,
 none,
 none,
 none,
 none,
 none,
 none,
 none,
 none,
 none,
 none,
 none,
 none,
 none,
 none,
 none,
 none,
 none,
 none,
 none,
 none,
 none,
 none,
 none,
 none,
 none,
 none,
 none,
 none,
 none,
 none,
 none,
 none,
 none,
 none,
 none,
 none,
 none,
 none,
 none,
 none,
 none,
 none,
 none,
 none,
 none,
 none,
 none,
 none,
 none,
 none,
 none,
 none,
 none,
 none,
 none,
 none,
 none,
 none,
 none,
 none,
 none,
 none,
 none,
 none,
 none,
 none,
 none,
 none,
 none,
 none,
 none,
 none,
 none,
 none,
 none,
 none,
 none,
 none,
 none,
 none,
 none,
 none,
 none,
 none,
 none,
 none,
 none,
 none,
 none,
 none,
 none,
 none,
 none,
 none,
 none,
 none]
noncomputable def X0:ZG U:=⟨Tryz.prog,tt0,[(0,Zv1)],0⟩
theorem tok0:TOk X0:=tok_of (by kernel_rfl) (by kernel_rfl) (by kernel_rfl)
theorem eok0:Zk X0.E:=⟨by kernel_rfl⟩
theorem mixed:X0.prog.follows .mixedOrders=true:=by kernel_rfl
theorem G0:Gnd X0:=⟨uok,tok0,eok0,mixed⟩
noncomputable def ZrY:Zj9 U:=⟨(List Str),[9],[.p],[none],[.p .str],fun v=>Zoo v.1,fun q=>⟨[.p ⟨(.sl .str),q⟩],[]⟩⟩
noncomputable def ZuO:Zj9 U:=⟨(List Str),[24],[.p],[some 1],[.p (.st 1)],fun v=>ZqG v.1,fun q=>⟨[.p ⟨(.sl .str),q⟩],[]⟩⟩
noncomputable def Zuc:Zj9 U:=⟨Str,[9,9],[.p,.p],[none,none],[.p .str,.p .str],fun v=>ZuQ v.1 v.2.1,fun q=>⟨[.p ⟨.str,q⟩],[]⟩⟩
noncomputable def Zri:Zj9 U:=⟨Int,[9,5],[.p,.p],[none,none],[.p .str,.p (.int .u8)],fun v=>ZpR v.1 v.2.1,fun q=>⟨[.p ⟨(.int .i64),q⟩],[]⟩⟩
noncomputable def Zuh:Zj9 U:=⟨Str,[9,9],[.p,.p],[none,none],[.p .str,.p .str],fun v=>ZtB v.1 v.2.1,fun q=>⟨[.p ⟨.str,q⟩],[]⟩⟩
noncomputable def Zt7:Zj9 U:=⟨Str,[9,9],[.p,.p],[none,none],[.p .str,.p .str],fun v=>Zux v.1 v.2.1,fun q=>⟨[.p ⟨.str,q⟩],[]⟩⟩
end Go.Proofs
