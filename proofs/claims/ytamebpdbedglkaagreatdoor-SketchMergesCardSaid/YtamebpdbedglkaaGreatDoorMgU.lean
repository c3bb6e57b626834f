/- Printed by wip/tools/tgen.py: tables. -/
import Derived.Test.YtamebpdbedglkaaGreatDoorMgS
import Derived.Test.YtamebpdbedglkaaGreatDoorProg
import Derived.KernelRfl
set_option linter.unusedVariables false
set_option linter.unusedSimpArgs false
set_option linter.unusedSectionVars false
namespace Go.Proofs
open Go Eng
set_option maxRecDepth 100000
def ZwF (x:ZnE):List (Lf Zu9):=[⟨.bool,x.Null⟩,⟨.str,x.Text⟩]
def ZwA:List (Lf Zu9)→Option ZnE
 | [c0,c1]=>(c0.as .bool).bind fun a0=>(c1.as .str).bind fun a1=>some (ZnE.mk a0 a1)
 |_=>none
theorem ZxU (cs:List (Lf Zu9)) (x:ZnE) (h:ZwA cs=some x):ZwF x=cs:=by unfold ZwA at h;split at h;rotate_left;simp at h;obtain⟨a0,h0,h⟩:=bind_some h;obtain⟨a1,h1,h⟩:=bind_some h;simp only[Option.some.injEq]at h;subst h;rw[as_car h0,as_car h1];rfl
def Zw8 (x:ZnE):P:= .agg [.bool x.Null,.str x.Text]
def Zwn (x:ZnL):List (Lf Zu9):=[⟨.str,x.Name⟩,⟨(.sl (.st 0)),x.Cells⟩]
def Zwc:List (Lf Zu9)→Option ZnL
 | [c0,c1]=>(c0.as .str).bind fun a0=>(c1.as (.sl (.st 0))).bind fun a1=>some (ZnL.mk a0 a1)
 |_=>none
theorem Zxr (cs:List (Lf Zu9)) (x:ZnL) (h:Zwc cs=some x):Zwn x=cs:=by unfold Zwc at h;split at h;rotate_left;simp at h;obtain⟨a0,h0,h⟩:=bind_some h;obtain⟨a1,h1,h⟩:=bind_some h;simp only[Option.some.injEq]at h;subst h;rw[as_car h0,as_car h1];rfl
def ZxY (x:ZnL):P:= .agg [.str x.Name,.sl 2 (x.Cells.map Zw8)]
def ZwV (x:ZnI):List (Lf Zu9):=[⟨.bool,x.Neg⟩,⟨(.sl (.int .u32)),x.Words⟩]
def ZwO:List (Lf Zu9)→Option ZnI
 | [c0,c1]=>(c0.as .bool).bind fun a0=>(c1.as (.sl (.int .u32))).bind fun a1=>some (ZnI.mk a0 a1)
 |_=>none
theorem Zyb (cs:List (Lf Zu9)) (x:ZnI) (h:ZwO cs=some x):ZwV x=cs:=by unfold ZwO at h;split at h;rotate_left;simp at h;obtain⟨a0,h0,h⟩:=bind_some h;obtain⟨a1,h1,h⟩:=bind_some h;simp only[Option.some.injEq]at h;subst h;rw[as_car h0,as_car h1];rfl
def ZyQ (x:ZnI):P:= .agg [.bool x.Neg,.sl 1 (x.Words.map (fun x=> .int .u32 x))]
def ZvI (x:ZnG):List (Lf Zu9):=[⟨.bool,x.Num.Neg⟩,⟨(.sl (.int .u32)),x.Num.Words⟩,⟨.bool,x.Den.Neg⟩,⟨(.sl (.int .u32)),x.Den.Words⟩]
def Zvf:List (Lf Zu9)→Option ZnG
 | [c0,c1,c2,c3]=>(c0.as .bool).bind fun a0=>(c1.as (.sl (.int .u32))).bind fun a1=>(c2.as .bool).bind fun a2=>(c3.as (.sl (.int .u32))).bind fun a3=>some (ZnG.mk (ZnI.mk a0 a1) (ZnI.mk a2 a3))
 |_=>none
theorem Zw5 (cs:List (Lf Zu9)) (x:ZnG) (h:Zvf cs=some x):ZvI x=cs:=by unfold Zvf at h;split at h;rotate_left;simp at h;obtain⟨a0,h0,h⟩:=bind_some h;obtain⟨a1,h1,h⟩:=bind_some h;obtain⟨a2,h2,h⟩:=bind_some h;obtain⟨a3,h3,h⟩:=bind_some h;simp only[Option.some.injEq]at h;subst h;rw[as_car h0,as_car h1,as_car h2,as_car h3];rfl
def Zxx (x:ZnG):P:= .agg [.bool x.Num.Neg,.sl 1 (x.Num.Words.map (fun x=> .int .u32 x)),.bool x.Den.Neg,.sl 1 (x.Den.Words.map (fun x=> .int .u32 x))]
def Zu5 (x:ZnA):List (Lf Zu9):=[⟨.str,x.Key⟩,⟨(.int .u64),x.Hash⟩,⟨(.int .i64),x.Count⟩,⟨.bool,x.Sum.Num.Neg⟩,⟨(.sl (.int .u32)),x.Sum.Num.Words⟩,⟨.bool,x.Sum.Den.Neg⟩,⟨(.sl (.int .u32)),x.Sum.Den.Words⟩]
def Zux:List (Lf Zu9)→Option ZnA
 | [c0,c1,c2,c3,c4,c5,c6]=>(c0.as .str).bind fun a0=>(c1.as (.int .u64)).bind fun a1=>(c2.as (.int .i64)).bind fun a2=>(c3.as .bool).bind fun a3=>(c4.as (.sl (.int .u32))).bind fun a4=>(c5.as .bool).bind fun a5=>(c6.as (.sl (.int .u32))).bind fun a6=>some (ZnA.mk a0 a1 a2 (ZnG.mk (ZnI.mk a3 a4) (ZnI.mk a5 a6)))
 |_=>none
theorem Zwz (cs:List (Lf Zu9)) (x:ZnA) (h:Zux cs=some x):Zu5 x=cs:=by unfold Zux at h;split at h;rotate_left;simp at h;obtain⟨a0,h0,h⟩:=bind_some h;obtain⟨a1,h1,h⟩:=bind_some h;obtain⟨a2,h2,h⟩:=bind_some h;obtain⟨a3,h3,h⟩:=bind_some h;obtain⟨a4,h4,h⟩:=bind_some h;obtain⟨a5,h5,h⟩:=bind_some h;obtain⟨a6,h6,h⟩:=bind_some h;simp only[Option.some.injEq]at h;subst h;rw[as_car h0,as_car h1,as_car h2,as_car h3,as_car h4,as_car h5,as_car h6];rfl
def Zub (x:ZnA):P:= .agg [.str x.Key,.int .u64 x.Hash,.int .i64 x.Count,.bool x.Sum.Num.Neg,.sl 1 (x.Sum.Num.Words.map (fun x=> .int .u32 x)),.bool x.Sum.Den.Neg,.sl 1 (x.Sum.Den.Words.map (fun x=> .int .u32 x))]
def Zwm (x:ZnC):List (Lf Zu9):=[⟨(.int .i64),x.K⟩,⟨.bool,x.All⟩,⟨(.sl (.st 4)),x.Entries⟩]
def Zwb:List (Lf Zu9)→Option ZnC
 | [c0,c1,c2]=>(c0.as (.int .i64)).bind fun a0=>(c1.as .bool).bind fun a1=>(c2.as (.sl (.st 4))).bind fun a2=>some (ZnC.mk a0 a1 a2)
 |_=>none
theorem Zxq (cs:List (Lf Zu9)) (x:ZnC) (h:Zwb cs=some x):Zwm x=cs:=by unfold Zwb at h;split at h;rotate_left;simp at h;obtain⟨a0,h0,h⟩:=bind_some h;obtain⟨a1,h1,h⟩:=bind_some h;obtain⟨a2,h2,h⟩:=bind_some h;simp only[Option.some.injEq]at h;subst h;rw[as_car h0,as_car h1,as_car h2];rfl
def ZxX (x:ZnC):P:= .agg [.int .i64 x.K,.bool x.All,.sl 7 (x.Entries.map Zub)]
def Zwl (x:Zpb):List (Lf Zu9):=[⟨.str,x.word⟩,⟨.fnc,x.canonical⟩,⟨.fnc,x.value⟩]
def Zv9:List (Lf Zu9)→Option Zpb
 | [c0,c1,c2]=>(c0.as .str).bind fun a0=>(c1.as .fnc).bind fun a1=>(c2.as .fnc).bind fun a2=>some (Zpb.mk a0 a1 a2)
 |_=>none
theorem Zxp (cs:List (Lf Zu9)) (x:Zpb) (h:Zv9 cs=some x):Zwl x=cs:=by unfold Zv9 at h;split at h;rotate_left;simp at h;obtain⟨a0,h0,h⟩:=bind_some h;obtain⟨a1,h1,h⟩:=bind_some h;obtain⟨a2,h2,h⟩:=bind_some h;simp only[Option.some.injEq]at h;subst h;rw[as_car h0,as_car h1,as_car h2];rfl
def ZxW (x:Zpb):P:= .agg [.str x.word,ZjM x.canonical,ZjM x.value]
def Zuc (x:ZnF):List (Lf Zu9):=[⟨(.sl (.int .i64)),x.l⟩,⟨(.int .i64),x.at_⟩]
def Ztd:List (Lf Zu9)→Option ZnF
 | [c0,c1]=>(c0.as (.sl (.int .i64))).bind fun a0=>(c1.as (.int .i64)).bind fun a1=>some (ZnF.mk a0 a1)
 |_=>none
theorem Zwa (cs:List (Lf Zu9)) (x:ZnF) (h:Ztd cs=some x):Zuc x=cs:=by unfold Ztd at h;split at h;rotate_left;simp at h;obtain⟨a0,h0,h⟩:=bind_some h;obtain⟨a1,h1,h⟩:=bind_some h;simp only[Option.some.injEq]at h;subst h;rw[as_car h0,as_car h1];rfl
def Zwq (x:ZnF):P:= .agg [.sl 1 (x.l.map (fun x=> .int .i64 x)),.int .i64 x.at_]
def ZvH (x:ZsU):List (Lf Zu9):=[⟨(.int .i64),x.K⟩,⟨.bool,x.All⟩,⟨(.sl (.st 4)),x.Entries⟩]
def Zve:List (Lf Zu9)→Option ZsU
 | [c0,c1,c2]=>(c0.as (.int .i64)).bind fun a0=>(c1.as .bool).bind fun a1=>(c2.as (.sl (.st 4))).bind fun a2=>some (ZsU.mk a0 a1 a2)
 |_=>none
theorem Zw4 (cs:List (Lf Zu9)) (x:ZsU) (h:Zve cs=some x):ZvH x=cs:=by unfold Zve at h;split at h;rotate_left;simp at h;obtain⟨a0,h0,h⟩:=bind_some h;obtain⟨a1,h1,h⟩:=bind_some h;obtain⟨a2,h2,h⟩:=bind_some h;simp only[Option.some.injEq]at h;subst h;rw[as_car h0,as_car h1,as_car h2];rfl
def Zxw (x:ZsU):P:= .agg [.int .i64 x.K,.bool x.All,.sl 7 (x.Entries.map Zub)]
def ZD1:(n:Nat)→Zu9 n→List (Lf Zu9)
 |0,x=>ZwF x
 |1,x=>Zwn x
 |2,x=>ZwV x
 |3,x=>ZvI x
 |4,x=>Zu5 x
 |5,x=>Zwm x
 |6,x=>Zwl x
 |7,x=>Zuc x
 |8,x=>ZvH x
 |_+9,_=>[]
def ofU:(n:Nat)→List (Lf Zu9)→Option (Zu9 n)
 |0,cs=>ZwA cs
 |1,cs=>Zwc cs
 |2,cs=>ZwO cs
 |3,cs=>Zvf cs
 |4,cs=>Zux cs
 |5,cs=>Zwb cs
 |6,cs=>Zv9 cs
 |7,cs=>Ztd cs
 |8,cs=>Zve cs
 |_+9,cs=>match cs with | []=>some () |_=>none
def encU:(n:Nat)→Zu9 n→P
 |0,x=>Zw8 x
 |1,x=>ZxY x
 |2,x=>ZyQ x
 |3,x=>Zxx x
 |4,x=>Zub x
 |5,x=>ZxX x
 |6,x=>ZxW x
 |7,x=>Zwq x
 |8,x=>Zxw x
 |_+9,_=> .agg []
@[reducible] def U:Zc:=⟨Zu9,ZFc,ZD1,ofU,encU⟩
theorem uok:UOk U where
 of_cells:=fun n cs x h=>match n,x,h with
  |0,x,h=>ZxU cs x h
  |1,x,h=>Zxr cs x h
  |2,x,h=>Zyb cs x h
  |3,x,h=>Zw5 cs x h
  |4,x,h=>Zwz cs x h
  |5,x,h=>Zxq cs x h
  |6,x,h=>Zxp cs x h
  |7,x,h=>Zwa cs x h
  |8,x,h=>Zw4 cs x h
  |_+9,x,h=>by
   match cs,h with
   | [],h=>rfl
 enc_cells:=fun n x=>match n,x with
  |0,x=>rfl
  |1,x=>rfl
  |2,x=>rfl
  |3,x=>rfl
  |4,x=>rfl
  |5,x=>rfl
  |6,x=>rfl
  |7,x=>rfl
  |8,x=>rfl
  |_+9,x=>rfl
 len:=fun n x=>match n,x with
  |0,x=>rfl
  |1,x=>rfl
  |2,x=>rfl
  |3,x=>rfl
  |4,x=>rfl
  |5,x=>rfl
  |6,x=>rfl
  |7,x=>rfl
  |8,x=>rfl
  |_+9,x=>rfl
noncomputable def tt0:List (Option (TT U)):=[
 none,
 some ⟨⟨.func,1,8,[.p .nilfn]⟩,none,.fnc,[.nilfn],some ⟨.fnc,(none:Option Nat)⟩⟩,
 some ⟨⟨.int .i64,1,8,[.p (.int .i64 0)]⟩,none,(.int .i64),[.v (.int .i64) (0:Int)],some ⟨(.int .i64),(0:Int)⟩⟩,
 some ⟨⟨.int .i64,1,8,[.p (.int .i64 0)]⟩,none,(.int .i64),[.v (.int .i64) (0:Int)],some ⟨(.int .i64),(0:Int)⟩⟩,
 some ⟨⟨.bool,1,1,[.p (.bool false)]⟩,none,.bool,[.v .bool false],some ⟨.bool,false⟩⟩,
 some ⟨⟨.int .u8,1,1,[.p (.int .u8 0)]⟩,none,(.int .u8),[.v (.int .u8) (0:Int)],some ⟨(.int .u8),(0:Int)⟩⟩,
 none,
 none,
 none,
 some ⟨⟨.str,1,16,[.p (.str [])]⟩,none,.str,[.v .str ([]:Str)],some ⟨.str,([]:Str)⟩⟩,
 none,
 none,
 none,
 none,
 none,
 none,
 none,
 none,
 none,
 none,
 none,
 none,
 some ⟨⟨.sl 3,1,24,[.nils 1]⟩,none,(.sl (.int .i64)),[.nils (.int .i64)],some ⟨(.sl (.int .i64)),[]⟩⟩,
 none,
 none,
 some ⟨⟨.ptr 63,1,8,[.p .nilp]⟩,none,.bool,[.nilp],none⟩,
 none,
 none,
 some ⟨⟨.sl 41,1,24,[.nils 2]⟩,none,(.sl (.st 0)),[.nils (.st 0)],some ⟨(.sl (.st 0)),[]⟩⟩,
 some ⟨⟨.struct [(0,9),(1,28)],2,40,[.p (.str []),.nils 2]⟩,some 1,(.st 1),[.v .str ([]:Str),.nils (.st 0)],some ⟨(.st 1),(ZnL.mk ([]:Str) ([]:(List ZnE)))⟩⟩,
 some ⟨⟨.struct [(0,9),(1,28)],2,40,[.p (.str []),.nils 2]⟩,some 1,(.st 1),[.v .str ([]:Str),.nils (.st 0)],some ⟨(.st 1),(ZnL.mk ([]:Str) ([]:(List ZnE)))⟩⟩,
 none,
 some ⟨⟨.sl 53,1,24,[.nils 7]⟩,none,(.sl (.st 4)),[.nils (.st 4)],some ⟨(.sl (.st 4)),[]⟩⟩,
 some ⟨⟨.struct [(0,3),(1,4),(2,32)],3,40,[.p (.int .i64 0),.p (.bool false),.nils 7]⟩,some 5,(.st 5),[.v (.int .i64) (0:Int),.v .bool false,.nils (.st 4)],some ⟨(.st 5),(ZnC.mk 0 false ([]:(List ZnA)))⟩⟩,
 some ⟨⟨.struct [(0,3),(1,4),(2,32)],3,40,[.p (.int .i64 0),.p (.bool false),.nils 7]⟩,some 5,(.st 5),[.v (.int .i64) (0:Int),.v .bool false,.nils (.st 4)],some ⟨(.st 5),(ZnC.mk 0 false ([]:(List ZnA)))⟩⟩,
 some ⟨⟨.int .i64,1,8,[.p (.int .i64 0)]⟩,none,(.int .i64),[.v (.int .i64) (0:Int)],some ⟨(.int .i64),(0:Int)⟩⟩,
 none,
 none,
 none,
 none,
 some ⟨⟨.struct [(0,4),(1,9)],2,24,[.p (.bool false),.p (.str [])]⟩,some 0,(.st 0),[.v .bool false,.v .str ([]:Str)],some ⟨(.st 0),(ZnE.mk false ([]:Str))⟩⟩,
 some ⟨⟨.struct [(0,4),(1,9)],2,24,[.p (.bool false),.p (.str [])]⟩,some 0,(.st 0),[.v .bool false,.v .str ([]:Str)],some ⟨(.st 0),(ZnE.mk false ([]:Str))⟩⟩,
 some ⟨⟨.sl 75,1,24,[.nils 1]⟩,none,(.sl (.int .u32)),[.nils (.int .u32)],some ⟨(.sl (.int .u32)),[]⟩⟩,
 some ⟨⟨.struct [(0,4),(1,42)],2,32,[.p (.bool false),.nils 1]⟩,some 2,(.st 2),[.v .bool false,.nils (.int .u32)],some ⟨(.st 2),(ZnI.mk false ([]:(List Int)))⟩⟩,
 some ⟨⟨.struct [(0,4),(1,42)],2,32,[.p (.bool false),.nils 1]⟩,some 2,(.st 2),[.v .bool false,.nils (.int .u32)],some ⟨(.st 2),(ZnI.mk false ([]:(List Int)))⟩⟩,
 some ⟨⟨.struct [(0,44),(2,44)],4,64,[.p (.bool false),.nils 1,.p (.bool false),.nils 1]⟩,some 3,(.st 3),[.v .bool false,.nils (.int .u32),.v .bool false,.nils (.int .u32)],some ⟨(.st 3),(ZnG.mk (ZnI.mk false ([]:(List Int))) (ZnI.mk false ([]:(List Int))))⟩⟩,
 some ⟨⟨.struct [(0,44),(2,44)],4,64,[.p (.bool false),.nils 1,.p (.bool false),.nils 1]⟩,some 3,(.st 3),[.v .bool false,.nils (.int .u32),.v .bool false,.nils (.int .u32)],some ⟨(.st 3),(ZnG.mk (ZnI.mk false ([]:(List Int))) (ZnI.mk false ([]:(List Int))))⟩⟩,
 none,
 none,
 none,
 none,
 some ⟨⟨.int .u64,1,8,[.p (.int .u64 0)]⟩,none,(.int .u64),[.v (.int .u64) (0:Int)],some ⟨(.int .u64),(0:Int)⟩⟩,
 some ⟨⟨.struct [(0,9),(1,51),(2,3),(3,46)],7,96,[.p (.str []),.p (.int .u64 0),.p (.int .i64 0),.p (.bool false),.nils 1,.p (.bool false),.nils 1]⟩,some 4,(.st 4),[.v .str ([]:Str),.v (.int .u64) (0:Int),.v (.int .i64) (0:Int),.v .bool false,.nils (.int .u32),.v .bool false,.nils (.int .u32)],some ⟨(.st 4),(ZnA.mk ([]:Str) 0 0 (ZnG.mk (ZnI.mk false ([]:(List Int))) (ZnI.mk false ([]:(List Int)))))⟩⟩,
 some ⟨⟨.struct [(0,9),(1,51),(2,3),(3,46)],7,96,[.p (.str []),.p (.int .u64 0),.p (.int .i64 0),.p (.bool false),.nils 1,.p (.bool false),.nils 1]⟩,some 4,(.st 4),[.v .str ([]:Str),.v (.int .u64) (0:Int),.v (.int .i64) (0:Int),.v .bool false,.nils (.int .u32),.v .bool false,.nils (.int .u32)],some ⟨(.st 4),(ZnA.mk ([]:Str) 0 0 (ZnG.mk (ZnI.mk false ([]:(List Int))) (ZnI.mk false ([]:(List Int)))))⟩⟩,
 none,
 none,
 none,
 none,
 none,
 none,
 none,
 none,
 some ⟨⟨.struct [(0,22),(1,3)],2,32,[.nils 1,.p (.int .i64 0)]⟩,some 7,(.st 7),[.nils (.int .i64),.v (.int .i64) (0:Int)],some ⟨(.st 7),(ZnF.mk ([]:(List Int)) 0)⟩⟩,
 some ⟨⟨.struct [(0,22),(1,3)],2,32,[.nils 1,.p (.int .i64 0)]⟩,some 7,(.st 7),[.nils (.int .i64),.v (.int .i64) (0:Int)],some ⟨(.st 7),(ZnF.mk ([]:(List Int)) 0)⟩⟩,
 none,
 none,
 none,
 none,
 some ⟨⟨.func,1,8,[.p .nilfn]⟩,none,.fnc,[.nilfn],some ⟨.fnc,(none:Option Nat)⟩⟩,
 none,
 none,
 none,
 none,
 none,
 none,
 some ⟨⟨.int .u32,1,4,[.p (.int .u32 0)]⟩,none,(.int .u32),[.v (.int .u32) (0:Int)],some ⟨(.int .u32),(0:Int)⟩⟩,
 none,
 none,
 none,
 some ⟨⟨.struct [(0,3),(1,4),(2,32)],3,40,[.p (.int .i64 0),.p (.bool false),.nils 7]⟩,some 8,(.st 8),[.v (.int .i64) (0:Int),.v .bool false,.nils (.st 4)],some ⟨(.st 8),(ZsU.mk 0 false ([]:(List ZnA)))⟩⟩,
 none,
 none,
 none,
 none,
 some ⟨⟨.sl 9,1,24,[.nils 1]⟩,none,(.sl .str),[.nils .str],some ⟨(.sl .str),[]⟩⟩,
 some ⟨⟨.map 9 3,1,8,[.p (.map (.str) [])]⟩,none,(.map .str (.int .i64)),[.v (.map .str (.int .i64)) []],some ⟨(.map .str (.int .i64)),[]⟩⟩,
 none,
 none,
 some ⟨⟨.sl 75,1,24,[.nils 1]⟩,none,(.sl (.int .u32)),[.nils (.int .u32)],some ⟨(.sl (.int .u32)),[]⟩⟩,
 none,
 none,
 none,
 none,
 none,
 none,
 none,
 none,
 none,
 none,
 some ⟨⟨.func,1,8,[.p .nilfn]⟩,none,.fnc,[.nilfn],some ⟨.fnc,(none:Option Nat)⟩⟩,
 none,
 none,
 none,
 none,
 none,
 none,
 none,
 none,
 none,
 some ⟨⟨.int .u64,1,8,[.p (.int .u64 0)]⟩,none,(.int .u64),[.v (.int .u64) (0:Int)],some ⟨(.int .u64),(0:Int)⟩⟩,
 none,
 some ⟨⟨.sl 44,1,24,[.nils 2]⟩,none,(.sl (.st 2)),[.nils (.st 2)],some ⟨(.sl (.st 2)),[]⟩⟩,
 none,
 none,
 none,
 none,
 none,
 none,
 none,
 none,
 none,
 none,
 none,
 none,
 some ⟨⟨.sl 5,1,24,[.nils 1]⟩,none,(.sl (.int .u8)),[.nils (.int .u8)],some ⟨(.sl (.int .u8)),[]⟩⟩,
 none,
 none,
 none,
 some ⟨⟨.func,1,8,[.p .nilfn]⟩,none,.fnc,[.nilfn],some ⟨.fnc,(none:Option Nat)⟩⟩,
 some ⟨⟨.func,1,8,[.p .nilfn]⟩,none,.fnc,[.nilfn],some ⟨.fnc,(none:Option Nat)⟩⟩,
 none,
 some ⟨⟨.int .i64,1,8,[.p (.int .i64 0)]⟩,none,(.int .i64),[.v (.int .i64) (0:Int)],some ⟨(.int .i64),(0:Int)⟩⟩,
 none,
 none,
 none,
 none,
 none,
 none,
 none,
 none,
 none,
 none,
 none,
 some ⟨⟨.func,1,8,[.p .nilfn]⟩,none,.fnc,[.nilfn],some ⟨.fnc,(none:Option Nat)⟩⟩,
 some ⟨⟨.struct [(0,9),(1,143),(2,99)],3,32,[.p (.str []),.p .nilfn,.p .nilfn]⟩,some 6,(.st 6),[.v .str ([]:Str),.nilfn,.nilfn],some ⟨(.st 6),(Zpb.mk ([]:Str) (none:Option Nat) (none:Option Nat))⟩⟩,
 some ⟨⟨.struct [(0,9),(1,143),(2,99)],3,32,[.p (.str []),.p .nilfn,.p .nilfn]⟩,some 6,(.st 6),[.v .str ([]:Str),.nilfn,.nilfn],some ⟨(.st 6),(Zpb.mk ([]:Str) (none:Option Nat) (none:Option Nat))⟩⟩,
 some ⟨⟨.map 3 145,1,8,[.p (.map (.int .i64) [])]⟩,none,(.map (.int .i64) (.st 6)),[.v (.map (.int .i64) (.st 6)) []],some ⟨(.map (.int .i64) (.st 6)),[]⟩⟩,
 none,
 none,
 none,
 none,
 none,
 none,
 none,
 none,
 none,
 none,
 some ⟨⟨.int .u64,1,8,[.p (.int .u64 0)]⟩,none,(.int .u64),[.v (.int .u64) (0:Int)],some ⟨(.int .u64),(0:Int)⟩⟩,
 none,
 none,
 none,
 some ⟨⟨.ptr 3,1,8,[.p .nilp]⟩,none,.bool,[.nilp],none⟩,
 none,
 none,
 none,
 none,
 none,
 none,
 none,
 none,
 none,
 none,
 some ⟨⟨.ptr 157,1,8,[.p .nilp]⟩,none,.bool,[.nilp],none⟩,
 none,
 none,
 none,
 none,
 none,
 none,
 none,
 none,
 none,
 none,
 none,
 none,
 none,
 none,
 none,
 none,
 none,
 none,
 none,
 none,
 none,
 none,
 none,
 none,
 none,
 none,
 none,
 none,
 none,
 none,
 none,
 none,
 none,
 none,
 none,
 none,
 none,
 none,
 none,
 none,
 none,
 none,
 none,
 none,
 none,
 none,
 none,
 none,
 none,
 none,
 none,
 none,
 none,
 none,
 none,
 none,
 none,
 none,
 none,
 none,
 none,
 none,
 none,
 none,
 none,
 none,
 none,
 none,
 none,
 none,
 none,
 none,
 none,
 none,
 none,
 none,
 none,
 none,
 none,
 none,
 none,
 none,
 none,
 none,
 none,
 none,
 none,
 none]
noncomputable def X0:ZG U:=⟨Tryz.prog,tt0,[(0,ZxL),(2,ZuO)],0⟩
theorem tok0:TOk X0:=tok_of (by kernel_rfl) (by kernel_rfl) (by kernel_rfl)
theorem eok0:Zk X0.E:=⟨by kernel_rfl⟩
theorem mixed:X0.prog.follows .mixedOrders=true:=by kernel_rfl
theorem G0:Gnd X0:=⟨uok,tok0,eok0,mixed⟩
noncomputable def ZvD:Zj9 U:=⟨Str,[9,9],[.p,.p],[none,none],[.p .str,.p .str],fun v=>Zwp v.1 v.2.1,fun q=>⟨[.p ⟨.str,q⟩],[]⟩⟩
noncomputable def Zsh:Zj9 U:=⟨Int,[9,5],[.p,.p],[none,none],[.p .str,.p (.int .u8)],fun v=>Zq4 v.1 v.2.1,fun q=>⟨[.p ⟨(.int .i64),q⟩],[]⟩⟩
noncomputable def ZvJ:Zj9 U:=⟨Str,[9,9],[.p,.p],[none,none],[.p .str,.p .str],fun v=>ZuS v.1 v.2.1,fun q=>⟨[.p ⟨.str,q⟩],[]⟩⟩
noncomputable def Zvw:Zj9 U:=⟨Str,[9,9],[.p,.p],[none,none],[.p .str,.p .str],fun v=>ZvZ v.1 v.2.1,fun q=>⟨[.p ⟨.str,q⟩],[]⟩⟩
noncomputable def Zsi:Zj9 U:=⟨Int,[9,9],[.p,.p],[none,none],[.p .str,.p .str],fun v=>ZpJ v.1 v.2.1,fun q=>⟨[.p ⟨(.int .i64),q⟩],[]⟩⟩
noncomputable def ZvE:Zj9 U:=⟨Str,[3],[.p],[none],[.p (.int .i64)],fun v=>Ztz v.1,fun q=>⟨[.p ⟨.str,q⟩],[]⟩⟩
end Go.Proofs
