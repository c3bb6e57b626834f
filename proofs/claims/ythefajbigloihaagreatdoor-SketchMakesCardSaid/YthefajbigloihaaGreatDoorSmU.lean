/- Printed by wip/tools/tgen.py: tables. -/
import Derived.Test.YthefajbigloihaaGreatDoorSmS
import Derived.Test.YthefajbigloihaaGreatDoorProg
import Derived.KernelRfl
set_option linter.unusedVariables false
set_option linter.unusedSimpArgs false
set_option linter.unusedSectionVars false
namespace Go.Proofs
open Go Eng
set_option maxRecDepth 100000
def ZAM (x:G_api_Cell):List (Lf ZyW):=[⟨.bool,x.Null⟩,⟨.str,x.Text⟩]
def ZAG:List (Lf ZyW)→Option G_api_Cell
 | [c0,c1]=>(c0.as .bool).bind fun a0=>(c1.as .str).bind fun a1=>some (G_api_Cell.mk a0 a1)
 |_=>none
theorem ZBS (cs:List (Lf ZyW)) (x:G_api_Cell) (h:ZAG cs=some x):ZAM x=cs:=by unfold ZAG at h;split at h;rotate_left;simp at h;obtain⟨a0,h0,h⟩:=bind_some h;obtain⟨a1,h1,h⟩:=bind_some h;simp only[Option.some.injEq]at h;subst h;rw[as_car h0,as_car h1];rfl
def Zyx (x:G_api_Cell):P:= .agg [.bool x.Null,.str x.Text]
def ZAo (x:G_api_Column):List (Lf ZyW):=[⟨.str,x.Name⟩,⟨(.sl (.st 0)),x.Cells⟩]
def Zz9:List (Lf ZyW)→Option G_api_Column
 | [c0,c1]=>(c0.as .str).bind fun a0=>(c1.as (.sl (.st 0))).bind fun a1=>some (G_api_Column.mk a0 a1)
 |_=>none
theorem ZBt (cs:List (Lf ZyW)) (x:G_api_Column) (h:Zz9 cs=some x):ZAo x=cs:=by unfold Zz9 at h;split at h;rotate_left;simp at h;obtain⟨a0,h0,h⟩:=bind_some h;obtain⟨a1,h1,h⟩:=bind_some h;simp only[Option.some.injEq]at h;subst h;rw[as_car h0,as_car h1];rfl
def Zzz (x:G_api_Column):P:= .agg [.str x.Name,.sl 2 (x.Cells.map Zyx)]
def ZA7 (x:ZnD):List (Lf ZyW):=[⟨.bool,x.Neg⟩,⟨(.sl (.int .u32)),x.Words⟩]
def ZAZ:List (Lf ZyW)→Option ZnD
 | [c0,c1]=>(c0.as .bool).bind fun a0=>(c1.as (.sl (.int .u32))).bind fun a1=>some (ZnD.mk a0 a1)
 |_=>none
theorem ZCb (cs:List (Lf ZyW)) (x:ZnD) (h:ZAZ cs=some x):ZA7 x=cs:=by unfold ZAZ at h;split at h;rotate_left;simp at h;obtain⟨a0,h0,h⟩:=bind_some h;obtain⟨a1,h1,h⟩:=bind_some h;simp only[Option.some.injEq]at h;subst h;rw[as_car h0,as_car h1];rfl
def ZC0 (x:ZnD):P:= .agg [.bool x.Neg,.sl 1 (x.Words.map (fun x=> .int .u32 x))]
def ZzF (x:ZnE):List (Lf ZyW):=[⟨.bool,x.Num.Neg⟩,⟨(.sl (.int .u32)),x.Num.Words⟩,⟨.bool,x.Den.Neg⟩,⟨(.sl (.int .u32)),x.Den.Words⟩]
def Zy2:List (Lf ZyW)→Option ZnE
 | [c0,c1,c2,c3]=>(c0.as .bool).bind fun a0=>(c1.as (.sl (.int .u32))).bind fun a1=>(c2.as .bool).bind fun a2=>(c3.as (.sl (.int .u32))).bind fun a3=>some (ZnE.mk (ZnD.mk a0 a1) (ZnD.mk a2 a3))
 |_=>none
theorem ZBf (cs:List (Lf ZyW)) (x:ZnE) (h:Zy2 cs=some x):ZzF x=cs:=by unfold Zy2 at h;split at h;rotate_left;simp at h;obtain⟨a0,h0,h⟩:=bind_some h;obtain⟨a1,h1,h⟩:=bind_some h;obtain⟨a2,h2,h⟩:=bind_some h;obtain⟨a3,h3,h⟩:=bind_some h;simp only[Option.some.injEq]at h;subst h;rw[as_car h0,as_car h1,as_car h2,as_car h3];rfl
def ZBw (x:ZnE):P:= .agg [.bool x.Num.Neg,.sl 1 (x.Num.Words.map (fun x=> .int .u32 x)),.bool x.Den.Neg,.sl 1 (x.Den.Words.map (fun x=> .int .u32 x))]
def ZyR (x:ZnA):List (Lf ZyW):=[⟨.str,x.Key⟩,⟨(.int .u64),x.Hash⟩,⟨(.int .i64),x.Count⟩,⟨.bool,x.Sum.Num.Neg⟩,⟨(.sl (.int .u32)),x.Sum.Num.Words⟩,⟨.bool,x.Sum.Den.Neg⟩,⟨(.sl (.int .u32)),x.Sum.Den.Words⟩]
def Zyl:List (Lf ZyW)→Option ZnA
 | [c0,c1,c2,c3,c4,c5,c6]=>(c0.as .str).bind fun a0=>(c1.as (.int .u64)).bind fun a1=>(c2.as (.int .i64)).bind fun a2=>(c3.as .bool).bind fun a3=>(c4.as (.sl (.int .u32))).bind fun a4=>(c5.as .bool).bind fun a5=>(c6.as (.sl (.int .u32))).bind fun a6=>some (ZnA.mk a0 a1 a2 (ZnE.mk (ZnD.mk a3 a4) (ZnD.mk a5 a6)))
 |_=>none
theorem ZAF (cs:List (Lf ZyW)) (x:ZnA) (h:Zyl cs=some x):ZyR x=cs:=by unfold Zyl at h;split at h;rotate_left;simp at h;obtain⟨a0,h0,h⟩:=bind_some h;obtain⟨a1,h1,h⟩:=bind_some h;obtain⟨a2,h2,h⟩:=bind_some h;obtain⟨a3,h3,h⟩:=bind_some h;obtain⟨a4,h4,h⟩:=bind_some h;obtain⟨a5,h5,h⟩:=bind_some h;obtain⟨a6,h6,h⟩:=bind_some h;simp only[Option.some.injEq]at h;subst h;rw[as_car h0,as_car h1,as_car h2,as_car h3,as_car h4,as_car h5,as_car h6];rfl
def Zzm (x:ZnA):P:= .agg [.str x.Key,.int .u64 x.Hash,.int .i64 x.Count,.bool x.Sum.Num.Neg,.sl 1 (x.Sum.Num.Words.map (fun x=> .int .u32 x)),.bool x.Sum.Den.Neg,.sl 1 (x.Sum.Den.Words.map (fun x=> .int .u32 x))]
def ZAn (x:ZnM):List (Lf ZyW):=[⟨(.int .i64),x.K⟩,⟨.bool,x.All⟩,⟨(.sl (.st 4)),x.Entries⟩]
def Zz8:List (Lf ZyW)→Option ZnM
 | [c0,c1,c2]=>(c0.as (.int .i64)).bind fun a0=>(c1.as .bool).bind fun a1=>(c2.as (.sl (.st 4))).bind fun a2=>some (ZnM.mk a0 a1 a2)
 |_=>none
theorem ZBs (cs:List (Lf ZyW)) (x:ZnM) (h:Zz8 cs=some x):ZAn x=cs:=by unfold Zz8 at h;split at h;rotate_left;simp at h;obtain⟨a0,h0,h⟩:=bind_some h;obtain⟨a1,h1,h⟩:=bind_some h;obtain⟨a2,h2,h⟩:=bind_some h;simp only[Option.some.injEq]at h;subst h;rw[as_car h0,as_car h1,as_car h2];rfl
def ZBV (x:ZnM):P:= .agg [.int .i64 x.K,.bool x.All,.sl 7 (x.Entries.map Zzm)]
def ZAm (x:ZpW):List (Lf ZyW):=[⟨.str,x.word⟩,⟨.fnc,x.canonical⟩,⟨.fnc,x.value⟩]
def Zz6:List (Lf ZyW)→Option ZpW
 | [c0,c1,c2]=>(c0.as .str).bind fun a0=>(c1.as .fnc).bind fun a1=>(c2.as .fnc).bind fun a2=>some (ZpW.mk a0 a1 a2)
 |_=>none
theorem ZBr (cs:List (Lf ZyW)) (x:ZpW) (h:Zz6 cs=some x):ZAm x=cs:=by unfold Zz6 at h;split at h;rotate_left;simp at h;obtain⟨a0,h0,h⟩:=bind_some h;obtain⟨a1,h1,h⟩:=bind_some h;obtain⟨a2,h2,h⟩:=bind_some h;simp only[Option.some.injEq]at h;subst h;rw[as_car h0,as_car h1,as_car h2];rfl
def ZBU (x:ZpW):P:= .agg [.str x.word,ZjM x.canonical,ZjM x.value]
def Zx3 (x:ZnI):List (Lf ZyW):=[⟨(.sl (.int .i64)),x.l⟩,⟨(.int .i64),x.at_⟩]
def ZwH:List (Lf ZyW)→Option ZnI
 | [c0,c1]=>(c0.as (.sl (.int .i64))).bind fun a0=>(c1.as (.int .i64)).bind fun a1=>some (ZnI.mk a0 a1)
 |_=>none
theorem Zz7 (cs:List (Lf ZyW)) (x:ZnI) (h:ZwH cs=some x):Zx3 x=cs:=by unfold ZwH at h;split at h;rotate_left;simp at h;obtain⟨a0,h0,h⟩:=bind_some h;obtain⟨a1,h1,h⟩:=bind_some h;simp only[Option.some.injEq]at h;subst h;rw[as_car h0,as_car h1];rfl
def ZAt (x:ZnI):P:= .agg [.sl 1 (x.l.map (fun x=> .int .i64 x)),.int .i64 x.at_]
def Zyy (x:ZnH):List (Lf ZyW):=[⟨.str,x.e0.Name⟩,⟨(.sl (.st 0)),x.e0.Cells⟩,⟨.str,x.e1.Name⟩,⟨(.sl (.st 0)),x.e1.Cells⟩]
def Zxh:List (Lf ZyW)→Option ZnH
 | [c0,c1,c2,c3]=>(c0.as .str).bind fun a0=>(c1.as (.sl (.st 0))).bind fun a1=>(c2.as .str).bind fun a2=>(c3.as (.sl (.st 0))).bind fun a3=>some (ZnH.mk (G_api_Column.mk a0 a1) (G_api_Column.mk a2 a3))
 |_=>none
theorem ZAs (cs:List (Lf ZyW)) (x:ZnH) (h:Zxh cs=some x):Zyy x=cs:=by unfold Zxh at h;split at h;rotate_left;simp at h;obtain⟨a0,h0,h⟩:=bind_some h;obtain⟨a1,h1,h⟩:=bind_some h;obtain⟨a2,h2,h⟩:=bind_some h;obtain⟨a3,h3,h⟩:=bind_some h;simp only[Option.some.injEq]at h;subst h;rw[as_car h0,as_car h1,as_car h2,as_car h3];rfl
def ZAK (x:ZnH):P:= .agg [.str x.e0.Name,.sl 2 (x.e0.Cells.map Zyx),.str x.e1.Name,.sl 2 (x.e1.Cells.map Zyx)]
def ZJo:(n:Nat)→ZyW n→List (Lf ZyW)
 |0,x=>ZAM x
 |1,x=>ZAo x
 |2,x=>ZA7 x
 |3,x=>ZzF x
 |4,x=>ZyR x
 |5,x=>ZAn x
 |6,x=>ZAm x
 |7,x=>Zx3 x
 |8,x=>Zyy x
 |_+9,_=>[]
def ofU:(n:Nat)→List (Lf ZyW)→Option (ZyW n)
 |0,cs=>ZAG cs
 |1,cs=>Zz9 cs
 |2,cs=>ZAZ cs
 |3,cs=>Zy2 cs
 |4,cs=>Zyl cs
 |5,cs=>Zz8 cs
 |6,cs=>Zz6 cs
 |7,cs=>ZwH cs
 |8,cs=>Zxh cs
 |_+9,cs=>match cs with | []=>some () |_=>none
def encU:(n:Nat)→ZyW n→P
 |0,x=>Zyx x
 |1,x=>Zzz x
 |2,x=>ZC0 x
 |3,x=>ZBw x
 |4,x=>Zzm x
 |5,x=>ZBV x
 |6,x=>ZBU x
 |7,x=>ZAt x
 |8,x=>ZAK x
 |_+9,_=> .agg []
@[reducible] def U:Zc:=⟨ZyW,ZKN,ZJo,ofU,encU⟩
theorem uok:UOk U where
 of_cells:=fun n cs x h=>match n,x,h with
  |0,x,h=>ZBS cs x h
  |1,x,h=>ZBt cs x h
  |2,x,h=>ZCb cs x h
  |3,x,h=>ZBf cs x h
  |4,x,h=>ZAF cs x h
  |5,x,h=>ZBs cs x h
  |6,x,h=>ZBr cs x h
  |7,x,h=>Zz7 cs x h
  |8,x,h=>ZAs cs x h
  |_+9,x,h=>by
   match cs,h with
   | [],h=>rfl
 enc_cells:=fun n x=>match n,x with
  |0,x=>rfl
  |1,x=>rfl
  |2,x=>rfl
  |3,x=>rfl
  |4,x=>rfl
  |5,x=>rfl
  |6,x=>rfl
  |7,x=>rfl
  |8,x=>rfl
  |_+9,x=>rfl
 len:=fun n x=>match n,x with
  |0,x=>rfl
  |1,x=>rfl
  |2,x=>rfl
  |3,x=>rfl
  |4,x=>rfl
  |5,x=>rfl
  |6,x=>rfl
  |7,x=>rfl
  |8,x=>rfl
  |_+9,x=>rfl
noncomputable def tt0:List (Option (TT U)):=[
 none,
 some ⟨⟨.func,1,8,[.p .nilfn]⟩,none,.fnc,[.nilfn],some ⟨.fnc,(none:Option Nat)⟩⟩,
 some ⟨⟨.int .i64,1,8,[.p (.int .i64 0)]⟩,none,(.int .i64),[.v (.int .i64) (0:Int)],some ⟨(.int .i64),(0:Int)⟩⟩,
 some ⟨⟨.int .i64,1,8,[.p (.int .i64 0)]⟩,none,(.int .i64),[.v (.int .i64) (0:Int)],some ⟨(.int .i64),(0:Int)⟩⟩,
 some ⟨⟨.bool,1,1,[.p (.bool false)]⟩,none,.bool,[.v .bool false],some ⟨.bool,false⟩⟩,
 some ⟨⟨.int .u8,1,1,[.p (.int .u8 0)]⟩,none,(.int .u8),[.v (.int .u8) (0:Int)],some ⟨(.int .u8),(0:Int)⟩⟩,
 none,
 none,
 none,
 some ⟨⟨.str,1,16,[.p (.str [])]⟩,none,.str,[.v .str ([]:Str)],some ⟨.str,([]:Str)⟩⟩,
 none,
 none,
 none,
 none,
 none,
 none,
 none,
 none,
 none,
 none,
 none,
 none,
 some ⟨⟨.sl 72,1,24,[.nils 2]⟩,none,(.sl (.st 0)),[.nils (.st 0)],some ⟨(.sl (.st 0)),[]⟩⟩,
 some ⟨⟨.struct [(0,9),(1,22)],2,40,[.p (.str []),.nils 2]⟩,some 1,(.st 1),[.v .str ([]:Str),.nils (.st 0)],some ⟨(.st 1),(G_api_Column.mk ([]:Str) ([]:(List G_api_Cell)))⟩⟩,
 some ⟨⟨.struct [(0,9),(1,22)],2,40,[.p (.str []),.nils 2]⟩,some 1,(.st 1),[.v .str ([]:Str),.nils (.st 0)],some ⟨(.st 1),(G_api_Column.mk ([]:Str) ([]:(List G_api_Cell)))⟩⟩,
 some ⟨⟨.sl 3,1,24,[.nils 1]⟩,none,(.sl (.int .i64)),[.nils (.int .i64)],some ⟨(.sl (.int .i64)),[]⟩⟩,
 none,
 none,
 some ⟨⟨.ptr 94,1,8,[.p .nilp]⟩,none,.bool,[.nilp],none⟩,
 none,
 none,
 none,
 some ⟨⟨.arr 2 24,4,80,[.p (.str []),.nils 2,.p (.str []),.nils 2]⟩,some 8,(.st 8),[.v .str ([]:Str),.nils (.st 0),.v .str ([]:Str),.nils (.st 0)],some ⟨(.st 8),(ZnH.mk (G_api_Column.mk ([]:Str) ([]:(List G_api_Cell))) (G_api_Column.mk ([]:Str) ([]:(List G_api_Cell))))⟩⟩,
 some ⟨⟨.sl 32,1,24,[.nils 4]⟩,none,(.sl (.st 8)),[.nils (.st 8)],some ⟨(.sl (.st 8)),[]⟩⟩,
 none,
 some ⟨⟨.sl 92,1,24,[.nils 7]⟩,none,(.sl (.st 4)),[.nils (.st 4)],some ⟨(.sl (.st 4)),[]⟩⟩,
 some ⟨⟨.struct [(0,3),(1,4),(2,35)],3,40,[.p (.int .i64 0),.p (.bool false),.nils 7]⟩,some 5,(.st 5),[.v (.int .i64) (0:Int),.v .bool false,.nils (.st 4)],some ⟨(.st 5),(ZnM.mk 0 false ([]:(List ZnA)))⟩⟩,
 some ⟨⟨.struct [(0,3),(1,4),(2,35)],3,40,[.p (.int .i64 0),.p (.bool false),.nils 7]⟩,some 5,(.st 5),[.v (.int .i64) (0:Int),.v .bool false,.nils (.st 4)],some ⟨(.st 5),(ZnM.mk 0 false ([]:(List ZnA)))⟩⟩,
 some ⟨⟨.int .i64,1,8,[.p (.int .i64 0)]⟩,none,(.int .i64),[.v (.int .i64) (0:Int)],some ⟨(.int .i64),(0:Int)⟩⟩,
 none,
 none,
 none,
 some ⟨⟨.int .u64,1,8,[.p (.int .u64 0)]⟩,none,(.int .u64),[.v (.int .u64) (0:Int)],some ⟨(.int .u64),(0:Int)⟩⟩,
 none,
 none,
 none,
 none,
 some ⟨⟨.sl 144,1,24,[.nils 1]⟩,none,(.sl (.int .u32)),[.nils (.int .u32)],some ⟨(.sl (.int .u32)),[]⟩⟩,
 some ⟨⟨.struct [(0,4),(1,47)],2,32,[.p (.bool false),.nils 1]⟩,some 2,(.st 2),[.v .bool false,.nils (.int .u32)],some ⟨(.st 2),(ZnD.mk false ([]:(List Int)))⟩⟩,
 some ⟨⟨.struct [(0,4),(1,47)],2,32,[.p (.bool false),.nils 1]⟩,some 2,(.st 2),[.v .bool false,.nils (.int .u32)],some ⟨(.st 2),(ZnD.mk false ([]:(List Int)))⟩⟩,
 some ⟨⟨.struct [(0,49),(2,49)],4,64,[.p (.bool false),.nils 1,.p (.bool false),.nils 1]⟩,some 3,(.st 3),[.v .bool false,.nils (.int .u32),.v .bool false,.nils (.int .u32)],some ⟨(.st 3),(ZnE.mk (ZnD.mk false ([]:(List Int))) (ZnD.mk false ([]:(List Int))))⟩⟩,
 some ⟨⟨.struct [(0,49),(2,49)],4,64,[.p (.bool false),.nils 1,.p (.bool false),.nils 1]⟩,some 3,(.st 3),[.v .bool false,.nils (.int .u32),.v .bool false,.nils (.int .u32)],some ⟨(.st 3),(ZnE.mk (ZnD.mk false ([]:(List Int))) (ZnD.mk false ([]:(List Int))))⟩⟩,
 none,
 none,
 none,
 none,
 none,
 none,
 none,
 none,
 none,
 none,
 some ⟨⟨.sl 9,1,24,[.nils 1]⟩,none,(.sl .str),[.nils .str],some ⟨(.sl .str),[]⟩⟩,
 none,
 none,
 none,
 none,
 none,
 none,
 none,
 none,
 some ⟨⟨.struct [(0,4),(1,9)],2,24,[.p (.bool false),.p (.str [])]⟩,some 0,(.st 0),[.v .bool false,.v .str ([]:Str)],some ⟨(.st 0),(G_api_Cell.mk false ([]:Str))⟩⟩,
 some ⟨⟨.struct [(0,4),(1,9)],2,24,[.p (.bool false),.p (.str [])]⟩,some 0,(.st 0),[.v .bool false,.v .str ([]:Str)],some ⟨(.st 0),(G_api_Cell.mk false ([]:Str))⟩⟩,
 none,
 none,
 none,
 none,
 none,
 none,
 none,
 none,
 none,
 none,
 none,
 none,
 none,
 none,
 none,
 none,
 none,
 none,
 some ⟨⟨.struct [(0,9),(1,42),(2,3),(3,51)],7,96,[.p (.str []),.p (.int .u64 0),.p (.int .i64 0),.p (.bool false),.nils 1,.p (.bool false),.nils 1]⟩,some 4,(.st 4),[.v .str ([]:Str),.v (.int .u64) (0:Int),.v (.int .i64) (0:Int),.v .bool false,.nils (.int .u32),.v .bool false,.nils (.int .u32)],some ⟨(.st 4),(ZnA.mk ([]:Str) 0 0 (ZnE.mk (ZnD.mk false ([]:(List Int))) (ZnD.mk false ([]:(List Int)))))⟩⟩,
 some ⟨⟨.struct [(0,9),(1,42),(2,3),(3,51)],7,96,[.p (.str []),.p (.int .u64 0),.p (.int .i64 0),.p (.bool false),.nils 1,.p (.bool false),.nils 1]⟩,some 4,(.st 4),[.v .str ([]:Str),.v (.int .u64) (0:Int),.v (.int .i64) (0:Int),.v .bool false,.nils (.int .u32),.v .bool false,.nils (.int .u32)],some ⟨(.st 4),(ZnA.mk ([]:Str) 0 0 (ZnE.mk (ZnD.mk false ([]:(List Int))) (ZnD.mk false ([]:(List Int)))))⟩⟩,
 some ⟨⟨.struct [(0,25),(1,3)],2,32,[.nils 1,.p (.int .i64 0)]⟩,some 7,(.st 7),[.nils (.int .i64),.v (.int .i64) (0:Int)],some ⟨(.st 7),(ZnI.mk ([]:(List Int)) 0)⟩⟩,
 some ⟨⟨.struct [(0,25),(1,3)],2,32,[.nils 1,.p (.int .i64 0)]⟩,some 7,(.st 7),[.nils (.int .i64),.v (.int .i64) (0:Int)],some ⟨(.st 7),(ZnI.mk ([]:(List Int)) 0)⟩⟩,
 none,
 none,
 none,
 none,
 none,
 none,
 none,
 none,
 none,
 some ⟨⟨.sl 5,1,24,[.nils 1]⟩,none,(.sl (.int .u8)),[.nils (.int .u8)],some ⟨(.sl (.int .u8)),[]⟩⟩,
 none,
 none,
 none,
 none,
 none,
 none,
 none,
 none,
 none,
 none,
 none,
 none,
 none,
 none,
 none,
 none,
 none,
 none,
 none,
 none,
 none,
 none,
 none,
 none,
 none,
 none,
 none,
 none,
 some ⟨⟨.func,1,8,[.p .nilfn]⟩,none,.fnc,[.nilfn],some ⟨.fnc,(none:Option Nat)⟩⟩,
 some ⟨⟨.map 9 3,1,8,[.p (.map (.str) [])]⟩,none,(.map .str (.int .i64)),[.v (.map .str (.int .i64)) []],some ⟨(.map .str (.int .i64)),[]⟩⟩,
 none,
 none,
 none,
 none,
 none,
 none,
 none,
 none,
 some ⟨⟨.int .u64,1,8,[.p (.int .u64 0)]⟩,none,(.int .u64),[.v (.int .u64) (0:Int)],some ⟨(.int .u64),(0:Int)⟩⟩,
 some ⟨⟨.int .u32,1,4,[.p (.int .u32 0)]⟩,none,(.int .u32),[.v (.int .u32) (0:Int)],some ⟨(.int .u32),(0:Int)⟩⟩,
 none,
 none,
 none,
 none,
 none,
 none,
 none,
 none,
 none,
 none,
 none,
 none,
 none,
 none,
 none,
 none,
 none,
 none,
 none,
 none,
 none,
 none,
 some ⟨⟨.func,1,8,[.p .nilfn]⟩,none,.fnc,[.nilfn],some ⟨.fnc,(none:Option Nat)⟩⟩,
 none,
 none,
 none,
 none,
 none,
 none,
 none,
 none,
 none,
 none,
 none,
 some ⟨⟨.sl 144,1,24,[.nils 1]⟩,none,(.sl (.int .u32)),[.nils (.int .u32)],some ⟨(.sl (.int .u32)),[]⟩⟩,
 none,
 none,
 none,
 none,
 none,
 none,
 none,
 none,
 some ⟨⟨.func,1,8,[.p .nilfn]⟩,none,.fnc,[.nilfn],some ⟨.fnc,(none:Option Nat)⟩⟩,
 some ⟨⟨.struct [(0,9),(1,188),(2,167)],3,32,[.p (.str []),.p .nilfn,.p .nilfn]⟩,some 6,(.st 6),[.v .str ([]:Str),.nilfn,.nilfn],some ⟨(.st 6),(ZpW.mk ([]:Str) (none:Option Nat) (none:Option Nat))⟩⟩,
 some ⟨⟨.struct [(0,9),(1,188),(2,167)],3,32,[.p (.str []),.p .nilfn,.p .nilfn]⟩,some 6,(.st 6),[.v .str ([]:Str),.nilfn,.nilfn],some ⟨(.st 6),(ZpW.mk ([]:Str) (none:Option Nat) (none:Option Nat))⟩⟩,
 some ⟨⟨.map 3 190,1,8,[.p (.map (.int .i64) [])]⟩,none,(.map (.int .i64) (.st 6)),[.v (.map (.int .i64) (.st 6)) []],some ⟨(.map (.int .i64) (.st 6)),[]⟩⟩,
 none,
 none,
 some ⟨⟨.int .i64,1,8,[.p (.int .i64 0)]⟩,none,(.int .i64),[.v (.int .i64) (0:Int)],some ⟨(.int .i64),(0:Int)⟩⟩,
 none,
 none,
 none,
 none,
 none,
 none,
 none,
 none,
 none,
 none,
 none,
 none,
 none,
 none,
 none,
 none,
 none,
 some ⟨⟨.func,1,8,[.p .nilfn]⟩,none,.fnc,[.nilfn],some ⟨.fnc,(none:Option Nat)⟩⟩,
 some ⟨⟨.func,1,8,[.p .nilfn]⟩,none,.fnc,[.nilfn],some ⟨.fnc,(none:Option Nat)⟩⟩,
 none,
 none,
 none,
 none,
 none,
 none,
 none,
 none,
 none,
 none,
 none,
 none,
 none,
 none,
 none,
 none,
 some ⟨⟨.sl 49,1,24,[.nils 2]⟩,none,(.sl (.st 2)),[.nils (.st 2)],some ⟨(.sl (.st 2)),[]⟩⟩,
 none,
 none,
 none,
 none,
 none,
 none,
 none,
 none,
 none,
 none,
 none,
 none,
 none,
 none,
 some ⟨⟨.int .u64,1,8,[.p (.int .u64 0)]⟩,none,(.int .u64),[.v (.int .u64) (0:Int)],some ⟨(.int .u64),(0:Int)⟩⟩,
 none,
 none,
 none,
 some ⟨⟨.ptr 3,1,8,[.p .nilp]⟩,none,.bool,[.nilp],none⟩,
 none,
 none,
 none,
 none,
 none,
 none,
 none,
 none,
 none,
 none,
 none,
 none,
 none,
 none,
 none,
 none,
 none,
 none,
 none,
 none,
 none,
 none,
 none,
 none,
 none,
 none,
 none,
 none,
 none,
 none,
 none,
 none,
 none,
 none,
 none,
 none,
 none,
 none,
 none,
 none,
 none,
 none,
 none,
 none,
 none,
 none,
 none,
 some ⟨⟨.ptr 245,1,8,[.p .nilp]⟩,none,.bool,[.nilp],none⟩,
 none,
 none,
 none,
 none,
 none,
 none,
 none,
 none,
 none,
 none,
 none,
 none,
 none,
 none,
 none,
 none,
 none,
 none,
 none,
 none,
 none,
 none,
 none,
 none,
 none,
 none,
 none,
 none,
 none,
 none,
 none,
 none,
 none,
 none,
 none,
 none,
 none,
 none,
 none,
 none,
 none,
 none,
 none,
 none,
 none,
 none,
 none,
 none,
 none,
 none,
 none,
 none,
 none,
 none,
 none,
 none,
 none,
 none,
 none,
 none,
 none,
 none,
 none,
 none,
 none,
 none,
 none]
noncomputable def X0:ZG U:=⟨Tryz.prog,tt0,[(0,ZBJ),(4,ZyF)],0⟩
theorem tok0:TOk X0:=tok_of (by kernel_rfl) (by kernel_rfl) (by kernel_rfl)
theorem eok0:Zk X0.E:=⟨by kernel_rfl⟩
theorem mixed:X0.prog.follows .mixedOrders=true:=by kernel_rfl
theorem G0:Gnd X0:=⟨uok,tok0,eok0,mixed⟩
noncomputable def ZzA:Zj9 U:=⟨Str,[9,9],[.p,.p],[none,none],[.p .str,.p .str],fun v=>Zyt v.1 v.2.1,fun q=>⟨[.p ⟨.str,q⟩],[]⟩⟩
noncomputable def Zvq:Zj9 U:=⟨Int,[9,5],[.p,.p],[none,none],[.p .str,.p (.int .u8)],fun v=>ZqW v.1 v.2.1,fun q=>⟨[.p ⟨(.int .i64),q⟩],[]⟩⟩
noncomputable def ZzG:Zj9 U:=⟨Str,[9,9],[.p,.p],[none,none],[.p .str,.p .str],fun v=>Zxx v.1 v.2.1,fun q=>⟨[.p ⟨.str,q⟩],[]⟩⟩
noncomputable def Zzo:Zj9 U:=⟨Str,[9,9],[.p,.p],[none,none],[.p .str,.p .str],fun v=>ZyB v.1 v.2.1,fun q=>⟨[.p ⟨.str,q⟩],[]⟩⟩
noncomputable def Zvr:Zj9 U:=⟨Int,[9,9],[.p,.p],[none,none],[.p .str,.p .str],fun v=>ZqY v.1 v.2.1,fun q=>⟨[.p ⟨(.int .i64),q⟩],[]⟩⟩
noncomputable def ZzB:Zj9 U:=⟨Str,[3],[.p],[none],[.p (.int .i64)],fun v=>Zxc v.1,fun q=>⟨[.p ⟨.str,q⟩],[]⟩⟩
end Go.Proofs
