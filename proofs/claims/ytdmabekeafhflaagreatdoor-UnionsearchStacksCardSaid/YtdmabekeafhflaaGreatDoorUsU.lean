/- Printed by wip/tools/tgen.py: tables. -/
import Derived.Test.YtdmabekeafhflaaGreatDoorUsS
import Derived.Test.YtdmabekeafhflaaGreatDoorUsWX
import Derived.Test.YtdmabekeafhflaaGreatDoorProg
import Derived.KernelRfl
set_option linter.unusedVariables false
set_option linter.unusedSimpArgs false
set_option linter.unusedSectionVars false
namespace Go.Proofs
open Go Eng
set_option maxRecDepth 100000
def ZzN (x:ZoP):List (Lf Zvz):=[⟨.bool,x.Null⟩,⟨.str,x.Text⟩]
def ZzD:List (Lf Zvz)→Option ZoP
 | [c0,c1]=>(c0.as .bool).bind fun a0=>(c1.as .str).bind fun a1=>some (ZoP.mk a0 a1)
 |_=>none
theorem ZBg (cs:List (Lf Zvz)) (x:ZoP) (h:ZzD cs=some x):ZzN x=cs:=by
 unfold ZzD at h;split at h;rotate_left;simp at h
 repeat (replace h:=ZyO h;obtain⟨_,rfl,h⟩:=h)
 obtain rfl:=Option.some.inj h;rfl
def Zvy (x:ZoP):P:= .agg [.bool x.Null,.str x.Text]
def ZyX (x:ZoL):List (Lf Zvz):=[⟨.str,x.Name⟩,⟨(.sl (.st 0)),x.Cells⟩]
def ZyN:List (Lf Zvz)→Option ZoL
 | [c0,c1]=>(c0.as .str).bind fun a0=>(c1.as (.sl (.st 0))).bind fun a1=>some (ZoL.mk a0 a1)
 |_=>none
theorem ZAO (cs:List (Lf Zvz)) (x:ZoL) (h:ZyN cs=some x):ZyX x=cs:=by
 unfold ZyN at h;split at h;rotate_left;simp at h
 repeat (replace h:=ZyO h;obtain⟨_,rfl,h⟩:=h)
 obtain rfl:=Option.some.inj h;rfl
def Zw5 (x:ZoL):P:= .agg [.str x.Name,.sl 2 (x.Cells.map Zvy)]
def Zzs (x:ZoG):List (Lf Zvz):=[⟨(.int .i64),x.ID⟩,⟨.str,x.Name⟩,⟨(.sl (.st 1)),x.Columns⟩]
def Zza:List (Lf Zvz)→Option ZoG
 | [c0,c1,c2]=>(c0.as (.int .i64)).bind fun a0=>(c1.as .str).bind fun a1=>(c2.as (.sl (.st 1))).bind fun a2=>some (ZoG.mk a0 a1 a2)
 |_=>none
theorem ZA1 (cs:List (Lf Zvz)) (x:ZoG) (h:Zza cs=some x):Zzs x=cs:=by
 unfold Zza at h;split at h;rotate_left;simp at h
 repeat (replace h:=ZyO h;obtain⟨_,rfl,h⟩:=h)
 obtain rfl:=Option.some.inj h;rfl
def ZBI (x:ZoG):P:= .agg [.int .i64 x.ID,.str x.Name,.sl 2 (x.Columns.map Zw5)]
def ZAe (x:ZoM):List (Lf Zvz):=[⟨.bool,x.Neg⟩,⟨(.sl (.int .u32)),x.Words⟩]
def Zz6:List (Lf Zvz)→Option ZoM
 | [c0,c1]=>(c0.as .bool).bind fun a0=>(c1.as (.sl (.int .u32))).bind fun a1=>some (ZoM.mk a0 a1)
 |_=>none
theorem ZBA (cs:List (Lf Zvz)) (x:ZoM) (h:Zz6 cs=some x):ZAe x=cs:=by
 unfold Zz6 at h;split at h;rotate_left;simp at h
 repeat (replace h:=ZyO h;obtain⟨_,rfl,h⟩:=h)
 obtain rfl:=Option.some.inj h;rfl
def ZCI (x:ZoM):P:= .agg [.bool x.Neg,.sl 1 (x.Words.map (fun x=> .int .u32 x))]
def Zyl (x:ZoF):List (Lf Zvz):=[⟨.bool,x.Num.Neg⟩,⟨(.sl (.int .u32)),x.Num.Words⟩,⟨.bool,x.Den.Neg⟩,⟨(.sl (.int .u32)),x.Den.Words⟩]
def ZxT:List (Lf Zvz)→Option ZoF
 | [c0,c1,c2,c3]=>(c0.as .bool).bind fun a0=>(c1.as (.sl (.int .u32))).bind fun a1=>(c2.as .bool).bind fun a2=>(c3.as (.sl (.int .u32))).bind fun a3=>some (ZoF.mk (ZoM.mk a0 a1) (ZoM.mk a2 a3))
 |_=>none
theorem ZAn (cs:List (Lf Zvz)) (x:ZoF) (h:ZxT cs=some x):Zyl x=cs:=by
 unfold ZxT at h;split at h;rotate_left;simp at h
 repeat (replace h:=ZyO h;obtain⟨_,rfl,h⟩:=h)
 obtain rfl:=Option.some.inj h;rfl
def ZxK (x:ZoF):P:= .agg [.bool x.Num.Neg,.sl 1 (x.Num.Words.map (fun x=> .int .u32 x)),.bool x.Den.Neg,.sl 1 (x.Den.Words.map (fun x=> .int .u32 x))]
def ZuH (x:ZoH):List (Lf Zvz):=[⟨(.int .u8),x.lo⟩,⟨(.int .u8),x.hi⟩]
def ZsU:List (Lf Zvz)→Option ZoH
 | [c0,c1]=>(c0.as (.int .u8)).bind fun a0=>(c1.as (.int .u8)).bind fun a1=>some (ZoH.mk a0 a1)
 |_=>none
theorem ZxO (cs:List (Lf Zvz)) (x:ZoH) (h:ZsU cs=some x):ZuH x=cs:=by
 unfold ZsU at h;split at h;rotate_left;simp at h
 repeat (replace h:=ZyO h;obtain⟨_,rfl,h⟩:=h)
 obtain rfl:=Option.some.inj h;rfl
def Zx9 (x:ZoH):P:= .agg [.int .u8 x.lo,.int .u8 x.hi]
def ZyW (x:ZpE):List (Lf Zvz):=[⟨.str,x.word⟩,⟨.fnc,x.canonical⟩,⟨.fnc,x.value⟩]
def ZyL:List (Lf Zvz)→Option ZpE
 | [c0,c1,c2]=>(c0.as .str).bind fun a0=>(c1.as .fnc).bind fun a1=>(c2.as .fnc).bind fun a2=>some (ZpE.mk a0 a1 a2)
 |_=>none
theorem ZAN (cs:List (Lf Zvz)) (x:ZpE) (h:ZyL cs=some x):ZyW x=cs:=by
 unfold ZyL at h;split at h;rotate_left;simp at h
 repeat (replace h:=ZyO h;obtain⟨_,rfl,h⟩:=h)
 obtain rfl:=Option.some.inj h;rfl
def ZBh (x:ZpE):P:= .agg [.str x.word,Zkw x.canonical,Zkw x.value]
def ZzM (x:ZoR):List (Lf Zvz):=[⟨(.int .i64),x.e0⟩,⟨(.int .i64),x.e1⟩]
def ZzC:List (Lf Zvz)→Option ZoR
 | [c0,c1]=>(c0.as (.int .i64)).bind fun a0=>(c1.as (.int .i64)).bind fun a1=>some (ZoR.mk a0 a1)
 |_=>none
theorem ZBf (cs:List (Lf Zvz)) (x:ZoR) (h:ZzC cs=some x):ZzM x=cs:=by
 unfold ZzC at h;split at h;rotate_left;simp at h
 repeat (replace h:=ZyO h;obtain⟨_,rfl,h⟩:=h)
 obtain rfl:=Option.some.inj h;rfl
def ZAr (x:ZoR):P:= .agg [.int .i64 x.e0,.int .i64 x.e1]
def Zw2 (x:Zqp):List (Lf Zvz):=[⟨(.sl (.sl (.st 4))),x.w_⟩,⟨(.map (.st 7) (.st 4)),x.best⟩]
def ZvM:List (Lf Zvz)→Option Zqp
 | [c0,c1]=>(c0.as (.sl (.sl (.st 4)))).bind fun a0=>(c1.as (.map (.st 7) (.st 4))).bind fun a1=>some (Zqp.mk a0 a1)
 |_=>none
theorem Zy9 (cs:List (Lf Zvz)) (x:Zqp) (h:ZvM cs=some x):Zw2 x=cs:=by
 unfold ZvM at h;split at h;rotate_left;simp at h
 repeat (replace h:=ZyO h;obtain⟨_,rfl,h⟩:=h)
 obtain rfl:=Option.some.inj h;rfl
def ZzG (x:Zqp):P:= .agg [.sl 1 (x.w_.map (fun x=> .sl 4 (x.map ZxK))),.map (.arr 2 0) (x.best.map fun e=>(ZAr e.1,ZxK e.2))]
def Zwx (x:ZoJ):List (Lf Zvz):=[⟨(.sl (.int .i64)),x.l⟩,⟨(.int .i64),x.at_⟩]
def Zu3:List (Lf Zvz)→Option ZoJ
 | [c0,c1]=>(c0.as (.sl (.int .i64))).bind fun a0=>(c1.as (.int .i64)).bind fun a1=>some (ZoJ.mk a0 a1)
 |_=>none
theorem ZyM (cs:List (Lf Zvz)) (x:ZoJ) (h:Zu3 cs=some x):Zwx x=cs:=by
 unfold Zu3 at h;split at h;rotate_left;simp at h
 repeat (replace h:=ZyO h;obtain⟨_,rfl,h⟩:=h)
 obtain rfl:=Option.some.inj h;rfl
def Zzb (x:ZoJ):P:= .agg [.sl 1 (x.l.map (fun x=> .int .i64 x)),.int .i64 x.at_]
def Zul (x:ZtI):List (Lf Zvz):=x.1.map fun y=>⟨(.int .u8),y⟩
def ZxH (cs:List (Lf Zvz)):Option ZtI:=match Zj (fun c=>c.as (.int .u8)) cs with
 |some l=>if h:l.length=256 then some ⟨l,h⟩else none
 |none=>none
theorem Zz5 (cs:List (Lf Zvz)) (x:ZtI) (h:ZxH cs=some x):Zul x=cs:=by unfold ZxH at h;split at h;rotate_left;simp at h;rename_i l hl;split at h;rotate_left;simp at h;simp only[Option.some.injEq]at h;subst h;exact(Zm5 hl).symm
def Zw9 (x:ZtI):P:= .agg (x.1.map fun y=> .int .u8 y)
def Zsb (x:Zo8):List (Lf Zvz):=[⟨(.int .u8),x.e0.lo⟩,⟨(.int .u8),x.e0.hi⟩,⟨(.int .u8),x.e1.lo⟩,⟨(.int .u8),x.e1.hi⟩,⟨(.int .u8),x.e2.lo⟩,⟨(.int .u8),x.e2.hi⟩,⟨(.int .u8),x.e3.lo⟩,⟨(.int .u8),x.e3.hi⟩,⟨(.int .u8),x.e4.lo⟩,⟨(.int .u8),x.e4.hi⟩,⟨(.int .u8),x.e5.lo⟩,⟨(.int .u8),x.e5.hi⟩,⟨(.int .u8),x.e6.lo⟩,⟨(.int .u8),x.e6.hi⟩,⟨(.int .u8),x.e7.lo⟩,⟨(.int .u8),x.e7.hi⟩,⟨(.int .u8),x.e8.lo⟩,⟨(.int .u8),x.e8.hi⟩,⟨(.int .u8),x.e9.lo⟩,⟨(.int .u8),x.e9.hi⟩,⟨(.int .u8),x.e10.lo⟩,⟨(.int .u8),x.e10.hi⟩,⟨(.int .u8),x.e11.lo⟩,⟨(.int .u8),x.e11.hi⟩,⟨(.int .u8),x.e12.lo⟩,⟨(.int .u8),x.e12.hi⟩,⟨(.int .u8),x.e13.lo⟩,⟨(.int .u8),x.e13.hi⟩,⟨(.int .u8),x.e14.lo⟩,⟨(.int .u8),x.e14.hi⟩,⟨(.int .u8),x.e15.lo⟩,⟨(.int .u8),x.e15.hi⟩]
def ZqB:List (Lf Zvz)→Option Zo8
 | [c0,c1,c2,c3,c4,c5,c6,c7,c8,c9,c10,c11,c12,c13,c14,c15,c16,c17,c18,c19,c20,c21,c22,c23,c24,c25,c26,c27,c28,c29,c30,c31]=>(c0.as (.int .u8)).bind fun a0=>(c1.as (.int .u8)).bind fun a1=>(c2.as (.int .u8)).bind fun a2=>(c3.as (.int .u8)).bind fun a3=>(c4.as (.int .u8)).bind fun a4=>(c5.as (.int .u8)).bind fun a5=>(c6.as (.int .u8)).bind fun a6=>(c7.as (.int .u8)).bind fun a7=>(c8.as (.int .u8)).bind fun a8=>(c9.as (.int .u8)).bind fun a9=>(c10.as (.int .u8)).bind fun a10=>(c11.as (.int .u8)).bind fun a11=>(c12.as (.int .u8)).bind fun a12=>(c13.as (.int .u8)).bind fun a13=>(c14.as (.int .u8)).bind fun a14=>(c15.as (.int .u8)).bind fun a15=>(c16.as (.int .u8)).bind fun a16=>(c17.as (.int .u8)).bind fun a17=>(c18.as (.int .u8)).bind fun a18=>(c19.as (.int .u8)).bind fun a19=>(c20.as (.int .u8)).bind fun a20=>(c21.as (.int .u8)).bind fun a21=>(c22.as (.int .u8)).bind fun a22=>(c23.as (.int .u8)).bind fun a23=>(c24.as (.int .u8)).bind fun a24=>(c25.as (.int .u8)).bind fun a25=>(c26.as (.int .u8)).bind fun a26=>(c27.as (.int .u8)).bind fun a27=>(c28.as (.int .u8)).bind fun a28=>(c29.as (.int .u8)).bind fun a29=>(c30.as (.int .u8)).bind fun a30=>(c31.as (.int .u8)).bind fun a31=>some (Zo8.mk (ZoH.mk a0 a1) (ZoH.mk a2 a3) (ZoH.mk a4 a5) (ZoH.mk a6 a7) (ZoH.mk a8 a9) (ZoH.mk a10 a11) (ZoH.mk a12 a13) (ZoH.mk a14 a15) (ZoH.mk a16 a17) (ZoH.mk a18 a19) (ZoH.mk a20 a21) (ZoH.mk a22 a23) (ZoH.mk a24 a25) (ZoH.mk a26 a27) (ZoH.mk a28 a29) (ZoH.mk a30 a31))
 |_=>none
theorem Zv0 (cs:List (Lf Zvz)) (x:Zo8) (h:ZqB cs=some x):Zsb x=cs:=by
 unfold ZqB at h;split at h;rotate_left;simp at h
 repeat (replace h:=ZyO h;obtain⟨_,rfl,h⟩:=h)
 obtain rfl:=Option.some.inj h;rfl
def ZwH (x:Zo8):P:= .agg [.int .u8 x.e0.lo,.int .u8 x.e0.hi,.int .u8 x.e1.lo,.int .u8 x.e1.hi,.int .u8 x.e2.lo,.int .u8 x.e2.hi,.int .u8 x.e3.lo,.int .u8 x.e3.hi,.int .u8 x.e4.lo,.int .u8 x.e4.hi,.int .u8 x.e5.lo,.int .u8 x.e5.hi,.int .u8 x.e6.lo,.int .u8 x.e6.hi,.int .u8 x.e7.lo,.int .u8 x.e7.hi,.int .u8 x.e8.lo,.int .u8 x.e8.hi,.int .u8 x.e9.lo,.int .u8 x.e9.hi,.int .u8 x.e10.lo,.int .u8 x.e10.hi,.int .u8 x.e11.lo,.int .u8 x.e11.hi,.int .u8 x.e12.lo,.int .u8 x.e12.hi,.int .u8 x.e13.lo,.int .u8 x.e13.hi,.int .u8 x.e14.lo,.int .u8 x.e14.hi,.int .u8 x.e15.lo,.int .u8 x.e15.hi]
def ZKZ:(n:Nat)→Zvz n→List (Lf Zvz)
 |0,x=>ZzN x
 |1,x=>ZyX x
 |2,x=>Zzs x
 |3,x=>ZAe x
 |4,x=>Zyl x
 |5,x=>ZuH x
 |6,x=>ZyW x
 |7,x=>ZzM x
 |8,x=>Zw2 x
 |9,x=>Zwx x
 |10,x=>Zul x
 |11,x=>Zsb x
 |_+12,_=>[]
def ofU:(n:Nat)→List (Lf Zvz)→Option (Zvz n)
 |0,cs=>ZzD cs
 |1,cs=>ZyN cs
 |2,cs=>Zza cs
 |3,cs=>Zz6 cs
 |4,cs=>ZxT cs
 |5,cs=>ZsU cs
 |6,cs=>ZyL cs
 |7,cs=>ZzC cs
 |8,cs=>ZvM cs
 |9,cs=>Zu3 cs
 |10,cs=>ZxH cs
 |11,cs=>ZqB cs
 |_+12,cs=>match cs with | []=>some () |_=>none
def encU:(n:Nat)→Zvz n→P
 |0,x=>Zvy x
 |1,x=>Zw5 x
 |2,x=>ZBI x
 |3,x=>ZCI x
 |4,x=>ZxK x
 |5,x=>Zx9 x
 |6,x=>ZBh x
 |7,x=>ZAr x
 |8,x=>ZzG x
 |9,x=>Zzb x
 |10,x=>Zw9 x
 |11,x=>ZwH x
 |_+12,_=> .agg []
@[reducible] def U:Zd:=⟨Zvz,ZMH,ZKZ,ofU,encU⟩
theorem ZzS (x:ZtI):Zw9 x= .agg ((Zul x).map U.encL):=by unfold Zw9 Zul;rw[List.map_map];rfl
theorem uok:UOk U where
 of_cells:=fun n cs x h=>match n,x,h with
  |0,x,h=>ZBg cs x h
  |1,x,h=>ZAO cs x h
  |2,x,h=>ZA1 cs x h
  |3,x,h=>ZBA cs x h
  |4,x,h=>ZAn cs x h
  |5,x,h=>ZxO cs x h
  |6,x,h=>ZAN cs x h
  |7,x,h=>ZBf cs x h
  |8,x,h=>Zy9 cs x h
  |9,x,h=>ZyM cs x h
  |10,x,h=>Zz5 cs x h
  |11,x,h=>Zv0 cs x h
  |_+12,x,h=>by
   match cs,h with
   | [],h=>rfl
 enc_cells:=fun n x=>match n,x with
  |0,x=>rfl
  |1,x=>rfl
  |2,x=>rfl
  |3,x=>rfl
  |4,x=>rfl
  |5,x=>rfl
  |6,x=>rfl
  |7,x=>rfl
  |8,x=>rfl
  |9,x=>rfl
  |10,x=>ZzS x
  |11,x=>rfl
  |_+12,x=>rfl
 len:=fun n x=>match n,x with
  |0,x=>rfl
  |1,x=>rfl
  |2,x=>rfl
  |3,x=>rfl
  |4,x=>rfl
  |5,x=>rfl
  |6,x=>rfl
  |7,x=>rfl
  |8,x=>rfl
  |9,x=>rfl
  |10,x=>(List.length_map ..).trans x.2
  |11,x=>rfl
  |_+12,x=>rfl
noncomputable def tt0:List (Option (TT U)):=[
 none,
 some ⟨⟨.func,1,8,[.p .nilfn]⟩,none,.fnc,[.nilfn],some ⟨.fnc,(none:Option Nat)⟩⟩,
 some ⟨⟨.int .i64,1,8,[.p (.int .i64 0)]⟩,none,(.int .i64),[.v (.int .i64) (0:Int)],some ⟨(.int .i64),(0:Int)⟩⟩,
 some ⟨⟨.int .i64,1,8,[.p (.int .i64 0)]⟩,none,(.int .i64),[.v (.int .i64) (0:Int)],some ⟨(.int .i64),(0:Int)⟩⟩,
 some ⟨⟨.bool,1,1,[.p (.bool false)]⟩,none,.bool,[.v .bool false],some ⟨.bool,false⟩⟩,
 some ⟨⟨.int .u8,1,1,[.p (.int .u8 0)]⟩,none,(.int .u8),[.v (.int .u8) (0:Int)],some ⟨(.int .u8),(0:Int)⟩⟩,
 none,
 none,
 none,
 some ⟨⟨.str,1,16,[.p (.str [])]⟩,none,.str,[.v .str ([]:Str)],some ⟨.str,([]:Str)⟩⟩,
 none,
 none,
 some ⟨⟨.int .u64,1,8,[.p (.int .u64 0)]⟩,none,(.int .u64),[.v (.int .u64) (0:Int)],some ⟨(.int .u64),(0:Int)⟩⟩,
 none,
 none,
 none,
 none,
 none,
 none,
 none,
 none,
 none,
 some ⟨⟨.sl 3,1,24,[.nils 1]⟩,none,(.sl (.int .i64)),[.nils (.int .i64)],some ⟨(.sl (.int .i64)),[]⟩⟩,
 none,
 none,
 some ⟨⟨.ptr 68,1,8,[.p .nilp]⟩,none,.bool,[.nilp],none⟩,
 none,
 some ⟨⟨.sl 48,1,24,[.nils 2]⟩,none,(.sl (.st 1)),[.nils (.st 1)],some ⟨(.sl (.st 1)),[]⟩⟩,
 some ⟨⟨.struct [(0,3),(1,9),(2,27)],3,48,[.p (.int .i64 0),.p (.str []),.nils 2]⟩,some 2,(.st 2),[.v (.int .i64) (0:Int),.v .str ([]:Str),.nils (.st 1)],some ⟨(.st 2),(ZoG.mk 0 ([]:Str) ([]:(List ZoL)))⟩⟩,
 some ⟨⟨.struct [(0,3),(1,9),(2,27)],3,48,[.p (.int .i64 0),.p (.str []),.nils 2]⟩,some 2,(.st 2),[.v (.int .i64) (0:Int),.v .str ([]:Str),.nils (.st 1)],some ⟨(.st 2),(ZoG.mk 0 ([]:Str) ([]:(List ZoL)))⟩⟩,
 none,
 some ⟨⟨.sl 117,1,24,[.nils 1]⟩,none,(.sl (.int .u32)),[.nils (.int .u32)],some ⟨(.sl (.int .u32)),[]⟩⟩,
 some ⟨⟨.struct [(0,4),(1,31)],2,32,[.p (.bool false),.nils 1]⟩,some 3,(.st 3),[.v .bool false,.nils (.int .u32)],some ⟨(.st 3),(ZoM.mk false ([]:(List Int)))⟩⟩,
 some ⟨⟨.struct [(0,4),(1,31)],2,32,[.p (.bool false),.nils 1]⟩,some 3,(.st 3),[.v .bool false,.nils (.int .u32)],some ⟨(.st 3),(ZoM.mk false ([]:(List Int)))⟩⟩,
 some ⟨⟨.struct [(0,33),(2,33)],4,64,[.p (.bool false),.nils 1,.p (.bool false),.nils 1]⟩,some 4,(.st 4),[.v .bool false,.nils (.int .u32),.v .bool false,.nils (.int .u32)],some ⟨(.st 4),(ZoF.mk (ZoM.mk false ([]:(List Int))) (ZoM.mk false ([]:(List Int))))⟩⟩,
 some ⟨⟨.struct [(0,33),(2,33)],4,64,[.p (.bool false),.nils 1,.p (.bool false),.nils 1]⟩,some 4,(.st 4),[.v .bool false,.nils (.int .u32),.v .bool false,.nils (.int .u32)],some ⟨(.st 4),(ZoF.mk (ZoM.mk false ([]:(List Int))) (ZoM.mk false ([]:(List Int))))⟩⟩,
 some ⟨⟨.int .i64,1,8,[.p (.int .i64 0)]⟩,none,(.int .i64),[.v (.int .i64) (0:Int)],some ⟨(.int .i64),(0:Int)⟩⟩,
 none,
 none,
 none,
 none,
 none,
 none,
 none,
 none,
 none,
 some ⟨⟨.sl 50,1,24,[.nils 2]⟩,none,(.sl (.st 0)),[.nils (.st 0)],some ⟨(.sl (.st 0)),[]⟩⟩,
 some ⟨⟨.struct [(0,9),(1,46)],2,40,[.p (.str []),.nils 2]⟩,some 1,(.st 1),[.v .str ([]:Str),.nils (.st 0)],some ⟨(.st 1),(ZoL.mk ([]:Str) ([]:(List ZoP)))⟩⟩,
 some ⟨⟨.struct [(0,9),(1,46)],2,40,[.p (.str []),.nils 2]⟩,some 1,(.st 1),[.v .str ([]:Str),.nils (.st 0)],some ⟨(.st 1),(ZoL.mk ([]:Str) ([]:(List ZoP)))⟩⟩,
 some ⟨⟨.struct [(0,4),(1,9)],2,24,[.p (.bool false),.p (.str [])]⟩,some 0,(.st 0),[.v .bool false,.v .str ([]:Str)],some ⟨(.st 0),(ZoP.mk false ([]:Str))⟩⟩,
 some ⟨⟨.struct [(0,4),(1,9)],2,24,[.p (.bool false),.p (.str [])]⟩,some 0,(.st 0),[.v .bool false,.v .str ([]:Str)],some ⟨(.st 0),(ZoP.mk false ([]:Str))⟩⟩,
 none,
 some ⟨⟨.sl 9,1,24,[.nils 1]⟩,none,(.sl .str),[.nils .str],some ⟨(.sl .str),[]⟩⟩,
 none,
 none,
 none,
 none,
 none,
 none,
 none,
 none,
 none,
 none,
 none,
 none,
 none,
 none,
 some ⟨⟨.struct [(0,22),(1,3)],2,32,[.nils 1,.p (.int .i64 0)]⟩,some 9,(.st 9),[.nils (.int .i64),.v (.int .i64) (0:Int)],some ⟨(.st 9),(ZoJ.mk ([]:(List Int)) 0)⟩⟩,
 some ⟨⟨.struct [(0,22),(1,3)],2,32,[.nils 1,.p (.int .i64 0)]⟩,some 9,(.st 9),[.nils (.int .i64),.v (.int .i64) (0:Int)],some ⟨(.st 9),(ZoJ.mk ([]:(List Int)) 0)⟩⟩,
 none,
 none,
 some ⟨⟨.sl 72,1,24,[.nils 1]⟩,none,(.sl (.sl (.st 4))),[.nils (.sl (.st 4))],some ⟨(.sl (.sl (.st 4))),[]⟩⟩,
 some ⟨⟨.sl 35,1,24,[.nils 4]⟩,none,(.sl (.st 4)),[.nils (.st 4)],some ⟨(.sl (.st 4)),[]⟩⟩,
 none,
 none,
 none,
 none,
 none,
 none,
 none,
 none,
 none,
 none,
 none,
 none,
 none,
 none,
 none,
 none,
 none,
 none,
 none,
 some ⟨⟨.func,1,8,[.p .nilfn]⟩,none,.fnc,[.nilfn],some ⟨.fnc,(none:Option Nat)⟩⟩,
 some ⟨⟨.func,1,8,[.p .nilfn]⟩,none,.fnc,[.nilfn],some ⟨.fnc,(none:Option Nat)⟩⟩,
 none,
 none,
 none,
 none,
 some ⟨⟨.ptr 101,1,8,[.p .nilp]⟩,none,.bool,[.nilp],none⟩,
 some ⟨⟨.map 132 35,1,8,[.p (.map (.arr 2 0) [])]⟩,none,(.map (.st 7) (.st 4)),[.v (.map (.st 7) (.st 4)) []],some ⟨(.map (.st 7) (.st 4)),[]⟩⟩,
 some ⟨⟨.struct [(0,71),(1,99)],2,32,[.nils 1,.p (.map (.arr 2 0) [])]⟩,some 8,(.st 8),[.nils (.sl (.st 4)),.v (.map (.st 7) (.st 4)) []],some ⟨(.st 8),(Zqp.mk ([]:(List (List ZoF))) ([]:(List (ZoR×ZoF))))⟩⟩,
 some ⟨⟨.struct [(0,71),(1,99)],2,32,[.nils 1,.p (.map (.arr 2 0) [])]⟩,some 8,(.st 8),[.nils (.sl (.st 4)),.v (.map (.st 7) (.st 4)) []],some ⟨(.st 8),(Zqp.mk ([]:(List (List ZoF))) ([]:(List (ZoR×ZoF))))⟩⟩,
 none,
 none,
 none,
 none,
 none,
 none,
 none,
 none,
 none,
 none,
 some ⟨⟨.int .u64,1,8,[.p (.int .u64 0)]⟩,none,(.int .u64),[.v (.int .u64) (0:Int)],some ⟨(.int .u64),(0:Int)⟩⟩,
 none,
 none,
 none,
 none,
 some ⟨⟨.int .u32,1,4,[.p (.int .u32 0)]⟩,none,(.int .u32),[.v (.int .u32) (0:Int)],some ⟨(.int .u32),(0:Int)⟩⟩,
 none,
 none,
 none,
 none,
 none,
 none,
 none,
 none,
 none,
 none,
 none,
 none,
 none,
 none,
 some ⟨⟨.arr 2 3,2,16,[.p (.int .i64 0),.p (.int .i64 0)]⟩,some 7,(.st 7),[.v (.int .i64) (0:Int),.v (.int .i64) (0:Int)],some ⟨(.st 7),(ZoR.mk 0 0)⟩⟩,
 some ⟨⟨.func,1,8,[.p .nilfn]⟩,none,.fnc,[.nilfn],some ⟨.fnc,(none:Option Nat)⟩⟩,
 some ⟨⟨.func,1,8,[.p .nilfn]⟩,none,.fnc,[.nilfn],some ⟨.fnc,(none:Option Nat)⟩⟩,
 none,
 none,
 none,
 none,
 some ⟨⟨.int .u64,1,8,[.p (.int .u64 0)]⟩,none,(.int .u64),[.v (.int .u64) (0:Int)],some ⟨(.int .u64),(0:Int)⟩⟩,
 none,
 none,
 none,
 none,
 none,
 none,
 none,
 none,
 none,
 none,
 none,
 none,
 none,
 none,
 none,
 none,
 none,
 none,
 none,
 none,
 some ⟨⟨.sl 5,1,24,[.nils 1]⟩,none,(.sl (.int .u8)),[.nils (.int .u8)],some ⟨(.sl (.int .u8)),[]⟩⟩,
 none,
 none,
 none,
 none,
 none,
 none,
 none,
 none,
 none,
 none,
 none,
 none,
 none,
 none,
 some ⟨⟨.sl 117,1,24,[.nils 1]⟩,none,(.sl (.int .u32)),[.nils (.int .u32)],some ⟨(.sl (.int .u32)),[]⟩⟩,
 none,
 none,
 none,
 none,
 none,
 none,
 none,
 none,
 none,
 none,
 none,
 none,
 none,
 none,
 none,
 none,
 none,
 none,
 none,
 none,
 none,
 none,
 none,
 some ⟨⟨.arr 256 5,256,256,[.p (.int .u8 0),.p (.int .u8 0),.p (.int .u8 0),.p (.int .u8 0),.p (.int .u8 0),.p (.int .u8 0),.p (.int .u8 0),.p (.int .u8 0),.p (.int .u8 0),.p (.int .u8 0),.p (.int .u8 0),.p (.int .u8 0),.p (.int .u8 0),.p (.int .u8 0),.p (.int .u8 0),.p (.int .u8 0),.p (.int .u8 0),.p (.int .u8 0),.p (.int .u8 0),.p (.int .u8 0),.p (.int .u8 0),.p (.int .u8 0),.p (.int .u8 0),.p (.int .u8 0),.p (.int .u8 0),.p (.int .u8 0),.p (.int .u8 0),.p (.int .u8 0),.p (.int .u8 0),.p (.int .u8 0),.p (.int .u8 0),.p (.int .u8 0),.p (.int .u8 0),.p (.int .u8 0),.p (.int .u8 0),.p (.int .u8 0),.p (.int .u8 0),.p (.int .u8 0),.p (.int .u8 0),.p (.int .u8 0),.p (.int .u8 0),.p (.int .u8 0),.p (.int .u8 0),.p (.int .u8 0),.p (.int .u8 0),.p (.int .u8 0),.p (.int .u8 0),.p (.int .u8 0),.p (.int .u8 0),.p (.int .u8 0),.p (.int .u8 0),.p (.int .u8 0),.p (.int .u8 0),.p (.int .u8 0),.p (.int .u8 0),.p (.int .u8 0),.p (.int .u8 0),.p (.int .u8 0),.p (.int .u8 0),.p (.int .u8 0),.p (.int .u8 0),.p (.int .u8 0),.p (.int .u8 0),.p (.int .u8 0),.p (.int .u8 0),.p (.int .u8 0),.p (.int .u8 0),.p (.int .u8 0),.p (.int .u8 0),.p (.int .u8 0),.p (.int .u8 0),.p (.int .u8 0),.p (.int .u8 0),.p (.int .u8 0),.p (.int .u8 0),.p (.int .u8 0),.p (.int .u8 0),.p (.int .u8 0),.p (.int .u8 0),.p (.int .u8 0),.p (.int .u8 0),.p (.int .u8 0),.p (.int .u8 0),.p (.int .u8 0),.p (.int .u8 0),.p (.int .u8 0),.p (.int .u8 0),.p (.int .u8 0),.p (.int .u8 0),.p (.int .u8 0),.p (.int .u8 0),.p (.int .u8 0),.p (.int .u8 0),.p (.int .u8 0),.p (.int .u8 0),.p (.int .u8 0),.p (.int .u8 0),.p (.int .u8 0),.p (.int .u8 0),.p (.int .u8 0),.p (.int .u8 0),.p (.int .u8 0),.p (.int .u8 0),.p (.int .u8 0),.p (.int .u8 0),.p (.int .u8 0),.p (.int .u8 0),.p (.int .u8 0),.p (.int .u8 0),.p (.int .u8 0),.p (.int .u8 0),.p (.int .u8 0),.p (.int .u8 0),.p (.int .u8 0),.p (.int .u8 0),.p (.int .u8 0),.p (.int .u8 0),.p (.int .u8 0),.p (.int .u8 0),.p (.int .u8 0),.p (.int .u8 0),.p (.int .u8 0),.p (.int .u8 0),.p (.int .u8 0),.p (.int .u8 0),.p (.int .u8 0),.p (.int .u8 0),.p (.int .u8 0),.p (.int .u8 0),.p (.int .u8 0),.p (.int .u8 0),.p (.int .u8 0),.p (.int .u8 0),.p (.int .u8 0),.p (.int .u8 0),.p (.int .u8 0),.p (.int .u8 0),.p (.int .u8 0),.p (.int .u8 0),.p (.int .u8 0),.p (.int .u8 0),.p (.int .u8 0),.p (.int .u8 0),.p (.int .u8 0),.p (.int .u8 0),.p (.int .u8 0),.p (.int .u8 0),.p (.int .u8 0),.p (.int .u8 0),.p (.int .u8 0),.p (.int .u8 0),.p (.int .u8 0),.p (.int .u8 0),.p (.int .u8 0),.p (.int .u8 0),.p (.int .u8 0),.p (.int .u8 0),.p (.int .u8 0),.p (.int .u8 0),.p (.int .u8 0),.p (.int .u8 0),.p (.int .u8 0),.p (.int .u8 0),.p (.int .u8 0),.p (.int .u8 0),.p (.int .u8 0),.p (.int .u8 0),.p (.int .u8 0),.p (.int .u8 0),.p (.int .u8 0),.p (.int .u8 0),.p (.int .u8 0),.p (.int .u8 0),.p (.int .u8 0),.p (.int .u8 0),.p (.int .u8 0),.p (.int .u8 0),.p (.int .u8 0),.p (.int .u8 0),.p (.int .u8 0),.p (.int .u8 0),.p (.int .u8 0),.p (.int .u8 0),.p (.int .u8 0),.p (.int .u8 0),.p (.int .u8 0),.p (.int .u8 0),.p (.int .u8 0),.p (.int .u8 0),.p (.int .u8 0),.p (.int .u8 0),.p (.int .u8 0),.p (.int .u8 0),.p (.int .u8 0),.p (.int .u8 0),.p (.int .u8 0),.p (.int .u8 0),.p (.int .u8 0),.p (.int .u8 0),.p (.int .u8 0),.p (.int .u8 0),.p (.int .u8 0),.p (.int .u8 0),.p (.int .u8 0),.p (.int .u8 0),.p (.int .u8 0),.p (.int .u8 0),.p (.int .u8 0),.p (.int .u8 0),.p (.int .u8 0),.p (.int .u8 0),.p (.int .u8 0),.p (.int .u8 0),.p (.int .u8 0),.p (.int .u8 0),.p (.int .u8 0),.p (.int .u8 0),.p (.int .u8 0),.p (.int .u8 0),.p (.int .u8 0),.p (.int .u8 0),.p (.int .u8 0),.p (.int .u8 0),.p (.int .u8 0),.p (.int .u8 0),.p (.int .u8 0),.p (.int .u8 0),.p (.int .u8 0),.p (.int .u8 0),.p (.int .u8 0),.p (.int .u8 0),.p (.int .u8 0),.p (.int .u8 0),.p (.int .u8 0),.p (.int .u8 0),.p (.int .u8 0),.p (.int .u8 0),.p (.int .u8 0),.p (.int .u8 0),.p (.int .u8 0),.p (.int .u8 0),.p (.int .u8 0),.p (.int .u8 0),.p (.int .u8 0),.p (.int .u8 0),.p (.int .u8 0),.p (.int .u8 0),.p (.int .u8 0),.p (.int .u8 0),.p (.int .u8 0),.p (.int .u8 0),.p (.int .u8 0),.p (.int .u8 0),.p (.int .u8 0),.p (.int .u8 0),.p (.int .u8 0)]⟩,some 10,(.st 10),List.replicate 256 (.v (.int .u8) (0:Int)),some ⟨(.st 10),(⟨List.replicate 256 (0:Int),List.length_replicate⟩:ZtI)⟩⟩,
 some ⟨⟨.struct [(0,5),(1,5)],2,2,[.p (.int .u8 0),.p (.int .u8 0)]⟩,some 5,(.st 5),[.v (.int .u8) (0:Int),.v (.int .u8) (0:Int)],some ⟨(.st 5),(ZoH.mk 0 0)⟩⟩,
 some ⟨⟨.struct [(0,5),(1,5)],2,2,[.p (.int .u8 0),.p (.int .u8 0)]⟩,some 5,(.st 5),[.v (.int .u8) (0:Int),.v (.int .u8) (0:Int)],some ⟨(.st 5),(ZoH.mk 0 0)⟩⟩,
 some ⟨⟨.arr 16 201,32,32,[.p (.int .u8 0),.p (.int .u8 0),.p (.int .u8 0),.p (.int .u8 0),.p (.int .u8 0),.p (.int .u8 0),.p (.int .u8 0),.p (.int .u8 0),.p (.int .u8 0),.p (.int .u8 0),.p (.int .u8 0),.p (.int .u8 0),.p (.int .u8 0),.p (.int .u8 0),.p (.int .u8 0),.p (.int .u8 0),.p (.int .u8 0),.p (.int .u8 0),.p (.int .u8 0),.p (.int .u8 0),.p (.int .u8 0),.p (.int .u8 0),.p (.int .u8 0),.p (.int .u8 0),.p (.int .u8 0),.p (.int .u8 0),.p (.int .u8 0),.p (.int .u8 0),.p (.int .u8 0),.p (.int .u8 0),.p (.int .u8 0),.p (.int .u8 0)]⟩,some 11,(.st 11),[.v (.int .u8) (0:Int),.v (.int .u8) (0:Int),.v (.int .u8) (0:Int),.v (.int .u8) (0:Int),.v (.int .u8) (0:Int),.v (.int .u8) (0:Int),.v (.int .u8) (0:Int),.v (.int .u8) (0:Int),.v (.int .u8) (0:Int),.v (.int .u8) (0:Int),.v (.int .u8) (0:Int),.v (.int .u8) (0:Int),.v (.int .u8) (0:Int),.v (.int .u8) (0:Int),.v (.int .u8) (0:Int),.v (.int .u8) (0:Int),.v (.int .u8) (0:Int),.v (.int .u8) (0:Int),.v (.int .u8) (0:Int),.v (.int .u8) (0:Int),.v (.int .u8) (0:Int),.v (.int .u8) (0:Int),.v (.int .u8) (0:Int),.v (.int .u8) (0:Int),.v (.int .u8) (0:Int),.v (.int .u8) (0:Int),.v (.int .u8) (0:Int),.v (.int .u8) (0:Int),.v (.int .u8) (0:Int),.v (.int .u8) (0:Int),.v (.int .u8) (0:Int),.v (.int .u8) (0:Int)],some ⟨(.st 11),(Zo8.mk (ZoH.mk 0 0) (ZoH.mk 0 0) (ZoH.mk 0 0) (ZoH.mk 0 0) (ZoH.mk 0 0) (ZoH.mk 0 0) (ZoH.mk 0 0) (ZoH.mk 0 0) (ZoH.mk 0 0) (ZoH.mk 0 0) (ZoH.mk 0 0) (ZoH.mk 0 0) (ZoH.mk 0 0) (ZoH.mk 0 0) (ZoH.mk 0 0) (ZoH.mk 0 0))⟩⟩,
 none,
 none,
 none,
 none,
 none,
 none,
 some ⟨⟨.func,1,8,[.p .nilfn]⟩,none,.fnc,[.nilfn],some ⟨.fnc,(none:Option Nat)⟩⟩,
 some ⟨⟨.func,1,8,[.p .nilfn]⟩,none,.fnc,[.nilfn],some ⟨.fnc,(none:Option Nat)⟩⟩,
 some ⟨⟨.struct [(0,9),(1,209),(2,210)],3,32,[.p (.str []),.p .nilfn,.p .nilfn]⟩,some 6,(.st 6),[.v .str ([]:Str),.nilfn,.nilfn],some ⟨(.st 6),(ZpE.mk ([]:Str) (none:Option Nat) (none:Option Nat))⟩⟩,
 some ⟨⟨.struct [(0,9),(1,209),(2,210)],3,32,[.p (.str []),.p .nilfn,.p .nilfn]⟩,some 6,(.st 6),[.v .str ([]:Str),.nilfn,.nilfn],some ⟨(.st 6),(ZpE.mk ([]:Str) (none:Option Nat) (none:Option Nat))⟩⟩,
 some ⟨⟨.map 3 212,1,8,[.p (.map (.int .i64) [])]⟩,none,(.map (.int .i64) (.st 6)),[.v (.map (.int .i64) (.st 6)) []],some ⟨(.map (.int .i64) (.st 6)),[]⟩⟩,
 none,
 some ⟨⟨.sl 33,1,24,[.nils 2]⟩,none,(.sl (.st 3)),[.nils (.st 3)],some ⟨(.sl (.st 3)),[]⟩⟩,
 none,
 none,
 none,
 none,
 none,
 none,
 none,
 none,
 none,
 none,
 none,
 none,
 none,
 none,
 none,
 none,
 none,
 none,
 none,
 none,
 none,
 none,
 none,
 none,
 none,
 none,
 none,
 none,
 none,
 none,
 none,
 none,
 none,
 none,
 none,
 none,
 none,
 none,
 none,
 none,
 none,
 none,
 none,
 none,
 none,
 none,
 none,
 none,
 none,
 none,
 none,
 none,
 none,
 none,
 none,
 none,
 none,
 none,
 none,
 none,
 none,
 none,
 none,
 none,
 none,
 none,
 none,
 none,
 none,
 none,
 none,
 none,
 none,
 none,
 none,
 none,
 none,
 none,
 none,
 none,
 none,
 none,
 none,
 none,
 none,
 none,
 none,
 none,
 none,
 none,
 none,
 none,
 none,
 none,
 none,
 none,
 none,
 none,
 none,
 none,
 none,
 none,
 none,
 none,
 none,
 none,
 none,
 none]
noncomputable def X0:ZG U:=⟨Tryz.prog,tt0,[(0,ZA3),(1,ZxJ),(2,ZrY),(3,Zxi)],0,[⟨999999,1,1,(.st 0)⟩],[7],ZBW⟩
theorem tok0:TOk X0:=tok_of (by kernel_rfl) (by kernel_rfl) (by kernel_rfl) (own1 (by decide) (fun x=>x.Cells) (fun _=>rfl) own0) (key1 (fun x=>x.e0) (fun x=>x.e1) (fun _=>rfl) (fun _ _=>rfl) key0)
theorem eok0:Zl X0.E:=⟨by kernel_rfl⟩
theorem mixed:X0.prog.follows .mixedOrders=true:=by kernel_rfl
theorem G0:Gnd X0:=⟨uok,tok0,eok0,mixed⟩
noncomputable def ZyY:ZkU U:=⟨(List Str),[48],[.p],[some 1],[.p (.st 1)],fun v=>ZsQ v.1,fun q=>⟨[.p ⟨(.sl .str),q⟩],[]⟩⟩
noncomputable def Zyn:ZkU U:=⟨(List Str),[9],[.p],[none],[.p .str],fun v=>Zrp v.1,fun q=>⟨[.p ⟨(.sl .str),q⟩],[]⟩⟩
noncomputable def Zyg:ZkU U:=⟨Str,[9,9],[.p,.p],[none,none],[.p .str,.p .str],fun v=>ZwY v.1 v.2.1,fun q=>⟨[.p ⟨.str,q⟩],[]⟩⟩
noncomputable def ZtV:ZkU U:=⟨Int,[9,5],[.p,.p],[none,none],[.p .str,.p (.int .u8)],fun v=>Zqd v.1 v.2.1,fun q=>⟨[.p ⟨(.int .i64),q⟩],[]⟩⟩
noncomputable def Zym:ZkU U:=⟨Str,[9,9],[.p,.p],[none,none],[.p .str,.p .str],fun v=>ZvU v.1 v.2.1,fun q=>⟨[.p ⟨.str,q⟩],[]⟩⟩
noncomputable def Zyb:ZkU U:=⟨Str,[9,9],[.p,.p],[none,none],[.p .str,.p .str],fun v=>Zw6 v.1 v.2.1,fun q=>⟨[.p ⟨.str,q⟩],[]⟩⟩
noncomputable def Zyh:ZkU U:=⟨Str,[3],[.p],[none],[.p (.int .i64)],fun v=>Zvu v.1,fun q=>⟨[.p ⟨.str,q⟩],[]⟩⟩
end Go.Proofs
