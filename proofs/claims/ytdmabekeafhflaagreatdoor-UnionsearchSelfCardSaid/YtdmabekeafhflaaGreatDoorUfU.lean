/- Printed by wip/tools/tgen.py: tables. -/
import Derived.Test.YtdmabekeafhflaaGreatDoorUfS
import Derived.Test.YtdmabekeafhflaaGreatDoorUfWX
import Derived.Test.YtdmabekeafhflaaGreatDoorProg
import Derived.KernelRfl
set_option linter.unusedVariables false
set_option linter.unusedSimpArgs false
set_option linter.unusedSectionVars false
namespace Go.Proofs
open Go Eng
set_option maxRecDepth 100000
def ZzB (x:ZoR):List (Lf Zvg):=[⟨.bool,x.Null⟩,⟨.str,x.Text⟩]
def Zzs:List (Lf Zvg)→Option ZoR
 | [c0,c1]=>(c0.as .bool).bind fun a0=>(c1.as .str).bind fun a1=>some (ZoR.mk a0 a1)
 |_=>none
theorem ZBd (cs:List (Lf Zvg)) (x:ZoR) (h:Zzs cs=some x):ZzB x=cs:=by
 unfold Zzs at h;split at h;rotate_left;simp at h
 repeat (replace h:=Zx8 h;obtain⟨_,rfl,h⟩:=h)
 obtain rfl:=Option.some.inj h;rfl
def Zvj (x:ZoR):P:= .agg [.bool x.Null,.str x.Text]
def ZyK (x:ZoJ):List (Lf Zvg):=[⟨.str,x.Name⟩,⟨(.sl (.st 0)),x.Cells⟩]
def ZyE:List (Lf Zvg)→Option ZoJ
 | [c0,c1]=>(c0.as .str).bind fun a0=>(c1.as (.sl (.st 0))).bind fun a1=>some (ZoJ.mk a0 a1)
 |_=>none
theorem ZAE (cs:List (Lf Zvg)) (x:ZoJ) (h:ZyE cs=some x):ZyK x=cs:=by
 unfold ZyE at h;split at h;rotate_left;simp at h
 repeat (replace h:=Zx8 h;obtain⟨_,rfl,h⟩:=h)
 obtain rfl:=Option.some.inj h;rfl
def ZwU (x:ZoJ):P:= .agg [.str x.Name,.sl 2 (x.Cells.map Zvj)]
def Zzf (x:ZoG):List (Lf Zvg):=[⟨(.int .i64),x.ID⟩,⟨.str,x.Name⟩,⟨(.sl (.st 1)),x.Columns⟩]
def ZyV:List (Lf Zvg)→Option ZoG
 | [c0,c1,c2]=>(c0.as (.int .i64)).bind fun a0=>(c1.as .str).bind fun a1=>(c2.as (.sl (.st 1))).bind fun a2=>some (ZoG.mk a0 a1 a2)
 |_=>none
theorem ZAT (cs:List (Lf Zvg)) (x:ZoG) (h:ZyV cs=some x):Zzf x=cs:=by
 unfold ZyV at h;split at h;rotate_left;simp at h
 repeat (replace h:=Zx8 h;obtain⟨_,rfl,h⟩:=h)
 obtain rfl:=Option.some.inj h;rfl
def ZBC (x:ZoG):P:= .agg [.int .i64 x.ID,.str x.Name,.sl 2 (x.Columns.map ZwU)]
def Zz0 (x:ZoL):List (Lf Zvg):=[⟨.bool,x.Neg⟩,⟨(.sl (.int .u32)),x.Words⟩]
def ZzV:List (Lf Zvg)→Option ZoL
 | [c0,c1]=>(c0.as .bool).bind fun a0=>(c1.as (.sl (.int .u32))).bind fun a1=>some (ZoL.mk a0 a1)
 |_=>none
theorem ZBv (cs:List (Lf Zvg)) (x:ZoL) (h:ZzV cs=some x):Zz0 x=cs:=by
 unfold ZzV at h;split at h;rotate_left;simp at h
 repeat (replace h:=Zx8 h;obtain⟨_,rfl,h⟩:=h)
 obtain rfl:=Option.some.inj h;rfl
def ZCu (x:ZoL):P:= .agg [.bool x.Neg,.sl 1 (x.Words.map (fun x=> .int .u32 x))]
def Zye (x:ZoF):List (Lf Zvg):=[⟨.bool,x.Num.Neg⟩,⟨(.sl (.int .u32)),x.Num.Words⟩,⟨.bool,x.Den.Neg⟩,⟨(.sl (.int .u32)),x.Den.Words⟩]
def ZxI:List (Lf Zvg)→Option ZoF
 | [c0,c1,c2,c3]=>(c0.as .bool).bind fun a0=>(c1.as (.sl (.int .u32))).bind fun a1=>(c2.as .bool).bind fun a2=>(c3.as (.sl (.int .u32))).bind fun a3=>some (ZoF.mk (ZoL.mk a0 a1) (ZoL.mk a2 a3))
 |_=>none
theorem Zz8 (cs:List (Lf Zvg)) (x:ZoF) (h:ZxI cs=some x):Zye x=cs:=by
 unfold ZxI at h;split at h;rotate_left;simp at h
 repeat (replace h:=Zx8 h;obtain⟨_,rfl,h⟩:=h)
 obtain rfl:=Option.some.inj h;rfl
def Zxw (x:ZoF):P:= .agg [.bool x.Num.Neg,.sl 1 (x.Num.Words.map (fun x=> .int .u32 x)),.bool x.Den.Neg,.sl 1 (x.Den.Words.map (fun x=> .int .u32 x))]
def Zuq (x:ZoH):List (Lf Zvg):=[⟨(.int .u8),x.lo⟩,⟨(.int .u8),x.hi⟩]
def ZsE:List (Lf Zvg)→Option ZoH
 | [c0,c1]=>(c0.as (.int .u8)).bind fun a0=>(c1.as (.int .u8)).bind fun a1=>some (ZoH.mk a0 a1)
 |_=>none
theorem ZxB (cs:List (Lf Zvg)) (x:ZoH) (h:ZsE cs=some x):Zuq x=cs:=by
 unfold ZsE at h;split at h;rotate_left;simp at h
 repeat (replace h:=Zx8 h;obtain⟨_,rfl,h⟩:=h)
 obtain rfl:=Option.some.inj h;rfl
def ZxZ (x:ZoH):P:= .agg [.int .u8 x.lo,.int .u8 x.hi]
def ZyJ (x:Zpy):List (Lf Zvg):=[⟨.str,x.word⟩,⟨.fnc,x.canonical⟩,⟨.fnc,x.value⟩]
def ZyC:List (Lf Zvg)→Option Zpy
 | [c0,c1,c2]=>(c0.as .str).bind fun a0=>(c1.as .fnc).bind fun a1=>(c2.as .fnc).bind fun a2=>some (Zpy.mk a0 a1 a2)
 |_=>none
theorem ZAD (cs:List (Lf Zvg)) (x:Zpy) (h:ZyC cs=some x):ZyJ x=cs:=by
 unfold ZyC at h;split at h;rotate_left;simp at h
 repeat (replace h:=Zx8 h;obtain⟨_,rfl,h⟩:=h)
 obtain rfl:=Option.some.inj h;rfl
def ZBe (x:Zpy):P:= .agg [.str x.word,Zkw x.canonical,Zkw x.value]
def ZzA (x:ZoQ):List (Lf Zvg):=[⟨(.int .i64),x.e0⟩,⟨(.int .i64),x.e1⟩]
def Zzr:List (Lf Zvg)→Option ZoQ
 | [c0,c1]=>(c0.as (.int .i64)).bind fun a0=>(c1.as (.int .i64)).bind fun a1=>some (ZoQ.mk a0 a1)
 |_=>none
theorem ZBc (cs:List (Lf Zvg)) (x:ZoQ) (h:Zzr cs=some x):ZzA x=cs:=by
 unfold Zzr at h;split at h;rotate_left;simp at h
 repeat (replace h:=Zx8 h;obtain⟨_,rfl,h⟩:=h)
 obtain rfl:=Option.some.inj h;rfl
def ZAf (x:ZoQ):P:= .agg [.int .i64 x.e0,.int .i64 x.e1]
def ZwQ (x:Zqj):List (Lf Zvg):=[⟨(.sl (.sl (.st 4))),x.w_⟩,⟨(.map (.st 7) (.st 4)),x.best⟩]
def Zvx:List (Lf Zvg)→Option Zqj
 | [c0,c1]=>(c0.as (.sl (.sl (.st 4)))).bind fun a0=>(c1.as (.map (.st 7) (.st 4))).bind fun a1=>some (Zqj.mk a0 a1)
 |_=>none
theorem ZyU (cs:List (Lf Zvg)) (x:Zqj) (h:Zvx cs=some x):ZwQ x=cs:=by
 unfold Zvx at h;split at h;rotate_left;simp at h
 repeat (replace h:=Zx8 h;obtain⟨_,rfl,h⟩:=h)
 obtain rfl:=Option.some.inj h;rfl
def Zzu (x:Zqj):P:= .agg [.sl 1 (x.w_.map (fun x=> .sl 4 (x.map Zxw))),.map (.arr 2 0) (x.best.map fun e=>(ZAf e.1,Zxw e.2))]
def Zwd (x:ZoM):List (Lf Zvg):=[⟨(.sl (.int .i64)),x.l⟩,⟨(.int .i64),x.at_⟩]
def ZuP:List (Lf Zvg)→Option ZoM
 | [c0,c1]=>(c0.as (.sl (.int .i64))).bind fun a0=>(c1.as (.int .i64)).bind fun a1=>some (ZoM.mk a0 a1)
 |_=>none
theorem ZyD (cs:List (Lf Zvg)) (x:ZoM) (h:ZuP cs=some x):Zwd x=cs:=by
 unfold ZuP at h;split at h;rotate_left;simp at h
 repeat (replace h:=Zx8 h;obtain⟨_,rfl,h⟩:=h)
 obtain rfl:=Option.some.inj h;rfl
def ZyX (x:ZoM):P:= .agg [.sl 1 (x.l.map (fun x=> .int .i64 x)),.int .i64 x.at_]
def Zzg (x:Zqv):List (Lf Zvg):=[⟨(.int .i64),x.Table⟩,⟨(.sl (.int .i64)),x.Align⟩,⟨.bool,x.Score.Num.Neg⟩,⟨(.sl (.int .u32)),x.Score.Num.Words⟩,⟨.bool,x.Score.Den.Neg⟩,⟨(.sl (.int .u32)),x.Score.Den.Words⟩]
def ZyW:List (Lf Zvg)→Option Zqv
 | [c0,c1,c2,c3,c4,c5]=>(c0.as (.int .i64)).bind fun a0=>(c1.as (.sl (.int .i64))).bind fun a1=>(c2.as .bool).bind fun a2=>(c3.as (.sl (.int .u32))).bind fun a3=>(c4.as .bool).bind fun a4=>(c5.as (.sl (.int .u32))).bind fun a5=>some (Zqv.mk a0 a1 (ZoF.mk (ZoL.mk a2 a3) (ZoL.mk a4 a5)))
 |_=>none
theorem ZAU (cs:List (Lf Zvg)) (x:Zqv) (h:ZyW cs=some x):Zzg x=cs:=by
 unfold ZyW at h;split at h;rotate_left;simp at h
 repeat (replace h:=Zx8 h;obtain⟨_,rfl,h⟩:=h)
 obtain rfl:=Option.some.inj h;rfl
def ZBD (x:Zqv):P:= .agg [.int .i64 x.Table,.sl 1 (x.Align.map (fun x=> .int .i64 x)),.bool x.Score.Num.Neg,.sl 1 (x.Score.Num.Words.map (fun x=> .int .u32 x)),.bool x.Score.Den.Neg,.sl 1 (x.Score.Den.Words.map (fun x=> .int .u32 x))]
def Zt6 (x:Ztp):List (Lf Zvg):=x.1.map fun y=>⟨(.int .u8),y⟩
def Zxu (cs:List (Lf Zvg)):Option Ztp:=match Zj (fun c=>c.as (.int .u8)) cs with
 |some l=>if h:l.length=256 then some ⟨l,h⟩else none
 |none=>none
theorem ZzU (cs:List (Lf Zvg)) (x:Ztp) (h:Zxu cs=some x):Zt6 x=cs:=by unfold Zxu at h;split at h;rotate_left;simp at h;rename_i l hl;split at h;rotate_left;simp at h;simp only[Option.some.injEq]at h;subst h;exact(Zm5 hl).symm
def ZwY (x:Ztp):P:= .agg (x.1.map fun y=> .int .u8 y)
def ZrY (x:Zo2):List (Lf Zvg):=[⟨(.int .u8),x.e0.lo⟩,⟨(.int .u8),x.e0.hi⟩,⟨(.int .u8),x.e1.lo⟩,⟨(.int .u8),x.e1.hi⟩,⟨(.int .u8),x.e2.lo⟩,⟨(.int .u8),x.e2.hi⟩,⟨(.int .u8),x.e3.lo⟩,⟨(.int .u8),x.e3.hi⟩,⟨(.int .u8),x.e4.lo⟩,⟨(.int .u8),x.e4.hi⟩,⟨(.int .u8),x.e5.lo⟩,⟨(.int .u8),x.e5.hi⟩,⟨(.int .u8),x.e6.lo⟩,⟨(.int .u8),x.e6.hi⟩,⟨(.int .u8),x.e7.lo⟩,⟨(.int .u8),x.e7.hi⟩,⟨(.int .u8),x.e8.lo⟩,⟨(.int .u8),x.e8.hi⟩,⟨(.int .u8),x.e9.lo⟩,⟨(.int .u8),x.e9.hi⟩,⟨(.int .u8),x.e10.lo⟩,⟨(.int .u8),x.e10.hi⟩,⟨(.int .u8),x.e11.lo⟩,⟨(.int .u8),x.e11.hi⟩,⟨(.int .u8),x.e12.lo⟩,⟨(.int .u8),x.e12.hi⟩,⟨(.int .u8),x.e13.lo⟩,⟨(.int .u8),x.e13.hi⟩,⟨(.int .u8),x.e14.lo⟩,⟨(.int .u8),x.e14.hi⟩,⟨(.int .u8),x.e15.lo⟩,⟨(.int .u8),x.e15.hi⟩]
def Zqu:List (Lf Zvg)→Option Zo2
 | [c0,c1,c2,c3,c4,c5,c6,c7,c8,c9,c10,c11,c12,c13,c14,c15,c16,c17,c18,c19,c20,c21,c22,c23,c24,c25,c26,c27,c28,c29,c30,c31]=>(c0.as (.int .u8)).bind fun a0=>(c1.as (.int .u8)).bind fun a1=>(c2.as (.int .u8)).bind fun a2=>(c3.as (.int .u8)).bind fun a3=>(c4.as (.int .u8)).bind fun a4=>(c5.as (.int .u8)).bind fun a5=>(c6.as (.int .u8)).bind fun a6=>(c7.as (.int .u8)).bind fun a7=>(c8.as (.int .u8)).bind fun a8=>(c9.as (.int .u8)).bind fun a9=>(c10.as (.int .u8)).bind fun a10=>(c11.as (.int .u8)).bind fun a11=>(c12.as (.int .u8)).bind fun a12=>(c13.as (.int .u8)).bind fun a13=>(c14.as (.int .u8)).bind fun a14=>(c15.as (.int .u8)).bind fun a15=>(c16.as (.int .u8)).bind fun a16=>(c17.as (.int .u8)).bind fun a17=>(c18.as (.int .u8)).bind fun a18=>(c19.as (.int .u8)).bind fun a19=>(c20.as (.int .u8)).bind fun a20=>(c21.as (.int .u8)).bind fun a21=>(c22.as (.int .u8)).bind fun a22=>(c23.as (.int .u8)).bind fun a23=>(c24.as (.int .u8)).bind fun a24=>(c25.as (.int .u8)).bind fun a25=>(c26.as (.int .u8)).bind fun a26=>(c27.as (.int .u8)).bind fun a27=>(c28.as (.int .u8)).bind fun a28=>(c29.as (.int .u8)).bind fun a29=>(c30.as (.int .u8)).bind fun a30=>(c31.as (.int .u8)).bind fun a31=>some (Zo2.mk (ZoH.mk a0 a1) (ZoH.mk a2 a3) (ZoH.mk a4 a5) (ZoH.mk a6 a7) (ZoH.mk a8 a9) (ZoH.mk a10 a11) (ZoH.mk a12 a13) (ZoH.mk a14 a15) (ZoH.mk a16 a17) (ZoH.mk a18 a19) (ZoH.mk a20 a21) (ZoH.mk a22 a23) (ZoH.mk a24 a25) (ZoH.mk a26 a27) (ZoH.mk a28 a29) (ZoH.mk a30 a31))
 |_=>none
theorem ZvN (cs:List (Lf Zvg)) (x:Zo2) (h:Zqu cs=some x):ZrY x=cs:=by
 unfold Zqu at h;split at h;rotate_left;simp at h
 repeat (replace h:=Zx8 h;obtain⟨_,rfl,h⟩:=h)
 obtain rfl:=Option.some.inj h;rfl
def Zwp (x:Zo2):P:= .agg [.int .u8 x.e0.lo,.int .u8 x.e0.hi,.int .u8 x.e1.lo,.int .u8 x.e1.hi,.int .u8 x.e2.lo,.int .u8 x.e2.hi,.int .u8 x.e3.lo,.int .u8 x.e3.hi,.int .u8 x.e4.lo,.int .u8 x.e4.hi,.int .u8 x.e5.lo,.int .u8 x.e5.hi,.int .u8 x.e6.lo,.int .u8 x.e6.hi,.int .u8 x.e7.lo,.int .u8 x.e7.hi,.int .u8 x.e8.lo,.int .u8 x.e8.hi,.int .u8 x.e9.lo,.int .u8 x.e9.hi,.int .u8 x.e10.lo,.int .u8 x.e10.hi,.int .u8 x.e11.lo,.int .u8 x.e11.hi,.int .u8 x.e12.lo,.int .u8 x.e12.hi,.int .u8 x.e13.lo,.int .u8 x.e13.hi,.int .u8 x.e14.lo,.int .u8 x.e14.hi,.int .u8 x.e15.lo,.int .u8 x.e15.hi]
def ZKT:(n:Nat)→Zvg n→List (Lf Zvg)
 |0,x=>ZzB x
 |1,x=>ZyK x
 |2,x=>Zzf x
 |3,x=>Zz0 x
 |4,x=>Zye x
 |5,x=>Zuq x
 |6,x=>ZyJ x
 |7,x=>ZzA x
 |8,x=>ZwQ x
 |9,x=>Zwd x
 |10,x=>Zzg x
 |11,x=>Zt6 x
 |12,x=>ZrY x
 |_+13,_=>[]
def ofU:(n:Nat)→List (Lf Zvg)→Option (Zvg n)
 |0,cs=>Zzs cs
 |1,cs=>ZyE cs
 |2,cs=>ZyV cs
 |3,cs=>ZzV cs
 |4,cs=>ZxI cs
 |5,cs=>ZsE cs
 |6,cs=>ZyC cs
 |7,cs=>Zzr cs
 |8,cs=>Zvx cs
 |9,cs=>ZuP cs
 |10,cs=>ZyW cs
 |11,cs=>Zxu cs
 |12,cs=>Zqu cs
 |_+13,cs=>match cs with | []=>some () |_=>none
def encU:(n:Nat)→Zvg n→P
 |0,x=>Zvj x
 |1,x=>ZwU x
 |2,x=>ZBC x
 |3,x=>ZCu x
 |4,x=>Zxw x
 |5,x=>ZxZ x
 |6,x=>ZBe x
 |7,x=>ZAf x
 |8,x=>Zzu x
 |9,x=>ZyX x
 |10,x=>ZBD x
 |11,x=>ZwY x
 |12,x=>Zwp x
 |_+13,_=> .agg []
@[reducible] def U:Zd:=⟨Zvg,ZMx,ZKT,ofU,encU⟩
theorem ZzG (x:Ztp):ZwY x= .agg ((Zt6 x).map U.encL):=by unfold ZwY Zt6;rw[List.map_map];rfl
theorem uok:UOk U where
 of_cells:=fun n cs x h=>match n,x,h with
  |0,x,h=>ZBd cs x h
  |1,x,h=>ZAE cs x h
  |2,x,h=>ZAT cs x h
  |3,x,h=>ZBv cs x h
  |4,x,h=>Zz8 cs x h
  |5,x,h=>ZxB cs x h
  |6,x,h=>ZAD cs x h
  |7,x,h=>ZBc cs x h
  |8,x,h=>ZyU cs x h
  |9,x,h=>ZyD cs x h
  |10,x,h=>ZAU cs x h
  |11,x,h=>ZzU cs x h
  |12,x,h=>ZvN cs x h
  |_+13,x,h=>by
   match cs,h with
   | [],h=>rfl
 enc_cells:=fun n x=>match n,x with
  |0,x=>rfl
  |1,x=>rfl
  |2,x=>rfl
  |3,x=>rfl
  |4,x=>rfl
  |5,x=>rfl
  |6,x=>rfl
  |7,x=>rfl
  |8,x=>rfl
  |9,x=>rfl
  |10,x=>rfl
  |11,x=>ZzG x
  |12,x=>rfl
  |_+13,x=>rfl
 len:=fun n x=>match n,x with
  |0,x=>rfl
  |1,x=>rfl
  |2,x=>rfl
  |3,x=>rfl
  |4,x=>rfl
  |5,x=>rfl
  |6,x=>rfl
  |7,x=>rfl
  |8,x=>rfl
  |9,x=>rfl
  |10,x=>rfl
  |11,x=>(List.length_map ..).trans x.2
  |12,x=>rfl
  |_+13,x=>rfl
noncomputable def tt0:List (Option (TT U)):=[
 none,
 some ⟨⟨.func,1,8,[.p .nilfn]⟩,none,.fnc,[.nilfn],some ⟨.fnc,(none:Option Nat)⟩⟩,
 some ⟨⟨.int .i64,1,8,[.p (.int .i64 0)]⟩,none,(.int .i64),[.v (.int .i64) (0:Int)],some ⟨(.int .i64),(0:Int)⟩⟩,
 some ⟨⟨.int .i64,1,8,[.p (.int .i64 0)]⟩,none,(.int .i64),[.v (.int .i64) (0:Int)],some ⟨(.int .i64),(0:Int)⟩⟩,
 some ⟨⟨.bool,1,1,[.p (.bool false)]⟩,none,.bool,[.v .bool false],some ⟨.bool,false⟩⟩,
 some ⟨⟨.int .u8,1,1,[.p (.int .u8 0)]⟩,none,(.int .u8),[.v (.int .u8) (0:Int)],some ⟨(.int .u8),(0:Int)⟩⟩,
 none,
 none,
 none,
 some ⟨⟨.str,1,16,[.p (.str [])]⟩,none,.str,[.v .str ([]:Str)],some ⟨.str,([]:Str)⟩⟩,
 none,
 none,
 some ⟨⟨.int .u64,1,8,[.p (.int .u64 0)]⟩,none,(.int .u64),[.v (.int .u64) (0:Int)],some ⟨(.int .u64),(0:Int)⟩⟩,
 none,
 none,
 none,
 none,
 none,
 none,
 none,
 none,
 none,
 some ⟨⟨.sl 3,1,24,[.nils 1]⟩,none,(.sl (.int .i64)),[.nils (.int .i64)],some ⟨(.sl (.int .i64)),[]⟩⟩,
 none,
 none,
 some ⟨⟨.ptr 68,1,8,[.p .nilp]⟩,none,.bool,[.nilp],none⟩,
 none,
 some ⟨⟨.sl 48,1,24,[.nils 2]⟩,none,(.sl (.st 1)),[.nils (.st 1)],some ⟨(.sl (.st 1)),[]⟩⟩,
 some ⟨⟨.struct [(0,3),(1,9),(2,27)],3,48,[.p (.int .i64 0),.p (.str []),.nils 2]⟩,some 2,(.st 2),[.v (.int .i64) (0:Int),.v .str ([]:Str),.nils (.st 1)],some ⟨(.st 2),(ZoG.mk 0 ([]:Str) ([]:(List ZoJ)))⟩⟩,
 some ⟨⟨.struct [(0,3),(1,9),(2,27)],3,48,[.p (.int .i64 0),.p (.str []),.nils 2]⟩,some 2,(.st 2),[.v (.int .i64) (0:Int),.v .str ([]:Str),.nils (.st 1)],some ⟨(.st 2),(ZoG.mk 0 ([]:Str) ([]:(List ZoJ)))⟩⟩,
 none,
 some ⟨⟨.sl 117,1,24,[.nils 1]⟩,none,(.sl (.int .u32)),[.nils (.int .u32)],some ⟨(.sl (.int .u32)),[]⟩⟩,
 some ⟨⟨.struct [(0,4),(1,31)],2,32,[.p (.bool false),.nils 1]⟩,some 3,(.st 3),[.v .bool false,.nils (.int .u32)],some ⟨(.st 3),(ZoL.mk false ([]:(List Int)))⟩⟩,
 some ⟨⟨.struct [(0,4),(1,31)],2,32,[.p (.bool false),.nils 1]⟩,some 3,(.st 3),[.v .bool false,.nils (.int .u32)],some ⟨(.st 3),(ZoL.mk false ([]:(List Int)))⟩⟩,
 some ⟨⟨.struct [(0,33),(2,33)],4,64,[.p (.bool false),.nils 1,.p (.bool false),.nils 1]⟩,some 4,(.st 4),[.v .bool false,.nils (.int .u32),.v .bool false,.nils (.int .u32)],some ⟨(.st 4),(ZoF.mk (ZoL.mk false ([]:(List Int))) (ZoL.mk false ([]:(List Int))))⟩⟩,
 some ⟨⟨.struct [(0,33),(2,33)],4,64,[.p (.bool false),.nils 1,.p (.bool false),.nils 1]⟩,some 4,(.st 4),[.v .bool false,.nils (.int .u32),.v .bool false,.nils (.int .u32)],some ⟨(.st 4),(ZoF.mk (ZoL.mk false ([]:(List Int))) (ZoL.mk false ([]:(List Int))))⟩⟩,
 some ⟨⟨.int .i64,1,8,[.p (.int .i64 0)]⟩,none,(.int .i64),[.v (.int .i64) (0:Int)],some ⟨(.int .i64),(0:Int)⟩⟩,
 none,
 none,
 none,
 none,
 none,
 none,
 none,
 none,
 none,
 some ⟨⟨.sl 50,1,24,[.nils 2]⟩,none,(.sl (.st 0)),[.nils (.st 0)],some ⟨(.sl (.st 0)),[]⟩⟩,
 some ⟨⟨.struct [(0,9),(1,46)],2,40,[.p (.str []),.nils 2]⟩,some 1,(.st 1),[.v .str ([]:Str),.nils (.st 0)],some ⟨(.st 1),(ZoJ.mk ([]:Str) ([]:(List ZoR)))⟩⟩,
 some ⟨⟨.struct [(0,9),(1,46)],2,40,[.p (.str []),.nils 2]⟩,some 1,(.st 1),[.v .str ([]:Str),.nils (.st 0)],some ⟨(.st 1),(ZoJ.mk ([]:Str) ([]:(List ZoR)))⟩⟩,
 some ⟨⟨.struct [(0,4),(1,9)],2,24,[.p (.bool false),.p (.str [])]⟩,some 0,(.st 0),[.v .bool false,.v .str ([]:Str)],some ⟨(.st 0),(ZoR.mk false ([]:Str))⟩⟩,
 some ⟨⟨.struct [(0,4),(1,9)],2,24,[.p (.bool false),.p (.str [])]⟩,some 0,(.st 0),[.v .bool false,.v .str ([]:Str)],some ⟨(.st 0),(ZoR.mk false ([]:Str))⟩⟩,
 none,
 some ⟨⟨.sl 9,1,24,[.nils 1]⟩,none,(.sl .str),[.nils .str],some ⟨(.sl .str),[]⟩⟩,
 none,
 none,
 some ⟨⟨.sl 60,1,24,[.nils 6]⟩,none,(.sl (.st 10)),[.nils (.st 10)],some ⟨(.sl (.st 10)),[]⟩⟩,
 none,
 none,
 some ⟨⟨.sl 29,1,24,[.nils 3]⟩,none,(.sl (.st 2)),[.nils (.st 2)],some ⟨(.sl (.st 2)),[]⟩⟩,
 some ⟨⟨.struct [(0,3),(1,22),(2,35)],6,96,[.p (.int .i64 0),.nils 1,.p (.bool false),.nils 1,.p (.bool false),.nils 1]⟩,some 10,(.st 10),[.v (.int .i64) (0:Int),.nils (.int .i64),.v .bool false,.nils (.int .u32),.v .bool false,.nils (.int .u32)],some ⟨(.st 10),(Zqv.mk 0 ([]:(List Int)) (ZoF.mk (ZoL.mk false ([]:(List Int))) (ZoL.mk false ([]:(List Int)))))⟩⟩,
 some ⟨⟨.struct [(0,3),(1,22),(2,35)],6,96,[.p (.int .i64 0),.nils 1,.p (.bool false),.nils 1,.p (.bool false),.nils 1]⟩,some 10,(.st 10),[.v (.int .i64) (0:Int),.nils (.int .i64),.v .bool false,.nils (.int .u32),.v .bool false,.nils (.int .u32)],some ⟨(.st 10),(Zqv.mk 0 ([]:(List Int)) (ZoF.mk (ZoL.mk false ([]:(List Int))) (ZoL.mk false ([]:(List Int)))))⟩⟩,
 none,
 none,
 none,
 none,
 none,
 none,
 some ⟨⟨.struct [(0,22),(1,3)],2,32,[.nils 1,.p (.int .i64 0)]⟩,some 9,(.st 9),[.nils (.int .i64),.v (.int .i64) (0:Int)],some ⟨(.st 9),(ZoM.mk ([]:(List Int)) 0)⟩⟩,
 some ⟨⟨.struct [(0,22),(1,3)],2,32,[.nils 1,.p (.int .i64 0)]⟩,some 9,(.st 9),[.nils (.int .i64),.v (.int .i64) (0:Int)],some ⟨(.st 9),(ZoM.mk ([]:(List Int)) 0)⟩⟩,
 none,
 some ⟨⟨.func,1,8,[.p .nilfn]⟩,none,.fnc,[.nilfn],some ⟨.fnc,(none:Option Nat)⟩⟩,
 some ⟨⟨.sl 72,1,24,[.nils 1]⟩,none,(.sl (.sl (.st 4))),[.nils (.sl (.st 4))],some ⟨(.sl (.sl (.st 4))),[]⟩⟩,
 some ⟨⟨.sl 35,1,24,[.nils 4]⟩,none,(.sl (.st 4)),[.nils (.st 4)],some ⟨(.sl (.st 4)),[]⟩⟩,
 none,
 none,
 none,
 none,
 none,
 none,
 none,
 none,
 none,
 none,
 none,
 some ⟨⟨.func,1,8,[.p .nilfn]⟩,none,.fnc,[.nilfn],some ⟨.fnc,(none:Option Nat)⟩⟩,
 none,
 none,
 none,
 none,
 none,
 none,
 none,
 some ⟨⟨.func,1,8,[.p .nilfn]⟩,none,.fnc,[.nilfn],some ⟨.fnc,(none:Option Nat)⟩⟩,
 some ⟨⟨.func,1,8,[.p .nilfn]⟩,none,.fnc,[.nilfn],some ⟨.fnc,(none:Option Nat)⟩⟩,
 none,
 none,
 none,
 none,
 some ⟨⟨.ptr 101,1,8,[.p .nilp]⟩,none,.bool,[.nilp],none⟩,
 some ⟨⟨.map 132 35,1,8,[.p (.map (.arr 2 0) [])]⟩,none,(.map (.st 7) (.st 4)),[.v (.map (.st 7) (.st 4)) []],some ⟨(.map (.st 7) (.st 4)),[]⟩⟩,
 some ⟨⟨.struct [(0,71),(1,99)],2,32,[.nils 1,.p (.map (.arr 2 0) [])]⟩,some 8,(.st 8),[.nils (.sl (.st 4)),.v (.map (.st 7) (.st 4)) []],some ⟨(.st 8),(Zqj.mk ([]:(List (List ZoF))) ([]:(List (ZoQ×ZoF))))⟩⟩,
 some ⟨⟨.struct [(0,71),(1,99)],2,32,[.nils 1,.p (.map (.arr 2 0) [])]⟩,some 8,(.st 8),[.nils (.sl (.st 4)),.v (.map (.st 7) (.st 4)) []],some ⟨(.st 8),(Zqj.mk ([]:(List (List ZoF))) ([]:(List (ZoQ×ZoF))))⟩⟩,
 none,
 none,
 none,
 none,
 none,
 none,
 none,
 none,
 none,
 none,
 some ⟨⟨.int .u64,1,8,[.p (.int .u64 0)]⟩,none,(.int .u64),[.v (.int .u64) (0:Int)],some ⟨(.int .u64),(0:Int)⟩⟩,
 none,
 none,
 none,
 none,
 some ⟨⟨.int .u32,1,4,[.p (.int .u32 0)]⟩,none,(.int .u32),[.v (.int .u32) (0:Int)],some ⟨(.int .u32),(0:Int)⟩⟩,
 none,
 none,
 none,
 none,
 none,
 none,
 none,
 none,
 none,
 none,
 none,
 none,
 none,
 none,
 some ⟨⟨.arr 2 3,2,16,[.p (.int .i64 0),.p (.int .i64 0)]⟩,some 7,(.st 7),[.v (.int .i64) (0:Int),.v (.int .i64) (0:Int)],some ⟨(.st 7),(ZoQ.mk 0 0)⟩⟩,
 some ⟨⟨.func,1,8,[.p .nilfn]⟩,none,.fnc,[.nilfn],some ⟨.fnc,(none:Option Nat)⟩⟩,
 some ⟨⟨.func,1,8,[.p .nilfn]⟩,none,.fnc,[.nilfn],some ⟨.fnc,(none:Option Nat)⟩⟩,
 none,
 none,
 none,
 none,
 some ⟨⟨.int .u64,1,8,[.p (.int .u64 0)]⟩,none,(.int .u64),[.v (.int .u64) (0:Int)],some ⟨(.int .u64),(0:Int)⟩⟩,
 none,
 none,
 none,
 none,
 none,
 none,
 none,
 none,
 none,
 none,
 none,
 none,
 none,
 none,
 none,
 none,
 none,
 none,
 none,
 none,
 some ⟨⟨.sl 5,1,24,[.nils 1]⟩,none,(.sl (.int .u8)),[.nils (.int .u8)],some ⟨(.sl (.int .u8)),[]⟩⟩,
 none,
 none,
 none,
 none,
 none,
 none,
 none,
 none,
 none,
 none,
 none,
 none,
 none,
 none,
 some ⟨⟨.sl 117,1,24,[.nils 1]⟩,none,(.sl (.int .u32)),[.nils (.int .u32)],some ⟨(.sl (.int .u32)),[]⟩⟩,
 none,
 none,
 none,
 none,
 none,
 none,
 none,
 some ⟨⟨.int .i64,1,8,[.p (.int .i64 0)]⟩,none,(.int .i64),[.v (.int .i64) (0:Int)],some ⟨(.int .i64),(0:Int)⟩⟩,
 none,
 none,
 none,
 none,
 none,
 none,
 none,
 none,
 none,
 none,
 none,
 none,
 none,
 none,
 none,
 some ⟨⟨.arr 256 5,256,256,[.p (.int .u8 0),.p (.int .u8 0),.p (.int .u8 0),.p (.int .u8 0),.p (.int .u8 0),.p (.int .u8 0),.p (.int .u8 0),.p (.int .u8 0),.p (.int .u8 0),.p (.int .u8 0),.p (.int .u8 0),.p (.int .u8 0),.p (.int .u8 0),.p (.int .u8 0),.p (.int .u8 0),.p (.int .u8 0),.p (.int .u8 0),.p (.int .u8 0),.p (.int .u8 0),.p (.int .u8 0),.p (.int .u8 0),.p (.int .u8 0),.p (.int .u8 0),.p (.int .u8 0),.p (.int .u8 0),.p (.int .u8 0),.p (.int .u8 0),.p (.int .u8 0),.p (.int .u8 0),.p (.int .u8 0),.p (.int .u8 0),.p (.int .u8 0),.p (.int .u8 0),.p (.int .u8 0),.p (.int .u8 0),.p (.int .u8 0),.p (.int .u8 0),.p (.int .u8 0),.p (.int .u8 0),.p (.int .u8 0),.p (.int .u8 0),.p (.int .u8 0),.p (.int .u8 0),.p (.int .u8 0),.p (.int .u8 0),.p (.int .u8 0),.p (.int .u8 0),.p (.int .u8 0),.p (.int .u8 0),.p (.int .u8 0),.p (.int .u8 0),.p (.int .u8 0),.p (.int .u8 0),.p (.int .u8 0),.p (.int .u8 0),.p (.int .u8 0),.p (.int .u8 0),.p (.int .u8 0),.p (.int .u8 0),.p (.int .u8 0),.p (.int .u8 0),.p (.int .u8 0),.p (.int .u8 0),.p (.int .u8 0),.p (.int .u8 0),.p (.int .u8 0),.p (.int .u8 0),.p (.int .u8 0),.p (.int .u8 0),.p (.int .u8 0),.p (.int .u8 0),.p (.int .u8 0),.p (.int .u8 0),.p (.int .u8 0),.p (.int .u8 0),.p (.int .u8 0),.p (.int .u8 0),.p (.int .u8 0),.p (.int .u8 0),.p (.int .u8 0),.p (.int .u8 0),.p (.int .u8 0),.p (.int .u8 0),.p (.int .u8 0),.p (.int .u8 0),.p (.int .u8 0),.p (.int .u8 0),.p (.int .u8 0),.p (.int .u8 0),.p (.int .u8 0),.p (.int .u8 0),.p (.int .u8 0),.p (.int .u8 0),.p (.int .u8 0),.p (.int .u8 0),.p (.int .u8 0),.p (.int .u8 0),.p (.int .u8 0),.p (.int .u8 0),.p (.int .u8 0),.p (.int .u8 0),.p (.int .u8 0),.p (.int .u8 0),.p (.int .u8 0),.p (.int .u8 0),.p (.int .u8 0),.p (.int .u8 0),.p (.int .u8 0),.p (.int .u8 0),.p (.int .u8 0),.p (.int .u8 0),.p (.int .u8 0),.p (.int .u8 0),.p (.int .u8 0),.p (.int .u8 0),.p (.int .u8 0),.p (.int .u8 0),.p (.int .u8 0),.p (.int .u8 0),.p (.int .u8 0),.p (.int .u8 0),.p (.int .u8 0),.p (.int .u8 0),.p (.int .u8 0),.p (.int .u8 0),.p (.int .u8 0),.p (.int .u8 0),.p (.int .u8 0),.p (.int .u8 0),.p (.int .u8 0),.p (.int .u8 0),.p (.int .u8 0),.p (.int .u8 0),.p (.int .u8 0),.p (.int .u8 0),.p (.int .u8 0),.p (.int .u8 0),.p (.int .u8 0),.p (.int .u8 0),.p (.int .u8 0),.p (.int .u8 0),.p (.int .u8 0),.p (.int .u8 0),.p (.int .u8 0),.p (.int .u8 0),.p (.int .u8 0),.p (.int .u8 0),.p (.int .u8 0),.p (.int .u8 0),.p (.int .u8 0),.p (.int .u8 0),.p (.int .u8 0),.p (.int .u8 0),.p (.int .u8 0),.p (.int .u8 0),.p (.int .u8 0),.p (.int .u8 0),.p (.int .u8 0),.p (.int .u8 0),.p (.int .u8 0),.p (.int .u8 0),.p (.int .u8 0),.p (.int .u8 0),.p (.int .u8 0),.p (.int .u8 0),.p (.int .u8 0),.p (.int .u8 0),.p (.int .u8 0),.p (.int .u8 0),.p (.int .u8 0),.p (.int .u8 0),.p (.int .u8 0),.p (.int .u8 0),.p (.int .u8 0),.p (.int .u8 0),.p (.int .u8 0),.p (.int .u8 0),.p (.int .u8 0),.p (.int .u8 0),.p (.int .u8 0),.p (.int .u8 0),.p (.int .u8 0),.p (.int .u8 0),.p (.int .u8 0),.p (.int .u8 0),.p (.int .u8 0),.p (.int .u8 0),.p (.int .u8 0),.p (.int .u8 0),.p (.int .u8 0),.p (.int .u8 0),.p (.int .u8 0),.p (.int .u8 0),.p (.int .u8 0),.p (.int .u8 0),.p (.int .u8 0),.p (.int .u8 0),.p (.int .u8 0),.p (.int .u8 0),.p (.int .u8 0),.p (.int .u8 0),.p (.int .u8 0),.p (.int .u8 0),.p (.int .u8 0),.p (.int .u8 0),.p (.int .u8 0),.p (.int .u8 0),.p (.int .u8 0),.p (.int .u8 0),.p (.int .u8 0),.p (.int .u8 0),.p (.int .u8 0),.p (.int .u8 0),.p (.int .u8 0),.p (.int .u8 0),.p (.int .u8 0),.p (.int .u8 0),.p (.int .u8 0),.p (.int .u8 0),.p (.int .u8 0),.p (.int .u8 0),.p (.int .u8 0),.p (.int .u8 0),.p (.int .u8 0),.p (.int .u8 0),.p (.int .u8 0),.p (.int .u8 0),.p (.int .u8 0),.p (.int .u8 0),.p (.int .u8 0),.p (.int .u8 0),.p (.int .u8 0),.p (.int .u8 0),.p (.int .u8 0),.p (.int .u8 0),.p (.int .u8 0),.p (.int .u8 0),.p (.int .u8 0),.p (.int .u8 0),.p (.int .u8 0),.p (.int .u8 0),.p (.int .u8 0),.p (.int .u8 0),.p (.int .u8 0),.p (.int .u8 0),.p (.int .u8 0),.p (.int .u8 0),.p (.int .u8 0),.p (.int .u8 0),.p (.int .u8 0),.p (.int .u8 0),.p (.int .u8 0),.p (.int .u8 0),.p (.int .u8 0),.p (.int .u8 0),.p (.int .u8 0)]⟩,some 11,(.st 11),List.replicate 256 (.v (.int .u8) (0:Int)),some ⟨(.st 11),(⟨List.replicate 256 (0:Int),List.length_replicate⟩:Ztp)⟩⟩,
 some ⟨⟨.struct [(0,5),(1,5)],2,2,[.p (.int .u8 0),.p (.int .u8 0)]⟩,some 5,(.st 5),[.v (.int .u8) (0:Int),.v (.int .u8) (0:Int)],some ⟨(.st 5),(ZoH.mk 0 0)⟩⟩,
 some ⟨⟨.struct [(0,5),(1,5)],2,2,[.p (.int .u8 0),.p (.int .u8 0)]⟩,some 5,(.st 5),[.v (.int .u8) (0:Int),.v (.int .u8) (0:Int)],some ⟨(.st 5),(ZoH.mk 0 0)⟩⟩,
 some ⟨⟨.arr 16 201,32,32,[.p (.int .u8 0),.p (.int .u8 0),.p (.int .u8 0),.p (.int .u8 0),.p (.int .u8 0),.p (.int .u8 0),.p (.int .u8 0),.p (.int .u8 0),.p (.int .u8 0),.p (.int .u8 0),.p (.int .u8 0),.p (.int .u8 0),.p (.int .u8 0),.p (.int .u8 0),.p (.int .u8 0),.p (.int .u8 0),.p (.int .u8 0),.p (.int .u8 0),.p (.int .u8 0),.p (.int .u8 0),.p (.int .u8 0),.p (.int .u8 0),.p (.int .u8 0),.p (.int .u8 0),.p (.int .u8 0),.p (.int .u8 0),.p (.int .u8 0),.p (.int .u8 0),.p (.int .u8 0),.p (.int .u8 0),.p (.int .u8 0),.p (.int .u8 0)]⟩,some 12,(.st 12),[.v (.int .u8) (0:Int),.v (.int .u8) (0:Int),.v (.int .u8) (0:Int),.v (.int .u8) (0:Int),.v (.int .u8) (0:Int),.v (.int .u8) (0:Int),.v (.int .u8) (0:Int),.v (.int .u8) (0:Int),.v (.int .u8) (0:Int),.v (.int .u8) (0:Int),.v (.int .u8) (0:Int),.v (.int .u8) (0:Int),.v (.int .u8) (0:Int),.v (.int .u8) (0:Int),.v (.int .u8) (0:Int),.v (.int .u8) (0:Int),.v (.int .u8) (0:Int),.v (.int .u8) (0:Int),.v (.int .u8) (0:Int),.v (.int .u8) (0:Int),.v (.int .u8) (0:Int),.v (.int .u8) (0:Int),.v (.int .u8) (0:Int),.v (.int .u8) (0:Int),.v (.int .u8) (0:Int),.v (.int .u8) (0:Int),.v (.int .u8) (0:Int),.v (.int .u8) (0:Int),.v (.int .u8) (0:Int),.v (.int .u8) (0:Int),.v (.int .u8) (0:Int),.v (.int .u8) (0:Int)],some ⟨(.st 12),(Zo2.mk (ZoH.mk 0 0) (ZoH.mk 0 0) (ZoH.mk 0 0) (ZoH.mk 0 0) (ZoH.mk 0 0) (ZoH.mk 0 0) (ZoH.mk 0 0) (ZoH.mk 0 0) (ZoH.mk 0 0) (ZoH.mk 0 0) (ZoH.mk 0 0) (ZoH.mk 0 0) (ZoH.mk 0 0) (ZoH.mk 0 0) (ZoH.mk 0 0) (ZoH.mk 0 0))⟩⟩,
 none,
 none,
 none,
 none,
 none,
 none,
 some ⟨⟨.func,1,8,[.p .nilfn]⟩,none,.fnc,[.nilfn],some ⟨.fnc,(none:Option Nat)⟩⟩,
 some ⟨⟨.func,1,8,[.p .nilfn]⟩,none,.fnc,[.nilfn],some ⟨.fnc,(none:Option Nat)⟩⟩,
 some ⟨⟨.struct [(0,9),(1,209),(2,210)],3,32,[.p (.str []),.p .nilfn,.p .nilfn]⟩,some 6,(.st 6),[.v .str ([]:Str),.nilfn,.nilfn],some ⟨(.st 6),(Zpy.mk ([]:Str) (none:Option Nat) (none:Option Nat))⟩⟩,
 some ⟨⟨.struct [(0,9),(1,209),(2,210)],3,32,[.p (.str []),.p .nilfn,.p .nilfn]⟩,some 6,(.st 6),[.v .str ([]:Str),.nilfn,.nilfn],some ⟨(.st 6),(Zpy.mk ([]:Str) (none:Option Nat) (none:Option Nat))⟩⟩,
 some ⟨⟨.map 3 212,1,8,[.p (.map (.int .i64) [])]⟩,none,(.map (.int .i64) (.st 6)),[.v (.map (.int .i64) (.st 6)) []],some ⟨(.map (.int .i64) (.st 6)),[]⟩⟩,
 none,
 some ⟨⟨.sl 33,1,24,[.nils 2]⟩,none,(.sl (.st 3)),[.nils (.st 3)],some ⟨(.sl (.st 3)),[]⟩⟩,
 none,
 none,
 none,
 none,
 none,
 none,
 none,
 some ⟨⟨.int .u64,1,8,[.p (.int .u64 0)]⟩,none,(.int .u64),[.v (.int .u64) (0:Int)],some ⟨(.int .u64),(0:Int)⟩⟩,
 none,
 none,
 none,
 some ⟨⟨.ptr 3,1,8,[.p .nilp]⟩,none,.bool,[.nilp],none⟩,
 none,
 none,
 none,
 none,
 none,
 none,
 none,
 none,
 none,
 none,
 none,
 none,
 none,
 none,
 none,
 none,
 none,
 none,
 none,
 none,
 none,
 none,
 none,
 some ⟨⟨.ptr 223,1,8,[.p .nilp]⟩,none,.bool,[.nilp],none⟩,
 none,
 none,
 none,
 none,
 none,
 none,
 none,
 none,
 none,
 none,
 none,
 none,
 none,
 none,
 none,
 none,
 none,
 none,
 none,
 none,
 none,
 none,
 none,
 none,
 none,
 none,
 none,
 none,
 none,
 none,
 none,
 none,
 none,
 none,
 none,
 none,
 none,
 none,
 none,
 none,
 none,
 none,
 none,
 none,
 none,
 none,
 none,
 none,
 none,
 none,
 none,
 none,
 none,
 none,
 none,
 none,
 none,
 none,
 none,
 none,
 none,
 none,
 none,
 none,
 none,
 none,
 none,
 none,
 none,
 none,
 none,
 none]
noncomputable def X0:ZG U:=⟨Tryz.prog,tt0,[(0,ZAW),(1,Zxv),(2,ZrO)],0,[⟨999999,1,1,(.st 0)⟩],[7],ZBO⟩
theorem tok0:TOk X0:=tok_of (by kernel_rfl) (by kernel_rfl) (by kernel_rfl) (own1 (by decide) (fun x=>x.Cells) (fun _=>rfl) own0) (key1 (fun x=>x.e0) (fun x=>x.e1) (fun _=>rfl) (fun _ _=>rfl) key0)
theorem eok0:Zl X0.E:=⟨by kernel_rfl⟩
theorem mixed:X0.prog.follows .mixedOrders=true:=by kernel_rfl
theorem G0:Gnd X0:=⟨uok,tok0,eok0,mixed⟩
noncomputable def ZyL:ZkU U:=⟨(List Str),[48],[.p],[some 1],[.p (.st 1)],fun v=>ZsA v.1,fun q=>⟨[.p ⟨(.sl .str),q⟩],[]⟩⟩
noncomputable def Zyg:ZkU U:=⟨(List Str),[9],[.p],[none],[.p .str],fun v=>Zrb v.1,fun q=>⟨[.p ⟨(.sl .str),q⟩],[]⟩⟩
noncomputable def Zya:ZkU U:=⟨Str,[9,9],[.p,.p],[none,none],[.p .str,.p .str],fun v=>ZwL v.1 v.2.1,fun q=>⟨[.p ⟨.str,q⟩],[]⟩⟩
noncomputable def ZtF:ZkU U:=⟨Int,[9,5],[.p,.p],[none,none],[.p .str,.p (.int .u8)],fun v=>Zp7 v.1 v.2.1,fun q=>⟨[.p ⟨(.int .i64),q⟩],[]⟩⟩
noncomputable def Zyf:ZkU U:=⟨Str,[9,9],[.p,.p],[none,none],[.p .str,.p .str],fun v=>ZvF v.1 v.2.1,fun q=>⟨[.p ⟨.str,q⟩],[]⟩⟩
noncomputable def Zx0:ZkU U:=⟨Str,[9,9],[.p,.p],[none,none],[.p .str,.p .str],fun v=>ZwV v.1 v.2.1,fun q=>⟨[.p ⟨.str,q⟩],[]⟩⟩
end Go.Proofs
