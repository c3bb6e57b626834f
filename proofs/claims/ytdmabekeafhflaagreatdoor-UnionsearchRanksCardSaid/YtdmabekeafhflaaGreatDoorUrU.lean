/- Printed by wip/tools/tgen.py: tables. -/
import Derived.Test.YtdmabekeafhflaaGreatDoorUrS
import Derived.Test.YtdmabekeafhflaaGreatDoorUrWX
import Derived.Test.YtdmabekeafhflaaGreatDoorProg
import Derived.KernelRfl
set_option linter.unusedVariables false
set_option linter.unusedSimpArgs false
set_option linter.unusedSectionVars false
namespace Go.Proofs
open Go Eng
set_option maxRecDepth 100000
def ZDb (x:ZoR):List (Lf Zxw):=[⟨.bool,x.Null⟩,⟨.str,x.Text⟩]
def ZC1:List (Lf Zxw)→Option ZoR
 | [c0,c1]=>(c0.as .bool).bind fun a0=>(c1.as .str).bind fun a1=>some (ZoR.mk a0 a1)
 |_=>none
theorem ZER (cs:List (Lf Zxw)) (x:ZoR) (h:ZC1 cs=some x):ZDb x=cs:=by
 unfold ZC1 at h;split at h;rotate_left;simp at h
 repeat (replace h:=ZAU h;obtain⟨_,rfl,h⟩:=h)
 obtain rfl:=Option.some.inj h;rfl
def Zx5 (x:ZoR):P:= .agg [.bool x.Null,.str x.Text]
def ZCc (x:ZoL):List (Lf Zxw):=[⟨.str,x.Name⟩,⟨(.sl (.st 0)),x.Cells⟩]
def ZB2:List (Lf Zxw)→Option ZoL
 | [c0,c1]=>(c0.as .str).bind fun a0=>(c1.as (.sl (.st 0))).bind fun a1=>some (ZoL.mk a0 a1)
 |_=>none
theorem ZEj (cs:List (Lf Zxw)) (x:ZoL) (h:ZB2 cs=some x):ZCc x=cs:=by
 unfold ZB2 at h;split at h;rotate_left;simp at h
 repeat (replace h:=ZAU h;obtain⟨_,rfl,h⟩:=h)
 obtain rfl:=Option.some.inj h;rfl
def ZzW (x:ZoL):P:= .agg [.str x.Name,.sl 2 (x.Cells.map Zx5)]
def ZCN (x:ZoF):List (Lf Zxw):=[⟨(.int .i64),x.ID⟩,⟨.str,x.Name⟩,⟨(.sl (.st 1)),x.Columns⟩]
def ZCs:List (Lf Zxw)→Option ZoF
 | [c0,c1,c2]=>(c0.as (.int .i64)).bind fun a0=>(c1.as .str).bind fun a1=>(c2.as (.sl (.st 1))).bind fun a2=>some (ZoF.mk a0 a1 a2)
 |_=>none
theorem ZEy (cs:List (Lf Zxw)) (x:ZoF) (h:ZCs cs=some x):ZCN x=cs:=by
 unfold ZCs at h;split at h;rotate_left;simp at h
 repeat (replace h:=ZAU h;obtain⟨_,rfl,h⟩:=h)
 obtain rfl:=Option.some.inj h;rfl
def ZFv (x:ZoF):P:= .agg [.int .i64 x.ID,.str x.Name,.sl 2 (x.Columns.map ZzW)]
def ZDA (x:ZoN):List (Lf Zxw):=[⟨.bool,x.Neg⟩,⟨(.sl (.int .u32)),x.Words⟩]
def ZDs:List (Lf Zxw)→Option ZoN
 | [c0,c1]=>(c0.as .bool).bind fun a0=>(c1.as (.sl (.int .u32))).bind fun a1=>some (ZoN.mk a0 a1)
 |_=>none
theorem ZFi (cs:List (Lf Zxw)) (x:ZoN) (h:ZDs cs=some x):ZDA x=cs:=by
 unfold ZDs at h;split at h;rotate_left;simp at h
 repeat (replace h:=ZAU h;obtain⟨_,rfl,h⟩:=h)
 obtain rfl:=Option.some.inj h;rfl
def ZGw (x:ZoN):P:= .agg [.bool x.Neg,.sl 1 (x.Words.map (fun x=> .int .u32 x))]
def ZBx (x:ZoG):List (Lf Zxw):=[⟨.bool,x.Num.Neg⟩,⟨(.sl (.int .u32)),x.Num.Words⟩,⟨.bool,x.Den.Neg⟩,⟨(.sl (.int .u32)),x.Den.Words⟩]
def ZAR:List (Lf Zxw)→Option ZoG
 | [c0,c1,c2,c3]=>(c0.as .bool).bind fun a0=>(c1.as (.sl (.int .u32))).bind fun a1=>(c2.as .bool).bind fun a2=>(c3.as (.sl (.int .u32))).bind fun a3=>some (ZoG.mk (ZoN.mk a0 a1) (ZoN.mk a2 a3))
 |_=>none
theorem ZDK (cs:List (Lf Zxw)) (x:ZoG) (h:ZAR cs=some x):ZBx x=cs:=by
 unfold ZAR at h;split at h;rotate_left;simp at h
 repeat (replace h:=ZAU h;obtain⟨_,rfl,h⟩:=h)
 obtain rfl:=Option.some.inj h;rfl
def ZAD (x:ZoG):P:= .agg [.bool x.Num.Neg,.sl 1 (x.Num.Words.map (fun x=> .int .u32 x)),.bool x.Den.Neg,.sl 1 (x.Den.Words.map (fun x=> .int .u32 x))]
def Zw1 (x:ZoI):List (Lf Zxw):=[⟨(.int .u8),x.lo⟩,⟨(.int .u8),x.hi⟩]
def ZuA:List (Lf Zxw)→Option ZoI
 | [c0,c1]=>(c0.as (.int .u8)).bind fun a0=>(c1.as (.int .u8)).bind fun a1=>some (ZoI.mk a0 a1)
 |_=>none
theorem ZAH (cs:List (Lf Zxw)) (x:ZoI) (h:ZuA cs=some x):Zw1 x=cs:=by
 unfold ZuA at h;split at h;rotate_left;simp at h
 repeat (replace h:=ZAU h;obtain⟨_,rfl,h⟩:=h)
 obtain rfl:=Option.some.inj h;rfl
def ZBc (x:ZoI):P:= .agg [.int .u8 x.lo,.int .u8 x.hi]
def ZCb (x:ZpS):List (Lf Zxw):=[⟨.str,x.word⟩,⟨.fnc,x.canonical⟩,⟨.fnc,x.value⟩]
def ZB0:List (Lf Zxw)→Option ZpS
 | [c0,c1,c2]=>(c0.as .str).bind fun a0=>(c1.as .fnc).bind fun a1=>(c2.as .fnc).bind fun a2=>some (ZpS.mk a0 a1 a2)
 |_=>none
theorem ZEi (cs:List (Lf Zxw)) (x:ZpS) (h:ZB0 cs=some x):ZCb x=cs:=by
 unfold ZB0 at h;split at h;rotate_left;simp at h
 repeat (replace h:=ZAU h;obtain⟨_,rfl,h⟩:=h)
 obtain rfl:=Option.some.inj h;rfl
def ZES (x:ZpS):P:= .agg [.str x.word,Zkw x.canonical,Zkw x.value]
def ZDa (x:ZoU):List (Lf Zxw):=[⟨(.int .i64),x.e0⟩,⟨(.int .i64),x.e1⟩]
def ZC0:List (Lf Zxw)→Option ZoU
 | [c0,c1]=>(c0.as (.int .i64)).bind fun a0=>(c1.as (.int .i64)).bind fun a1=>some (ZoU.mk a0 a1)
 |_=>none
theorem ZEQ (cs:List (Lf Zxw)) (x:ZoU) (h:ZC0 cs=some x):ZDa x=cs:=by
 unfold ZC0 at h;split at h;rotate_left;simp at h
 repeat (replace h:=ZAU h;obtain⟨_,rfl,h⟩:=h)
 obtain rfl:=Option.some.inj h;rfl
def ZDP (x:ZoU):P:= .agg [.int .i64 x.e0,.int .i64 x.e1]
def ZzT (x:ZqW):List (Lf Zxw):=[⟨(.sl (.sl (.st 4))),x.w_⟩,⟨(.map (.st 7) (.st 4)),x.best⟩]
def Zyl:List (Lf Zxw)→Option ZqW
 | [c0,c1]=>(c0.as (.sl (.sl (.st 4)))).bind fun a0=>(c1.as (.map (.st 7) (.st 4))).bind fun a1=>some (ZqW.mk a0 a1)
 |_=>none
theorem ZCr (cs:List (Lf Zxw)) (x:ZqW) (h:Zyl cs=some x):ZzT x=cs:=by
 unfold Zyl at h;split at h;rotate_left;simp at h
 repeat (replace h:=ZAU h;obtain⟨_,rfl,h⟩:=h)
 obtain rfl:=Option.some.inj h;rfl
def ZC4 (x:ZqW):P:= .agg [.sl 1 (x.w_.map (fun x=> .sl 4 (x.map ZAD))),.map (.arr 2 0) (x.best.map fun e=>(ZDP e.1,ZAD e.2))]
def Zzh (x:ZoH):List (Lf Zxw):=[⟨(.sl (.int .i64)),x.l⟩,⟨(.int .i64),x.at_⟩]
def Zxv:List (Lf Zxw)→Option ZoH
 | [c0,c1]=>(c0.as (.sl (.int .i64))).bind fun a0=>(c1.as (.int .i64)).bind fun a1=>some (ZoH.mk a0 a1)
 |_=>none
theorem ZB1 (cs:List (Lf Zxw)) (x:ZoH) (h:Zxv cs=some x):Zzh x=cs:=by
 unfold Zxv at h;split at h;rotate_left;simp at h
 repeat (replace h:=ZAU h;obtain⟨_,rfl,h⟩:=h)
 obtain rfl:=Option.some.inj h;rfl
def ZCu (x:ZoH):P:= .agg [.sl 1 (x.l.map (fun x=> .int .i64 x)),.int .i64 x.at_]
def ZDQ (x:ZoY):List (Lf Zxw):=[⟨(.int .i64),x.Kind⟩,⟨(.int .i64),x.Column⟩,⟨.str,x.Text⟩,⟨(.sl (.int .i64)),x.Columns⟩]
def ZDU:List (Lf Zxw)→Option ZoY
 | [c0,c1,c2,c3]=>(c0.as (.int .i64)).bind fun a0=>(c1.as (.int .i64)).bind fun a1=>(c2.as .str).bind fun a2=>(c3.as (.sl (.int .i64))).bind fun a3=>some (ZoY.mk a0 a1 a2 a3)
 |_=>none
theorem ZFL (cs:List (Lf Zxw)) (x:ZoY) (h:ZDU cs=some x):ZDQ x=cs:=by
 unfold ZDU at h;split at h;rotate_left;simp at h
 repeat (replace h:=ZAU h;obtain⟨_,rfl,h⟩:=h)
 obtain rfl:=Option.some.inj h;rfl
def ZG6 (x:ZoY):P:= .agg [.int .i64 x.Kind,.int .i64 x.Column,.str x.Text,.sl 1 (x.Columns.map (fun x=> .int .i64 x))]
def ZCO (x:Zo0):List (Lf Zxw):=[⟨(.int .i64),x.Table⟩,⟨(.sl (.int .i64)),x.Align⟩,⟨.bool,x.Score.Num.Neg⟩,⟨(.sl (.int .u32)),x.Score.Num.Words⟩,⟨.bool,x.Score.Den.Neg⟩,⟨(.sl (.int .u32)),x.Score.Den.Words⟩]
def ZCt:List (Lf Zxw)→Option Zo0
 | [c0,c1,c2,c3,c4,c5]=>(c0.as (.int .i64)).bind fun a0=>(c1.as (.sl (.int .i64))).bind fun a1=>(c2.as .bool).bind fun a2=>(c3.as (.sl (.int .u32))).bind fun a3=>(c4.as .bool).bind fun a4=>(c5.as (.sl (.int .u32))).bind fun a5=>some (Zo0.mk a0 a1 (ZoG.mk (ZoN.mk a2 a3) (ZoN.mk a4 a5)))
 |_=>none
theorem ZEz (cs:List (Lf Zxw)) (x:Zo0) (h:ZCt cs=some x):ZCO x=cs:=by
 unfold ZCt at h;split at h;rotate_left;simp at h
 repeat (replace h:=ZAU h;obtain⟨_,rfl,h⟩:=h)
 obtain rfl:=Option.some.inj h;rfl
def ZFw (x:Zo0):P:= .agg [.int .i64 x.Table,.sl 1 (x.Align.map (fun x=> .int .i64 x)),.bool x.Score.Num.Neg,.sl 1 (x.Score.Num.Words.map (fun x=> .int .u32 x)),.bool x.Score.Den.Neg,.sl 1 (x.Score.Den.Words.map (fun x=> .int .u32 x))]
def ZwB (x:ZvJ):List (Lf Zxw):=x.1.map fun y=>⟨(.int .u8),y⟩
def ZAy (cs:List (Lf Zxw)):Option ZvJ:=match Zj (fun c=>c.as (.int .u8)) cs with
 |some l=>if h:l.length=256 then some ⟨l,h⟩else none
 |none=>none
theorem ZDr (cs:List (Lf Zxw)) (x:ZvJ) (h:ZAy cs=some x):ZwB x=cs:=by unfold ZAy at h;split at h;rotate_left;simp at h;rename_i l hl;split at h;rotate_left;simp at h;simp only[Option.some.injEq]at h;subst h;exact(Zm5 hl).symm
def Zz0 (x:ZvJ):P:= .agg (x.1.map fun y=> .int .u8 y)
def ZtF (x:Zpb):List (Lf Zxw):=[⟨(.int .u8),x.e0.lo⟩,⟨(.int .u8),x.e0.hi⟩,⟨(.int .u8),x.e1.lo⟩,⟨(.int .u8),x.e1.hi⟩,⟨(.int .u8),x.e2.lo⟩,⟨(.int .u8),x.e2.hi⟩,⟨(.int .u8),x.e3.lo⟩,⟨(.int .u8),x.e3.hi⟩,⟨(.int .u8),x.e4.lo⟩,⟨(.int .u8),x.e4.hi⟩,⟨(.int .u8),x.e5.lo⟩,⟨(.int .u8),x.e5.hi⟩,⟨(.int .u8),x.e6.lo⟩,⟨(.int .u8),x.e6.hi⟩,⟨(.int .u8),x.e7.lo⟩,⟨(.int .u8),x.e7.hi⟩,⟨(.int .u8),x.e8.lo⟩,⟨(.int .u8),x.e8.hi⟩,⟨(.int .u8),x.e9.lo⟩,⟨(.int .u8),x.e9.hi⟩,⟨(.int .u8),x.e10.lo⟩,⟨(.int .u8),x.e10.hi⟩,⟨(.int .u8),x.e11.lo⟩,⟨(.int .u8),x.e11.hi⟩,⟨(.int .u8),x.e12.lo⟩,⟨(.int .u8),x.e12.hi⟩,⟨(.int .u8),x.e13.lo⟩,⟨(.int .u8),x.e13.hi⟩,⟨(.int .u8),x.e14.lo⟩,⟨(.int .u8),x.e14.hi⟩,⟨(.int .u8),x.e15.lo⟩,⟨(.int .u8),x.e15.hi⟩]
def Zrj:List (Lf Zxw)→Option Zpb
 | [c0,c1,c2,c3,c4,c5,c6,c7,c8,c9,c10,c11,c12,c13,c14,c15,c16,c17,c18,c19,c20,c21,c22,c23,c24,c25,c26,c27,c28,c29,c30,c31]=>(c0.as (.int .u8)).bind fun a0=>(c1.as (.int .u8)).bind fun a1=>(c2.as (.int .u8)).bind fun a2=>(c3.as (.int .u8)).bind fun a3=>(c4.as (.int .u8)).bind fun a4=>(c5.as (.int .u8)).bind fun a5=>(c6.as (.int .u8)).bind fun a6=>(c7.as (.int .u8)).bind fun a7=>(c8.as (.int .u8)).bind fun a8=>(c9.as (.int .u8)).bind fun a9=>(c10.as (.int .u8)).bind fun a10=>(c11.as (.int .u8)).bind fun a11=>(c12.as (.int .u8)).bind fun a12=>(c13.as (.int .u8)).bind fun a13=>(c14.as (.int .u8)).bind fun a14=>(c15.as (.int .u8)).bind fun a15=>(c16.as (.int .u8)).bind fun a16=>(c17.as (.int .u8)).bind fun a17=>(c18.as (.int .u8)).bind fun a18=>(c19.as (.int .u8)).bind fun a19=>(c20.as (.int .u8)).bind fun a20=>(c21.as (.int .u8)).bind fun a21=>(c22.as (.int .u8)).bind fun a22=>(c23.as (.int .u8)).bind fun a23=>(c24.as (.int .u8)).bind fun a24=>(c25.as (.int .u8)).bind fun a25=>(c26.as (.int .u8)).bind fun a26=>(c27.as (.int .u8)).bind fun a27=>(c28.as (.int .u8)).bind fun a28=>(c29.as (.int .u8)).bind fun a29=>(c30.as (.int .u8)).bind fun a30=>(c31.as (.int .u8)).bind fun a31=>some (Zpb.mk (ZoI.mk a0 a1) (ZoI.mk a2 a3) (ZoI.mk a4 a5) (ZoI.mk a6 a7) (ZoI.mk a8 a9) (ZoI.mk a10 a11) (ZoI.mk a12 a13) (ZoI.mk a14 a15) (ZoI.mk a16 a17) (ZoI.mk a18 a19) (ZoI.mk a20 a21) (ZoI.mk a22 a23) (ZoI.mk a24 a25) (ZoI.mk a26 a27) (ZoI.mk a28 a29) (ZoI.mk a30 a31))
 |_=>none
theorem ZyJ (cs:List (Lf Zxw)) (x:Zpb) (h:Zrj cs=some x):ZtF x=cs:=by
 unfold Zrj at h;split at h;rotate_left;simp at h
 repeat (replace h:=ZAU h;obtain⟨_,rfl,h⟩:=h)
 obtain rfl:=Option.some.inj h;rfl
def Zzs (x:Zpb):P:= .agg [.int .u8 x.e0.lo,.int .u8 x.e0.hi,.int .u8 x.e1.lo,.int .u8 x.e1.hi,.int .u8 x.e2.lo,.int .u8 x.e2.hi,.int .u8 x.e3.lo,.int .u8 x.e3.hi,.int .u8 x.e4.lo,.int .u8 x.e4.hi,.int .u8 x.e5.lo,.int .u8 x.e5.hi,.int .u8 x.e6.lo,.int .u8 x.e6.hi,.int .u8 x.e7.lo,.int .u8 x.e7.hi,.int .u8 x.e8.lo,.int .u8 x.e8.hi,.int .u8 x.e9.lo,.int .u8 x.e9.hi,.int .u8 x.e10.lo,.int .u8 x.e10.hi,.int .u8 x.e11.lo,.int .u8 x.e11.hi,.int .u8 x.e12.lo,.int .u8 x.e12.hi,.int .u8 x.e13.lo,.int .u8 x.e13.hi,.int .u8 x.e14.lo,.int .u8 x.e14.hi,.int .u8 x.e15.lo,.int .u8 x.e15.hi]
def ZQq:(n:Nat)→Zxw n→List (Lf Zxw)
 |0,x=>ZDb x
 |1,x=>ZCc x
 |2,x=>ZCN x
 |3,x=>ZDA x
 |4,x=>ZBx x
 |5,x=>Zw1 x
 |6,x=>ZCb x
 |7,x=>ZDa x
 |8,x=>ZzT x
 |9,x=>Zzh x
 |10,x=>ZDQ x
 |11,x=>ZCO x
 |12,x=>ZwB x
 |13,x=>ZtF x
 |_+14,_=>[]
def ofU:(n:Nat)→List (Lf Zxw)→Option (Zxw n)
 |0,cs=>ZC1 cs
 |1,cs=>ZB2 cs
 |2,cs=>ZCs cs
 |3,cs=>ZDs cs
 |4,cs=>ZAR cs
 |5,cs=>ZuA cs
 |6,cs=>ZB0 cs
 |7,cs=>ZC0 cs
 |8,cs=>Zyl cs
 |9,cs=>Zxv cs
 |10,cs=>ZDU cs
 |11,cs=>ZCt cs
 |12,cs=>ZAy cs
 |13,cs=>Zrj cs
 |_+14,cs=>match cs with | []=>some () |_=>none
def encU:(n:Nat)→Zxw n→P
 |0,x=>Zx5 x
 |1,x=>ZzW x
 |2,x=>ZFv x
 |3,x=>ZGw x
 |4,x=>ZAD x
 |5,x=>ZBc x
 |6,x=>ZES x
 |7,x=>ZDP x
 |8,x=>ZC4 x
 |9,x=>ZCu x
 |10,x=>ZG6 x
 |11,x=>ZFw x
 |12,x=>Zz0 x
 |13,x=>Zzs x
 |_+14,_=> .agg []
@[reducible] def U:Zd:=⟨Zxw,ZSm,ZQq,ofU,encU⟩
theorem ZDf (x:ZvJ):Zz0 x= .agg ((ZwB x).map U.encL):=by unfold Zz0 ZwB;rw[List.map_map];rfl
theorem uok:UOk U where
 of_cells:=fun n cs x h=>match n,x,h with
  |0,x,h=>ZER cs x h
  |1,x,h=>ZEj cs x h
  |2,x,h=>ZEy cs x h
  |3,x,h=>ZFi cs x h
  |4,x,h=>ZDK cs x h
  |5,x,h=>ZAH cs x h
  |6,x,h=>ZEi cs x h
  |7,x,h=>ZEQ cs x h
  |8,x,h=>ZCr cs x h
  |9,x,h=>ZB1 cs x h
  |10,x,h=>ZFL cs x h
  |11,x,h=>ZEz cs x h
  |12,x,h=>ZDr cs x h
  |13,x,h=>ZyJ cs x h
  |_+14,x,h=>by
   match cs,h with
   | [],h=>rfl
 enc_cells:=fun n x=>match n,x with
  |0,x=>rfl
  |1,x=>rfl
  |2,x=>rfl
  |3,x=>rfl
  |4,x=>rfl
  |5,x=>rfl
  |6,x=>rfl
  |7,x=>rfl
  |8,x=>rfl
  |9,x=>rfl
  |10,x=>rfl
  |11,x=>rfl
  |12,x=>ZDf x
  |13,x=>rfl
  |_+14,x=>rfl
 len:=fun n x=>match n,x with
  |0,x=>rfl
  |1,x=>rfl
  |2,x=>rfl
  |3,x=>rfl
  |4,x=>rfl
  |5,x=>rfl
  |6,x=>rfl
  |7,x=>rfl
  |8,x=>rfl
  |9,x=>rfl
  |10,x=>rfl
  |11,x=>rfl
  |12,x=>(List.length_map ..).trans x.2
  |13,x=>rfl
  |_+14,x=>rfl
noncomputable def tt0:List (Option (TT U)):=[
 none,
 some ⟨⟨.func,1,8,[.p .nilfn]⟩,none,.fnc,[.nilfn],some ⟨.fnc,(none:Option Nat)⟩⟩,
 some ⟨⟨.int .i64,1,8,[.p (.int .i64 0)]⟩,none,(.int .i64),[.v (.int .i64) (0:Int)],some ⟨(.int .i64),(0:Int)⟩⟩,
 some ⟨⟨.int .i64,1,8,[.p (.int .i64 0)]⟩,none,(.int .i64),[.v (.int .i64) (0:Int)],some ⟨(.int .i64),(0:Int)⟩⟩,
 some ⟨⟨.bool,1,1,[.p (.bool false)]⟩,none,.bool,[.v .bool false],some ⟨.bool,false⟩⟩,
 some ⟨⟨.int .u8,1,1,[.p (.int .u8 0)]⟩,none,(.int .u8),[.v (.int .u8) (0:Int)],some ⟨(.int .u8),(0:Int)⟩⟩,
 none,
 none,
 none,
 some ⟨⟨.str,1,16,[.p (.str [])]⟩,none,.str,[.v .str ([]:Str)],some ⟨.str,([]:Str)⟩⟩,
 none,
 none,
 some ⟨⟨.int .u64,1,8,[.p (.int .u64 0)]⟩,none,(.int .u64),[.v (.int .u64) (0:Int)],some ⟨(.int .u64),(0:Int)⟩⟩,
 none,
 none,
 none,
 none,
 none,
 none,
 none,
 none,
 none,
 some ⟨⟨.sl 3,1,24,[.nils 1]⟩,none,(.sl (.int .i64)),[.nils (.int .i64)],some ⟨(.sl (.int .i64)),[]⟩⟩,
 none,
 none,
 some ⟨⟨.ptr 68,1,8,[.p .nilp]⟩,none,.bool,[.nilp],none⟩,
 none,
 some ⟨⟨.sl 48,1,24,[.nils 2]⟩,none,(.sl (.st 1)),[.nils (.st 1)],some ⟨(.sl (.st 1)),[]⟩⟩,
 some ⟨⟨.struct [(0,3),(1,9),(2,27)],3,48,[.p (.int .i64 0),.p (.str []),.nils 2]⟩,some 2,(.st 2),[.v (.int .i64) (0:Int),.v .str ([]:Str),.nils (.st 1)],some ⟨(.st 2),(ZoF.mk 0 ([]:Str) ([]:(List ZoL)))⟩⟩,
 some ⟨⟨.struct [(0,3),(1,9),(2,27)],3,48,[.p (.int .i64 0),.p (.str []),.nils 2]⟩,some 2,(.st 2),[.v (.int .i64) (0:Int),.v .str ([]:Str),.nils (.st 1)],some ⟨(.st 2),(ZoF.mk 0 ([]:Str) ([]:(List ZoL)))⟩⟩,
 none,
 some ⟨⟨.sl 117,1,24,[.nils 1]⟩,none,(.sl (.int .u32)),[.nils (.int .u32)],some ⟨(.sl (.int .u32)),[]⟩⟩,
 some ⟨⟨.struct [(0,4),(1,31)],2,32,[.p (.bool false),.nils 1]⟩,some 3,(.st 3),[.v .bool false,.nils (.int .u32)],some ⟨(.st 3),(ZoN.mk false ([]:(List Int)))⟩⟩,
 some ⟨⟨.struct [(0,4),(1,31)],2,32,[.p (.bool false),.nils 1]⟩,some 3,(.st 3),[.v .bool false,.nils (.int .u32)],some ⟨(.st 3),(ZoN.mk false ([]:(List Int)))⟩⟩,
 some ⟨⟨.struct [(0,33),(2,33)],4,64,[.p (.bool false),.nils 1,.p (.bool false),.nils 1]⟩,some 4,(.st 4),[.v .bool false,.nils (.int .u32),.v .bool false,.nils (.int .u32)],some ⟨(.st 4),(ZoG.mk (ZoN.mk false ([]:(List Int))) (ZoN.mk false ([]:(List Int))))⟩⟩,
 some ⟨⟨.struct [(0,33),(2,33)],4,64,[.p (.bool false),.nils 1,.p (.bool false),.nils 1]⟩,some 4,(.st 4),[.v .bool false,.nils (.int .u32),.v .bool false,.nils (.int .u32)],some ⟨(.st 4),(ZoG.mk (ZoN.mk false ([]:(List Int))) (ZoN.mk false ([]:(List Int))))⟩⟩,
 some ⟨⟨.int .i64,1,8,[.p (.int .i64 0)]⟩,none,(.int .i64),[.v (.int .i64) (0:Int)],some ⟨(.int .i64),(0:Int)⟩⟩,
 none,
 none,
 none,
 none,
 none,
 none,
 none,
 none,
 none,
 some ⟨⟨.sl 50,1,24,[.nils 2]⟩,none,(.sl (.st 0)),[.nils (.st 0)],some ⟨(.sl (.st 0)),[]⟩⟩,
 some ⟨⟨.struct [(0,9),(1,46)],2,40,[.p (.str []),.nils 2]⟩,some 1,(.st 1),[.v .str ([]:Str),.nils (.st 0)],some ⟨(.st 1),(ZoL.mk ([]:Str) ([]:(List ZoR)))⟩⟩,
 some ⟨⟨.struct [(0,9),(1,46)],2,40,[.p (.str []),.nils 2]⟩,some 1,(.st 1),[.v .str ([]:Str),.nils (.st 0)],some ⟨(.st 1),(ZoL.mk ([]:Str) ([]:(List ZoR)))⟩⟩,
 some ⟨⟨.struct [(0,4),(1,9)],2,24,[.p (.bool false),.p (.str [])]⟩,some 0,(.st 0),[.v .bool false,.v .str ([]:Str)],some ⟨(.st 0),(ZoR.mk false ([]:Str))⟩⟩,
 some ⟨⟨.struct [(0,4),(1,9)],2,24,[.p (.bool false),.p (.str [])]⟩,some 0,(.st 0),[.v .bool false,.v .str ([]:Str)],some ⟨(.st 0),(ZoR.mk false ([]:Str))⟩⟩,
 none,
 some ⟨⟨.sl 9,1,24,[.nils 1]⟩,none,(.sl .str),[.nils .str],some ⟨(.sl .str),[]⟩⟩,
 none,
 none,
 some ⟨⟨.sl 60,1,24,[.nils 6]⟩,none,(.sl (.st 11)),[.nils (.st 11)],some ⟨(.sl (.st 11)),[]⟩⟩,
 none,
 none,
 some ⟨⟨.sl 29,1,24,[.nils 3]⟩,none,(.sl (.st 2)),[.nils (.st 2)],some ⟨(.sl (.st 2)),[]⟩⟩,
 some ⟨⟨.struct [(0,3),(1,22),(2,35)],6,96,[.p (.int .i64 0),.nils 1,.p (.bool false),.nils 1,.p (.bool false),.nils 1]⟩,some 11,(.st 11),[.v (.int .i64) (0:Int),.nils (.int .i64),.v .bool false,.nils (.int .u32),.v .bool false,.nils (.int .u32)],some ⟨(.st 11),(Zo0.mk 0 ([]:(List Int)) (ZoG.mk (ZoN.mk false ([]:(List Int))) (ZoN.mk false ([]:(List Int)))))⟩⟩,
 some ⟨⟨.struct [(0,3),(1,22),(2,35)],6,96,[.p (.int .i64 0),.nils 1,.p (.bool false),.nils 1,.p (.bool false),.nils 1]⟩,some 11,(.st 11),[.v (.int .i64) (0:Int),.nils (.int .i64),.v .bool false,.nils (.int .u32),.v .bool false,.nils (.int .u32)],some ⟨(.st 11),(Zo0.mk 0 ([]:(List Int)) (ZoG.mk (ZoN.mk false ([]:(List Int))) (ZoN.mk false ([]:(List Int)))))⟩⟩,
 none,
 none,
 none,
 none,
 none,
 none,
 some ⟨⟨.struct [(0,22),(1,3)],2,32,[.nils 1,.p (.int .i64 0)]⟩,some 9,(.st 9),[.nils (.int .i64),.v (.int .i64) (0:Int)],some ⟨(.st 9),(ZoH.mk ([]:(List Int)) 0)⟩⟩,
 some ⟨⟨.struct [(0,22),(1,3)],2,32,[.nils 1,.p (.int .i64 0)]⟩,some 9,(.st 9),[.nils (.int .i64),.v (.int .i64) (0:Int)],some ⟨(.st 9),(ZoH.mk ([]:(List Int)) 0)⟩⟩,
 none,
 some ⟨⟨.func,1,8,[.p .nilfn]⟩,none,.fnc,[.nilfn],some ⟨.fnc,(none:Option Nat)⟩⟩,
 some ⟨⟨.sl 72,1,24,[.nils 1]⟩,none,(.sl (.sl (.st 4))),[.nils (.sl (.st 4))],some ⟨(.sl (.sl (.st 4))),[]⟩⟩,
 some ⟨⟨.sl 35,1,24,[.nils 4]⟩,none,(.sl (.st 4)),[.nils (.st 4)],some ⟨(.sl (.st 4)),[]⟩⟩,
 none,
 none,
 none,
 none,
 none,
 none,
 none,
 none,
 none,
 none,
 none,
 some ⟨⟨.func,1,8,[.p .nilfn]⟩,none,.fnc,[.nilfn],some ⟨.fnc,(none:Option Nat)⟩⟩,
 none,
 none,
 none,
 none,
 none,
 none,
 none,
 some ⟨⟨.func,1,8,[.p .nilfn]⟩,none,.fnc,[.nilfn],some ⟨.fnc,(none:Option Nat)⟩⟩,
 some ⟨⟨.func,1,8,[.p .nilfn]⟩,none,.fnc,[.nilfn],some ⟨.fnc,(none:Option Nat)⟩⟩,
 none,
 none,
 none,
 none,
 some ⟨⟨.ptr 101,1,8,[.p .nilp]⟩,none,.bool,[.nilp],none⟩,
 some ⟨⟨.map 132 35,1,8,[.p (.map (.arr 2 0) [])]⟩,none,(.map (.st 7) (.st 4)),[.v (.map (.st 7) (.st 4)) []],some ⟨(.map (.st 7) (.st 4)),[]⟩⟩,
 some ⟨⟨.struct [(0,71),(1,99)],2,32,[.nils 1,.p (.map (.arr 2 0) [])]⟩,some 8,(.st 8),[.nils (.sl (.st 4)),.v (.map (.st 7) (.st 4)) []],some ⟨(.st 8),(ZqW.mk ([]:(List (List ZoG))) ([]:(List (ZoU×ZoG))))⟩⟩,
 some ⟨⟨.struct [(0,71),(1,99)],2,32,[.nils 1,.p (.map (.arr 2 0) [])]⟩,some 8,(.st 8),[.nils (.sl (.st 4)),.v (.map (.st 7) (.st 4)) []],some ⟨(.st 8),(ZqW.mk ([]:(List (List ZoG))) ([]:(List (ZoU×ZoG))))⟩⟩,
 none,
 none,
 none,
 none,
 none,
 none,
 none,
 none,
 none,
 none,
 some ⟨⟨.int .u64,1,8,[.p (.int .u64 0)]⟩,none,(.int .u64),[.v (.int .u64) (0:Int)],some ⟨(.int .u64),(0:Int)⟩⟩,
 none,
 none,
 none,
 none,
 some ⟨⟨.int .u32,1,4,[.p (.int .u32 0)]⟩,none,(.int .u32),[.v (.int .u32) (0:Int)],some ⟨(.int .u32),(0:Int)⟩⟩,
 none,
 none,
 none,
 none,
 none,
 some ⟨⟨.struct [(0,3),(1,3),(2,9),(3,22)],4,56,[.p (.int .i64 0),.p (.int .i64 0),.p (.str []),.nils 1]⟩,some 10,(.st 10),[.v (.int .i64) (0:Int),.v (.int .i64) (0:Int),.v .str ([]:Str),.nils (.int .i64)],some ⟨(.st 10),(ZoY.mk 0 0 ([]:Str) ([]:(List Int)))⟩⟩,
 some ⟨⟨.struct [(0,3),(1,3),(2,9),(3,22)],4,56,[.p (.int .i64 0),.p (.int .i64 0),.p (.str []),.nils 1]⟩,some 10,(.st 10),[.v (.int .i64) (0:Int),.v (.int .i64) (0:Int),.v .str ([]:Str),.nils (.int .i64)],some ⟨(.st 10),(ZoY.mk 0 0 ([]:Str) ([]:(List Int)))⟩⟩,
 none,
 some ⟨⟨.sl 124,1,24,[.nils 4]⟩,none,(.sl (.st 10)),[.nils (.st 10)],some ⟨(.sl (.st 10)),[]⟩⟩,
 none,
 none,
 none,
 none,
 none,
 some ⟨⟨.arr 2 3,2,16,[.p (.int .i64 0),.p (.int .i64 0)]⟩,some 7,(.st 7),[.v (.int .i64) (0:Int),.v (.int .i64) (0:Int)],some ⟨(.st 7),(ZoU.mk 0 0)⟩⟩,
 some ⟨⟨.func,1,8,[.p .nilfn]⟩,none,.fnc,[.nilfn],some ⟨.fnc,(none:Option Nat)⟩⟩,
 some ⟨⟨.func,1,8,[.p .nilfn]⟩,none,.fnc,[.nilfn],some ⟨.fnc,(none:Option Nat)⟩⟩,
 none,
 none,
 none,
 none,
 some ⟨⟨.int .u64,1,8,[.p (.int .u64 0)]⟩,none,(.int .u64),[.v (.int .u64) (0:Int)],some ⟨(.int .u64),(0:Int)⟩⟩,
 none,
 none,
 none,
 none,
 none,
 none,
 none,
 none,
 none,
 none,
 none,
 none,
 none,
 none,
 none,
 none,
 none,
 none,
 none,
 none,
 some ⟨⟨.sl 5,1,24,[.nils 1]⟩,none,(.sl (.int .u8)),[.nils (.int .u8)],some ⟨(.sl (.int .u8)),[]⟩⟩,
 none,
 none,
 none,
 none,
 none,
 none,
 none,
 none,
 none,
 none,
 none,
 none,
 none,
 none,
 some ⟨⟨.sl 117,1,24,[.nils 1]⟩,none,(.sl (.int .u32)),[.nils (.int .u32)],some ⟨(.sl (.int .u32)),[]⟩⟩,
 none,
 none,
 none,
 none,
 none,
 none,
 none,
 some ⟨⟨.int .i64,1,8,[.p (.int .i64 0)]⟩,none,(.int .i64),[.v (.int .i64) (0:Int)],some ⟨(.int .i64),(0:Int)⟩⟩,
 none,
 none,
 none,
 none,
 none,
 none,
 none,
 none,
 none,
 none,
 none,
 none,
 none,
 none,
 none,
 some ⟨⟨.arr 256 5,256,256,[.p (.int .u8 0),.p (.int .u8 0),.p (.int .u8 0),.p (.int .u8 0),.p (.int .u8 0),.p (.int .u8 0),.p (.int .u8 0),.p (.int .u8 0),.p (.int .u8 0),.p (.int .u8 0),.p (.int .u8 0),.p (.int .u8 0),.p (.int .u8 0),.p (.int .u8 0),.p (.int .u8 0),.p (.int .u8 0),.p (.int .u8 0),.p (.int .u8 0),.p (.int .u8 0),.p (.int .u8 0),.p (.int .u8 0),.p (.int .u8 0),.p (.int .u8 0),.p (.int .u8 0),.p (.int .u8 0),.p (.int .u8 0),.p (.int .u8 0),.p (.int .u8 0),.p (.int .u8 0),.p (.int .u8 0),.p (.int .u8 0),.p (.int .u8 0),.p (.int .u8 0),.p (.int .u8 0),.p (.int .u8 0),.p (.int .u8 0),.p (.int .u8 0),.p (.int .u8 0),.p (.int .u8 0),.p (.int .u8 0),.p (.int .u8 0),.p (.int .u8 0),.p (.int .u8 0),.p (.int .u8 0),.p (.int .u8 0),.p (.int .u8 0),.p (.int .u8 0),.p (.int .u8 0),.p (.int .u8 0),.p (.int .u8 0),.p (.int .u8 0),.p (.int .u8 0),.p (.int .u8 0),.p (.int .u8 0),.p (.int .u8 0),.p (.int .u8 0),.p (.int .u8 0),.p (.int .u8 0),.p (.int .u8 0),.p (.int .u8 0),.p (.int .u8 0),.p (.int .u8 0),.p (.int .u8 0),.p (.int .u8 0),.p (.int .u8 0),.p (.int .u8 0),.p (.int .u8 0),.p (.int .u8 0),.p (.int .u8 0),.p (.int .u8 0),.p (.int .u8 0),.p (.int .u8 0),.p (.int .u8 0),.p (.int .u8 0),.p (.int .u8 0),.p (.int .u8 0),.p (.int .u8 0),.p (.int .u8 0),.p (.int .u8 0),.p (.int .u8 0),.p (.int .u8 0),.p (.int .u8 0),.p (.int .u8 0),.p (.int .u8 0),.p (.int .u8 0),.p (.int .u8 0),.p (.int .u8 0),.p (.int .u8 0),.p (.int .u8 0),.p (.int .u8 0),.p (.int .u8 0),.p (.int .u8 0),.p (.int .u8 0),.p (.int .u8 0),.p (.int .u8 0),.p (.int .u8 0),.p (.int .u8 0),.p (.int .u8 0),.p (.int .u8 0),.p (.int .u8 0),.p (.int .u8 0),.p (.int .u8 0),.p (.int .u8 0),.p (.int .u8 0),.p (.int .u8 0),.p (.int .u8 0),.p (.int .u8 0),.p (.int .u8 0),.p (.int .u8 0),.p (.int .u8 0),.p (.int .u8 0),.p (.int .u8 0),.p (.int .u8 0),.p (.int .u8 0),.p (.int .u8 0),.p (.int .u8 0),.p (.int .u8 0),.p (.int .u8 0),.p (.int .u8 0),.p (.int .u8 0),.p (.int .u8 0),.p (.int .u8 0),.p (.int .u8 0),.p (.int .u8 0),.p (.int .u8 0),.p (.int .u8 0),.p (.int .u8 0),.p (.int .u8 0),.p (.int .u8 0),.p (.int .u8 0),.p (.int .u8 0),.p (.int .u8 0),.p (.int .u8 0),.p (.int .u8 0),.p (.int .u8 0),.p (.int .u8 0),.p (.int .u8 0),.p (.int .u8 0),.p (.int .u8 0),.p (.int .u8 0),.p (.int .u8 0),.p (.int .u8 0),.p (.int .u8 0),.p (.int .u8 0),.p (.int .u8 0),.p (.int .u8 0),.p (.int .u8 0),.p (.int .u8 0),.p (.int .u8 0),.p (.int .u8 0),.p (.int .u8 0),.p (.int .u8 0),.p (.int .u8 0),.p (.int .u8 0),.p (.int .u8 0),.p (.int .u8 0),.p (.int .u8 0),.p (.int .u8 0),.p (.int .u8 0),.p (.int .u8 0),.p (.int .u8 0),.p (.int .u8 0),.p (.int .u8 0),.p (.int .u8 0),.p (.int .u8 0),.p (.int .u8 0),.p (.int .u8 0),.p (.int .u8 0),.p (.int .u8 0),.p (.int .u8 0),.p (.int .u8 0),.p (.int .u8 0),.p (.int .u8 0),.p (.int .u8 0),.p (.int .u8 0),.p (.int .u8 0),.p (.int .u8 0),.p (.int .u8 0),.p (.int .u8 0),.p (.int .u8 0),.p (.int .u8 0),.p (.int .u8 0),.p (.int .u8 0),.p (.int .u8 0),.p (.int .u8 0),.p (.int .u8 0),.p (.int .u8 0),.p (.int .u8 0),.p (.int .u8 0),.p (.int .u8 0),.p (.int .u8 0),.p (.int .u8 0),.p (.int .u8 0),.p (.int .u8 0),.p (.int .u8 0),.p (.int .u8 0),.p (.int .u8 0),.p (.int .u8 0),.p (.int .u8 0),.p (.int .u8 0),.p (.int .u8 0),.p (.int .u8 0),.p (.int .u8 0),.p (.int .u8 0),.p (.int .u8 0),.p (.int .u8 0),.p (.int .u8 0),.p (.int .u8 0),.p (.int .u8 0),.p (.int .u8 0),.p (.int .u8 0),.p (.int .u8 0),.p (.int .u8 0),.p (.int .u8 0),.p (.int .u8 0),.p (.int .u8 0),.p (.int .u8 0),.p (.int .u8 0),.p (.int .u8 0),.p (.int .u8 0),.p (.int .u8 0),.p (.int .u8 0),.p (.int .u8 0),.p (.int .u8 0),.p (.int .u8 0),.p (.int .u8 0),.p (.int .u8 0),.p (.int .u8 0),.p (.int .u8 0),.p (.int .u8 0),.p (.int .u8 0),.p (.int .u8 0),.p (.int .u8 0),.p (.int .u8 0),.p (.int .u8 0),.p (.int .u8 0),.p (.int .u8 0),.p (.int .u8 0),.p (.int .u8 0),.p (.int .u8 0),.p (.int .u8 0),.p (.int .u8 0),.p (.int .u8 0),.p (.int .u8 0),.p (.int .u8 0),.p (.int .u8 0),.p (.int .u8 0),.p (.int .u8 0),.p (.int .u8 0),.p (.int .u8 0),.p (.int .u8 0),.p (.int .u8 0),.p (.int .u8 0),.p (.int .u8 0),.p (.int .u8 0),.p (.int .u8 0)]⟩,some 12,(.st 12),List.replicate 256 (.v (.int .u8) (0:Int)),some ⟨(.st 12),(⟨List.replicate 256 (0:Int),List.length_replicate⟩:ZvJ)⟩⟩,
 some ⟨⟨.struct [(0,5),(1,5)],2,2,[.p (.int .u8 0),.p (.int .u8 0)]⟩,some 5,(.st 5),[.v (.int .u8) (0:Int),.v (.int .u8) (0:Int)],some ⟨(.st 5),(ZoI.mk 0 0)⟩⟩,
 some ⟨⟨.struct [(0,5),(1,5)],2,2,[.p (.int .u8 0),.p (.int .u8 0)]⟩,some 5,(.st 5),[.v (.int .u8) (0:Int),.v (.int .u8) (0:Int)],some ⟨(.st 5),(ZoI.mk 0 0)⟩⟩,
 some ⟨⟨.arr 16 201,32,32,[.p (.int .u8 0),.p (.int .u8 0),.p (.int .u8 0),.p (.int .u8 0),.p (.int .u8 0),.p (.int .u8 0),.p (.int .u8 0),.p (.int .u8 0),.p (.int .u8 0),.p (.int .u8 0),.p (.int .u8 0),.p (.int .u8 0),.p (.int .u8 0),.p (.int .u8 0),.p (.int .u8 0),.p (.int .u8 0),.p (.int .u8 0),.p (.int .u8 0),.p (.int .u8 0),.p (.int .u8 0),.p (.int .u8 0),.p (.int .u8 0),.p (.int .u8 0),.p (.int .u8 0),.p (.int .u8 0),.p (.int .u8 0),.p (.int .u8 0),.p (.int .u8 0),.p (.int .u8 0),.p (.int .u8 0),.p (.int .u8 0),.p (.int .u8 0)]⟩,some 13,(.st 13),[.v (.int .u8) (0:Int),.v (.int .u8) (0:Int),.v (.int .u8) (0:Int),.v (.int .u8) (0:Int),.v (.int .u8) (0:Int),.v (.int .u8) (0:Int),.v (.int .u8) (0:Int),.v (.int .u8) (0:Int),.v (.int .u8) (0:Int),.v (.int .u8) (0:Int),.v (.int .u8) (0:Int),.v (.int .u8) (0:Int),.v (.int .u8) (0:Int),.v (.int .u8) (0:Int),.v (.int .u8) (0:Int),.v (.int .u8) (0:Int),.v (.int .u8) (0:Int),.v (.int .u8) (0:Int),.v (.int .u8) (0:Int),.v (.int .u8) (0:Int),.v (.int .u8) (0:Int),.v (.int .u8) (0:Int),.v (.int .u8) (0:Int),.v (.int .u8) (0:Int),.v (.int .u8) (0:Int),.v (.int .u8) (0:Int),.v (.int .u8) (0:Int),.v (.int .u8) (0:Int),.v (.int .u8) (0:Int),.v (.int .u8) (0:Int),.v (.int .u8) (0:Int),.v (.int .u8) (0:Int)],some ⟨(.st 13),(Zpb.mk (ZoI.mk 0 0) (ZoI.mk 0 0) (ZoI.mk 0 0) (ZoI.mk 0 0) (ZoI.mk 0 0) (ZoI.mk 0 0) (ZoI.mk 0 0) (ZoI.mk 0 0) (ZoI.mk 0 0) (ZoI.mk 0 0) (ZoI.mk 0 0) (ZoI.mk 0 0) (ZoI.mk 0 0) (ZoI.mk 0 0) (ZoI.mk 0 0) (ZoI.mk 0 0))⟩⟩,
 none,
 none,
 none,
 none,
 none,
 none,
 some ⟨⟨.func,1,8,[.p .nilfn]⟩,none,.fnc,[.nilfn],some ⟨.fnc,(none:Option Nat)⟩⟩,
 some ⟨⟨.func,1,8,[.p .nilfn]⟩,none,.fnc,[.nilfn],some ⟨.fnc,(none:Option Nat)⟩⟩,
 some ⟨⟨.struct [(0,9),(1,209),(2,210)],3,32,[.p (.str []),.p .nilfn,.p .nilfn]⟩,some 6,(.st 6),[.v .str ([]:Str),.nilfn,.nilfn],some ⟨(.st 6),(ZpS.mk ([]:Str) (none:Option Nat) (none:Option Nat))⟩⟩,
 some ⟨⟨.struct [(0,9),(1,209),(2,210)],3,32,[.p (.str []),.p .nilfn,.p .nilfn]⟩,some 6,(.st 6),[.v .str ([]:Str),.nilfn,.nilfn],some ⟨(.st 6),(ZpS.mk ([]:Str) (none:Option Nat) (none:Option Nat))⟩⟩,
 some ⟨⟨.map 3 212,1,8,[.p (.map (.int .i64) [])]⟩,none,(.map (.int .i64) (.st 6)),[.v (.map (.int .i64) (.st 6)) []],some ⟨(.map (.int .i64) (.st 6)),[]⟩⟩,
 none,
 some ⟨⟨.sl 33,1,24,[.nils 2]⟩,none,(.sl (.st 3)),[.nils (.st 3)],some ⟨(.sl (.st 3)),[]⟩⟩,
 none,
 none,
 none,
 none,
 none,
 none,
 none,
 some ⟨⟨.int .u64,1,8,[.p (.int .u64 0)]⟩,none,(.int .u64),[.v (.int .u64) (0:Int)],some ⟨(.int .u64),(0:Int)⟩⟩,
 none,
 none,
 none,
 some ⟨⟨.ptr 3,1,8,[.p .nilp]⟩,none,.bool,[.nilp],none⟩,
 none,
 none,
 none,
 none,
 none,
 none,
 none,
 none,
 none,
 none,
 none,
 none,
 none,
 none,
 none,
 none,
 none,
 none,
 none,
 none,
 none,
 none,
 none,
 some ⟨⟨.ptr 223,1,8,[.p .nilp]⟩,none,.bool,[.nilp],none⟩,
 none,
 none,
 none,
 none,
 none,
 none,
 none,
 none,
 none,
 none,
 none,
 none,
 none,
 none,
 none,
 none,
 none,
 none,
 none,
 none,
 none,
 none,
 none,
 none,
 none,
 none,
 none,
 none,
 none,
 none,
 none,
 none,
 none,
 none,
 none,
 none,
 none,
 none,
 none,
 none,
 none,
 none,
 none,
 none,
 none,
 none,
 none,
 none,
 none,
 none,
 none,
 none,
 none,
 none,
 none,
 none,
 none,
 none,
 none,
 none,
 none,
 none,
 none,
 none,
 none,
 none,
 none,
 none,
 none,
 none,
 none,
 none]
noncomputable def X0:ZG U:=⟨Tryz.prog,tt0,[(0,ZEC),(1,ZAC),(2,Ztq),(3,ZAa)],0,[⟨999999,1,1,(.st 0)⟩],[7],ZFN⟩
theorem tok0:TOk X0:=tok_of (by kernel_rfl) (by kernel_rfl) (by kernel_rfl) (own1 (by decide) (fun x=>x.Cells) (fun _=>rfl) own0) (key1 (fun x=>x.e0) (fun x=>x.e1) (fun _=>rfl) (fun _ _=>rfl) key0)
theorem eok0:Zl X0.E:=⟨by kernel_rfl⟩
theorem mixed:X0.prog.follows .mixedOrders=true:=by kernel_rfl
theorem G0:Gnd X0:=⟨uok,tok0,eok0,mixed⟩
noncomputable def ZCe:ZkU U:=⟨(List Str),[48],[.p],[some 1],[.p (.st 1)],fun v=>Zuw v.1,fun q=>⟨[.p ⟨(.sl .str),q⟩],[]⟩⟩
noncomputable def ZBz:ZkU U:=⟨(List Str),[9],[.p],[none],[.p .str],fun v=>ZsI v.1,fun q=>⟨[.p ⟨(.sl .str),q⟩],[]⟩⟩
noncomputable def ZBs:ZkU U:=⟨Str,[9,9],[.p,.p],[none,none],[.p .str,.p .str],fun v=>ZzP v.1 v.2.1,fun q=>⟨[.p ⟨.str,q⟩],[]⟩⟩
noncomputable def Zv2:ZkU U:=⟨Int,[9,5],[.p,.p],[none,none],[.p .str,.p (.int .u8)],fun v=>ZqJ v.1 v.2.1,fun q=>⟨[.p ⟨(.int .i64),q⟩],[]⟩⟩
noncomputable def ZBy:ZkU U:=⟨Str,[9,9],[.p,.p],[none,none],[.p .str,.p .str],fun v=>ZyD v.1 v.2.1,fun q=>⟨[.p ⟨.str,q⟩],[]⟩⟩
noncomputable def ZBe:ZkU U:=⟨Str,[9,9],[.p,.p],[none,none],[.p .str,.p .str],fun v=>ZzX v.1 v.2.1,fun q=>⟨[.p ⟨.str,q⟩],[]⟩⟩
noncomputable def ZBt:ZkU U:=⟨Str,[3],[.p],[none],[.p (.int .i64)],fun v=>Zx2 v.1,fun q=>⟨[.p ⟨.str,q⟩],[]⟩⟩
end Go.Proofs
