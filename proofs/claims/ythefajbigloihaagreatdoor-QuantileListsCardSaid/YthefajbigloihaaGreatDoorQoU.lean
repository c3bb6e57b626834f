/- Printed by wip/tools/tgen.py: tables. -/
import Derived.Test.YthefajbigloihaaGreatDoorQoS
import Derived.Test.YthefajbigloihaaGreatDoorProg
import Derived.KernelRfl
set_option linter.unusedVariables false
set_option linter.unusedSimpArgs false
set_option linter.unusedSectionVars false
namespace Go.Proofs
open Go Eng
set_option maxRecDepth 100000
def ZC6 (x:ZnK):List (Lf Zz5):=[⟨.bool,x.Neg⟩,⟨(.sl (.int .u32)),x.Words⟩]
def ZCU:List (Lf Zz5)→Option ZnK
 | [c0,c1]=>(c0.as .bool).bind fun a0=>(c1.as (.sl (.int .u32))).bind fun a1=>some (ZnK.mk a0 a1)
 |_=>none
theorem ZEa (cs:List (Lf Zz5)) (x:ZnK) (h:ZCU cs=some x):ZC6 x=cs:=by unfold ZCU at h;split at h;rotate_left;simp at h;obtain⟨a0,h0,h⟩:=bind_some h;obtain⟨a1,h1,h⟩:=bind_some h;simp only[Option.some.injEq]at h;subst h;rw[as_car h0,as_car h1];rfl
def ZEZ (x:ZnK):P:= .agg [.bool x.Neg,.sl 1 (x.Words.map (fun x=> .int .u32 x))]
def ZBr (x:ZnC):List (Lf Zz5):=[⟨.bool,x.Num.Neg⟩,⟨(.sl (.int .u32)),x.Num.Words⟩,⟨.bool,x.Den.Neg⟩,⟨(.sl (.int .u32)),x.Den.Words⟩]
def ZAO:List (Lf Zz5)→Option ZnC
 | [c0,c1,c2,c3]=>(c0.as .bool).bind fun a0=>(c1.as (.sl (.int .u32))).bind fun a1=>(c2.as .bool).bind fun a2=>(c3.as (.sl (.int .u32))).bind fun a3=>some (ZnC.mk (ZnK.mk a0 a1) (ZnK.mk a2 a3))
 |_=>none
theorem ZDe (cs:List (Lf Zz5)) (x:ZnC) (h:ZAO cs=some x):ZBr x=cs:=by unfold ZAO at h;split at h;rotate_left;simp at h;obtain⟨a0,h0,h⟩:=bind_some h;obtain⟨a1,h1,h⟩:=bind_some h;obtain⟨a2,h2,h⟩:=bind_some h;obtain⟨a3,h3,h⟩:=bind_some h;simp only[Option.some.injEq]at h;subst h;rw[as_car h0,as_car h1,as_car h2,as_car h3];rfl
def ZDy (x:ZnC):P:= .agg [.bool x.Num.Neg,.sl 1 (x.Num.Words.map (fun x=> .int .u32 x)),.bool x.Den.Neg,.sl 1 (x.Den.Words.map (fun x=> .int .u32 x))]
def ZCF (x:ZnQ):List (Lf Zz5):=[⟨.bool,x.Null⟩,⟨.str,x.Text⟩]
def ZCy:List (Lf Zz5)→Option ZnQ
 | [c0,c1]=>(c0.as .bool).bind fun a0=>(c1.as .str).bind fun a1=>some (ZnQ.mk a0 a1)
 |_=>none
theorem ZDR (cs:List (Lf Zz5)) (x:ZnQ) (h:ZCy cs=some x):ZCF x=cs:=by unfold ZCy at h;split at h;rotate_left;simp at h;obtain⟨a0,h0,h⟩:=bind_some h;obtain⟨a1,h1,h⟩:=bind_some h;simp only[Option.some.injEq]at h;subst h;rw[as_car h0,as_car h1];rfl
def ZDf (x:ZnQ):P:= .agg [.bool x.Null,.str x.Text]
def ZCa (x:ZnO):List (Lf Zz5):=[⟨.str,x.Name⟩,⟨(.sl (.st 2)),x.Cells⟩]
def ZBY:List (Lf Zz5)→Option ZnO
 | [c0,c1]=>(c0.as .str).bind fun a0=>(c1.as (.sl (.st 2))).bind fun a1=>some (ZnO.mk a0 a1)
 |_=>none
theorem ZDw (cs:List (Lf Zz5)) (x:ZnO) (h:ZBY cs=some x):ZCa x=cs:=by unfold ZBY at h;split at h;rotate_left;simp at h;obtain⟨a0,h0,h⟩:=bind_some h;obtain⟨a1,h1,h⟩:=bind_some h;simp only[Option.some.injEq]at h;subst h;rw[as_car h0,as_car h1];rfl
def ZCE (x:ZnO):P:= .agg [.str x.Name,.sl 2 (x.Cells.map ZDf)]
def ZB9 (x:ZpR):List (Lf Zz5):=[⟨.str,x.word⟩,⟨.fnc,x.canonical⟩,⟨.fnc,x.value⟩]
def ZBW:List (Lf Zz5)→Option ZpR
 | [c0,c1,c2]=>(c0.as .str).bind fun a0=>(c1.as .fnc).bind fun a1=>(c2.as .fnc).bind fun a2=>some (ZpR.mk a0 a1 a2)
 |_=>none
theorem ZDv (cs:List (Lf Zz5)) (x:ZpR) (h:ZBW cs=some x):ZB9 x=cs:=by unfold ZBW at h;split at h;rotate_left;simp at h;obtain⟨a0,h0,h⟩:=bind_some h;obtain⟨a1,h1,h⟩:=bind_some h;obtain⟨a2,h2,h⟩:=bind_some h;simp only[Option.some.injEq]at h;subst h;rw[as_car h0,as_car h1,as_car h2];rfl
def ZDS (x:ZpR):P:= .agg [.str x.word,ZjM x.canonical,ZjM x.value]
def Zzn (x:ZnA):List (Lf Zz5):=[⟨(.sl (.int .i64)),x.l⟩,⟨(.int .i64),x.at_⟩]
def ZxR:List (Lf Zz5)→Option ZnA
 | [c0,c1]=>(c0.as (.sl (.int .i64))).bind fun a0=>(c1.as (.int .i64)).bind fun a1=>some (ZnA.mk a0 a1)
 |_=>none
theorem ZBX (cs:List (Lf Zz5)) (x:ZnA) (h:ZxR cs=some x):Zzn x=cs:=by unfold ZxR at h;split at h;rotate_left;simp at h;obtain⟨a0,h0,h⟩:=bind_some h;obtain⟨a1,h1,h⟩:=bind_some h;simp only[Option.some.injEq]at h;subst h;rw[as_car h0,as_car h1];rfl
def ZCh (x:ZnA):P:= .agg [.sl 1 (x.l.map (fun x=> .int .i64 x)),.int .i64 x.at_]
def ZCo (x:ZnB):List (Lf Zz5):=[⟨(.int .i64),x.ID⟩,⟨.str,x.Name⟩,⟨(.sl (.st 3)),x.Columns⟩]
def ZCg:List (Lf Zz5)→Option ZnB
 | [c0,c1,c2]=>(c0.as (.int .i64)).bind fun a0=>(c1.as .str).bind fun a1=>(c2.as (.sl (.st 3))).bind fun a2=>some (ZnB.mk a0 a1 a2)
 |_=>none
theorem ZDF (cs:List (Lf Zz5)) (x:ZnB) (h:ZCg cs=some x):ZCo x=cs:=by unfold ZCg at h;split at h;rotate_left;simp at h;obtain⟨a0,h0,h⟩:=bind_some h;obtain⟨a1,h1,h⟩:=bind_some h;obtain⟨a2,h2,h⟩:=bind_some h;simp only[Option.some.injEq]at h;subst h;rw[as_car h0,as_car h1,as_car h2];rfl
def ZEi (x:ZnB):P:= .agg [.int .i64 x.ID,.str x.Name,.sl 2 (x.Columns.map ZCE)]
def ZDg (x:ZnP):List (Lf Zz5):=[⟨(.int .i64),x.Kind⟩,⟨(.int .i64),x.Column⟩,⟨.str,x.Text⟩,⟨(.sl (.int .i64)),x.Columns⟩]
def ZDj:List (Lf Zz5)→Option ZnP
 | [c0,c1,c2,c3]=>(c0.as (.int .i64)).bind fun a0=>(c1.as (.int .i64)).bind fun a1=>(c2.as .str).bind fun a2=>(c3.as (.sl (.int .i64))).bind fun a3=>some (ZnP.mk a0 a1 a2 a3)
 |_=>none
theorem ZEq (cs:List (Lf Zz5)) (x:ZnP) (h:ZDj cs=some x):ZDg x=cs:=by unfold ZDj at h;split at h;rotate_left;simp at h;obtain⟨a0,h0,h⟩:=bind_some h;obtain⟨a1,h1,h⟩:=bind_some h;obtain⟨a2,h2,h⟩:=bind_some h;obtain⟨a3,h3,h⟩:=bind_some h;simp only[Option.some.injEq]at h;subst h;rw[as_car h0,as_car h1,as_car h2,as_car h3];rfl
def ZFp (x:ZnP):P:= .agg [.int .i64 x.Kind,.int .i64 x.Column,.str x.Text,.sl 1 (x.Columns.map (fun x=> .int .i64 x))]
def Zxn (x:ZnF):List (Lf Zz5):=[⟨(.int .u8),x.lo⟩,⟨(.int .u8),x.hi⟩]
def Zvn:List (Lf Zz5)→Option ZnF
 | [c0,c1]=>(c0.as (.int .u8)).bind fun a0=>(c1.as (.int .u8)).bind fun a1=>some (ZnF.mk a0 a1)
 |_=>none
theorem ZAz (cs:List (Lf Zz5)) (x:ZnF) (h:Zvn cs=some x):Zxn x=cs:=by unfold Zvn at h;split at h;rotate_left;simp at h;obtain⟨a0,h0,h⟩:=bind_some h;obtain⟨a1,h1,h⟩:=bind_some h;simp only[Option.some.injEq]at h;subst h;rw[as_car h0,as_car h1];rfl
def ZBa (x:ZnF):P:= .agg [.int .u8 x.lo,.int .u8 x.hi]
def ZC4 (x:ZqW):List (Lf Zz5):=[⟨(.int .i64),x.Table⟩,⟨(.int .i64),x.Column⟩]
def ZCS:List (Lf Zz5)→Option ZqW
 | [c0,c1]=>(c0.as (.int .i64)).bind fun a0=>(c1.as (.int .i64)).bind fun a1=>some (ZqW.mk a0 a1)
 |_=>none
theorem ZD8 (cs:List (Lf Zz5)) (x:ZqW) (h:ZCS cs=some x):ZC4 x=cs:=by unfold ZCS at h;split at h;rotate_left;simp at h;obtain⟨a0,h0,h⟩:=bind_some h;obtain⟨a1,h1,h⟩:=bind_some h;simp only[Option.some.injEq]at h;subst h;rw[as_car h0,as_car h1];rfl
def ZEX (x:ZqW):P:= .agg [.int .i64 x.Table,.int .i64 x.Column]
def ZC5 (x:Zpm):List (Lf Zz5):=[⟨(.int .i64),x.Ref.Table⟩,⟨(.int .i64),x.Ref.Column⟩,⟨.bool,x.Score.Num.Neg⟩,⟨(.sl (.int .u32)),x.Score.Num.Words⟩,⟨.bool,x.Score.Den.Neg⟩,⟨(.sl (.int .u32)),x.Score.Den.Words⟩]
def ZCT:List (Lf Zz5)→Option Zpm
 | [c0,c1,c2,c3,c4,c5]=>(c0.as (.int .i64)).bind fun a0=>(c1.as (.int .i64)).bind fun a1=>(c2.as .bool).bind fun a2=>(c3.as (.sl (.int .u32))).bind fun a3=>(c4.as .bool).bind fun a4=>(c5.as (.sl (.int .u32))).bind fun a5=>some (Zpm.mk (ZqW.mk a0 a1) (ZnC.mk (ZnK.mk a2 a3) (ZnK.mk a4 a5)))
 |_=>none
theorem ZD9 (cs:List (Lf Zz5)) (x:Zpm) (h:ZCT cs=some x):ZC5 x=cs:=by unfold ZCT at h;split at h;rotate_left;simp at h;obtain⟨a0,h0,h⟩:=bind_some h;obtain⟨a1,h1,h⟩:=bind_some h;obtain⟨a2,h2,h⟩:=bind_some h;obtain⟨a3,h3,h⟩:=bind_some h;obtain⟨a4,h4,h⟩:=bind_some h;obtain⟨a5,h5,h⟩:=bind_some h;simp only[Option.some.injEq]at h;subst h;rw[as_car h0,as_car h1,as_car h2,as_car h3,as_car h4,as_car h5];rfl
def ZEY (x:Zpm):P:= .agg [.int .i64 x.Ref.Table,.int .i64 x.Ref.Column,.bool x.Score.Num.Neg,.sl 1 (x.Score.Num.Words.map (fun x=> .int .u32 x)),.bool x.Score.Den.Neg,.sl 1 (x.Score.Den.Words.map (fun x=> .int .u32 x))]
def ZwZ (x:Zwn):List (Lf Zz5):=x.1.map fun y=>⟨(.int .u8),y⟩
def ZAu (cs:List (Lf Zz5)):Option Zwn:=match Zm (fun c=>c.as (.int .u8)) cs with
 |some l=>if h:l.length=256 then some ⟨l,h⟩else none
 |none=>none
theorem ZCR (cs:List (Lf Zz5)) (x:Zwn) (h:ZAu cs=some x):ZwZ x=cs:=by unfold ZAu at h;split at h;rotate_left;simp at h;rename_i l hl;split at h;rotate_left;simp at h;simp only[Option.some.injEq]at h;subst h;exact(Zl8 hl).symm
def Zz4 (x:Zwn):P:= .agg (x.1.map fun y=> .int .u8 y)
def Zuu (x:Zoh):List (Lf Zz5):=[⟨(.int .u8),x.e0.lo⟩,⟨(.int .u8),x.e0.hi⟩,⟨(.int .u8),x.e1.lo⟩,⟨(.int .u8),x.e1.hi⟩,⟨(.int .u8),x.e2.lo⟩,⟨(.int .u8),x.e2.hi⟩,⟨(.int .u8),x.e3.lo⟩,⟨(.int .u8),x.e3.hi⟩,⟨(.int .u8),x.e4.lo⟩,⟨(.int .u8),x.e4.hi⟩,⟨(.int .u8),x.e5.lo⟩,⟨(.int .u8),x.e5.hi⟩,⟨(.int .u8),x.e6.lo⟩,⟨(.int .u8),x.e6.hi⟩,⟨(.int .u8),x.e7.lo⟩,⟨(.int .u8),x.e7.hi⟩,⟨(.int .u8),x.e8.lo⟩,⟨(.int .u8),x.e8.hi⟩,⟨(.int .u8),x.e9.lo⟩,⟨(.int .u8),x.e9.hi⟩,⟨(.int .u8),x.e10.lo⟩,⟨(.int .u8),x.e10.hi⟩,⟨(.int .u8),x.e11.lo⟩,⟨(.int .u8),x.e11.hi⟩,⟨(.int .u8),x.e12.lo⟩,⟨(.int .u8),x.e12.hi⟩,⟨(.int .u8),x.e13.lo⟩,⟨(.int .u8),x.e13.hi⟩,⟨(.int .u8),x.e14.lo⟩,⟨(.int .u8),x.e14.hi⟩,⟨(.int .u8),x.e15.lo⟩,⟨(.int .u8),x.e15.hi⟩]
def ZrR:List (Lf Zz5)→Option Zoh
 | [c0,c1,c2,c3,c4,c5,c6,c7,c8,c9,c10,c11,c12,c13,c14,c15,c16,c17,c18,c19,c20,c21,c22,c23,c24,c25,c26,c27,c28,c29,c30,c31]=>(c0.as (.int .u8)).bind fun a0=>(c1.as (.int .u8)).bind fun a1=>(c2.as (.int .u8)).bind fun a2=>(c3.as (.int .u8)).bind fun a3=>(c4.as (.int .u8)).bind fun a4=>(c5.as (.int .u8)).bind fun a5=>(c6.as (.int .u8)).bind fun a6=>(c7.as (.int .u8)).bind fun a7=>(c8.as (.int .u8)).bind fun a8=>(c9.as (.int .u8)).bind fun a9=>(c10.as (.int .u8)).bind fun a10=>(c11.as (.int .u8)).bind fun a11=>(c12.as (.int .u8)).bind fun a12=>(c13.as (.int .u8)).bind fun a13=>(c14.as (.int .u8)).bind fun a14=>(c15.as (.int .u8)).bind fun a15=>(c16.as (.int .u8)).bind fun a16=>(c17.as (.int .u8)).bind fun a17=>(c18.as (.int .u8)).bind fun a18=>(c19.as (.int .u8)).bind fun a19=>(c20.as (.int .u8)).bind fun a20=>(c21.as (.int .u8)).bind fun a21=>(c22.as (.int .u8)).bind fun a22=>(c23.as (.int .u8)).bind fun a23=>(c24.as (.int .u8)).bind fun a24=>(c25.as (.int .u8)).bind fun a25=>(c26.as (.int .u8)).bind fun a26=>(c27.as (.int .u8)).bind fun a27=>(c28.as (.int .u8)).bind fun a28=>(c29.as (.int .u8)).bind fun a29=>(c30.as (.int .u8)).bind fun a30=>(c31.as (.int .u8)).bind fun a31=>some (Zoh.mk (ZnF.mk a0 a1) (ZnF.mk a2 a3) (ZnF.mk a4 a5) (ZnF.mk a6 a7) (ZnF.mk a8 a9) (ZnF.mk a10 a11) (ZnF.mk a12 a13) (ZnF.mk a14 a15) (ZnF.mk a16 a17) (ZnF.mk a18 a19) (ZnF.mk a20 a21) (ZnF.mk a22 a23) (ZnF.mk a24 a25) (ZnF.mk a26 a27) (ZnF.mk a28 a29) (ZnF.mk a30 a31))
 |_=>none
theorem ZyN (cs:List (Lf Zz5)) (x:Zoh) (h:ZrR cs=some x):Zuu x=cs:=by unfold ZrR at h;split at h;rotate_left;simp at h;obtain⟨a0,h0,h⟩:=bind_some h;obtain⟨a1,h1,h⟩:=bind_some h;obtain⟨a2,h2,h⟩:=bind_some h;obtain⟨a3,h3,h⟩:=bind_some h;obtain⟨a4,h4,h⟩:=bind_some h;obtain⟨a5,h5,h⟩:=bind_some h;obtain⟨a6,h6,h⟩:=bind_some h;obtain⟨a7,h7,h⟩:=bind_some h;obtain⟨a8,h8,h⟩:=bind_some h;obtain⟨a9,h9,h⟩:=bind_some h;obtain⟨a10,h10,h⟩:=bind_some h;obtain⟨a11,h11,h⟩:=bind_some h;obtain⟨a12,h12,h⟩:=bind_some h;obtain⟨a13,h13,h⟩:=bind_some h;obtain⟨a14,h14,h⟩:=bind_some h;obtain⟨a15,h15,h⟩:=bind_some h;obtain⟨a16,h16,h⟩:=bind_some h;obtain⟨a17,h17,h⟩:=bind_some h;obtain⟨a18,h18,h⟩:=bind_some h;obtain⟨a19,h19,h⟩:=bind_some h;obtain⟨a20,h20,h⟩:=bind_some h;obtain⟨a21,h21,h⟩:=bind_some h;obtain⟨a22,h22,h⟩:=bind_some h;obtain⟨a23,h23,h⟩:=bind_some h;obtain⟨a24,h24,h⟩:=bind_some h;obtain⟨a25,h25,h⟩:=bind_some h;obtain⟨a26,h26,h⟩:=bind_some h;obtain⟨a27,h27,h⟩:=bind_some h;obtain⟨a28,h28,h⟩:=bind_some h;obtain⟨a29,h29,h⟩:=bind_some h;obtain⟨a30,h30,h⟩:=bind_some h;obtain⟨a31,h31,h⟩:=bind_some h;simp only[Option.some.injEq]at h;subst h;rw[as_car h0,as_car h1,as_car h2,as_car h3,as_car h4,as_car h5,as_car h6,as_car h7,as_car h8,as_car h9,as_car h10,as_car h11,as_car h12,as_car h13,as_car h14,as_car h15,as_car h16,as_car h17,as_car h18,as_car h19,as_car h20,as_car h21,as_car h22,as_car h23,as_car h24,as_car h25,as_car h26,as_car h27,as_car h28,as_car h29,as_car h30,as_car h31];rfl
def ZzE (x:Zoh):P:= .agg [.int .u8 x.e0.lo,.int .u8 x.e0.hi,.int .u8 x.e1.lo,.int .u8 x.e1.hi,.int .u8 x.e2.lo,.int .u8 x.e2.hi,.int .u8 x.e3.lo,.int .u8 x.e3.hi,.int .u8 x.e4.lo,.int .u8 x.e4.hi,.int .u8 x.e5.lo,.int .u8 x.e5.hi,.int .u8 x.e6.lo,.int .u8 x.e6.hi,.int .u8 x.e7.lo,.int .u8 x.e7.hi,.int .u8 x.e8.lo,.int .u8 x.e8.hi,.int .u8 x.e9.lo,.int .u8 x.e9.hi,.int .u8 x.e10.lo,.int .u8 x.e10.hi,.int .u8 x.e11.lo,.int .u8 x.e11.hi,.int .u8 x.e12.lo,.int .u8 x.e12.hi,.int .u8 x.e13.lo,.int .u8 x.e13.hi,.int .u8 x.e14.lo,.int .u8 x.e14.hi,.int .u8 x.e15.lo,.int .u8 x.e15.hi]
def ZLY:(n:Nat)→Zz5 n→List (Lf Zz5)
 |0,x=>ZC6 x
 |1,x=>ZBr x
 |2,x=>ZCF x
 |3,x=>ZCa x
 |4,x=>ZB9 x
 |5,x=>Zzn x
 |6,x=>ZCo x
 |7,x=>ZDg x
 |8,x=>Zxn x
 |9,x=>ZC4 x
 |10,x=>ZC5 x
 |11,x=>ZwZ x
 |12,x=>Zuu x
 |_+13,_=>[]
def ofU:(n:Nat)→List (Lf Zz5)→Option (Zz5 n)
 |0,cs=>ZCU cs
 |1,cs=>ZAO cs
 |2,cs=>ZCy cs
 |3,cs=>ZBY cs
 |4,cs=>ZBW cs
 |5,cs=>ZxR cs
 |6,cs=>ZCg cs
 |7,cs=>ZDj cs
 |8,cs=>Zvn cs
 |9,cs=>ZCS cs
 |10,cs=>ZCT cs
 |11,cs=>ZAu cs
 |12,cs=>ZrR cs
 |_+13,cs=>match cs with | []=>some () |_=>none
def encU:(n:Nat)→Zz5 n→P
 |0,x=>ZEZ x
 |1,x=>ZDy x
 |2,x=>ZDf x
 |3,x=>ZCE x
 |4,x=>ZDS x
 |5,x=>ZCh x
 |6,x=>ZEi x
 |7,x=>ZFp x
 |8,x=>ZBa x
 |9,x=>ZEX x
 |10,x=>ZEY x
 |11,x=>Zz4 x
 |12,x=>ZzE x
 |_+13,_=> .agg []
@[reducible] def U:Zc:=⟨Zz5,ZNl,ZLY,ofU,encU⟩
theorem ZCM (x:Zwn):Zz4 x= .agg ((ZwZ x).map U.encL):=by unfold Zz4 ZwZ;rw[List.map_map];rfl
theorem uok:UOk U where
 of_cells:=fun n cs x h=>match n,x,h with
  |0,x,h=>ZEa cs x h
  |1,x,h=>ZDe cs x h
  |2,x,h=>ZDR cs x h
  |3,x,h=>ZDw cs x h
  |4,x,h=>ZDv cs x h
  |5,x,h=>ZBX cs x h
  |6,x,h=>ZDF cs x h
  |7,x,h=>ZEq cs x h
  |8,x,h=>ZAz cs x h
  |9,x,h=>ZD8 cs x h
  |10,x,h=>ZD9 cs x h
  |11,x,h=>ZCR cs x h
  |12,x,h=>ZyN cs x h
  |_+13,x,h=>by
   match cs,h with
   | [],h=>rfl
 enc_cells:=fun n x=>match n,x with
  |0,x=>rfl
  |1,x=>rfl
  |2,x=>rfl
  |3,x=>rfl
  |4,x=>rfl
  |5,x=>rfl
  |6,x=>rfl
  |7,x=>rfl
  |8,x=>rfl
  |9,x=>rfl
  |10,x=>rfl
  |11,x=>ZCM x
  |12,x=>rfl
  |_+13,x=>rfl
 len:=fun n x=>match n,x with
  |0,x=>rfl
  |1,x=>rfl
  |2,x=>rfl
  |3,x=>rfl
  |4,x=>rfl
  |5,x=>rfl
  |6,x=>rfl
  |7,x=>rfl
  |8,x=>rfl
  |9,x=>rfl
  |10,x=>rfl
  |11,x=>(List.length_map ..).trans x.2
  |12,x=>rfl
  |_+13,x=>rfl
noncomputable def tt0:List (Option (TT U)):=[
 none,
 some ⟨⟨.func,1,8,[.p .nilfn]⟩,none,.fnc,[.nilfn],some ⟨.fnc,(none:Option Nat)⟩⟩,
 some ⟨⟨.int .i64,1,8,[.p (.int .i64 0)]⟩,none,(.int .i64),[.v (.int .i64) (0:Int)],some ⟨(.int .i64),(0:Int)⟩⟩,
 some ⟨⟨.int .i64,1,8,[.p (.int .i64 0)]⟩,none,(.int .i64),[.v (.int .i64) (0:Int)],some ⟨(.int .i64),(0:Int)⟩⟩,
 some ⟨⟨.bool,1,1,[.p (.bool false)]⟩,none,.bool,[.v .bool false],some ⟨.bool,false⟩⟩,
 some ⟨⟨.int .u8,1,1,[.p (.int .u8 0)]⟩,none,(.int .u8),[.v (.int .u8) (0:Int)],some ⟨(.int .u8),(0:Int)⟩⟩,
 none,
 none,
 none,
 some ⟨⟨.str,1,16,[.p (.str [])]⟩,none,.str,[.v .str ([]:Str)],some ⟨.str,([]:Str)⟩⟩,
 none,
 none,
 some ⟨⟨.int .u64,1,8,[.p (.int .u64 0)]⟩,none,(.int .u64),[.v (.int .u64) (0:Int)],some ⟨(.int .u64),(0:Int)⟩⟩,
 none,
 none,
 none,
 none,
 none,
 none,
 none,
 none,
 none,
 some ⟨⟨.sl 72,1,24,[.nils 2]⟩,none,(.sl (.st 2)),[.nils (.st 2)],some ⟨(.sl (.st 2)),[]⟩⟩,
 some ⟨⟨.struct [(0,9),(1,22)],2,40,[.p (.str []),.nils 2]⟩,some 3,(.st 3),[.v .str ([]:Str),.nils (.st 2)],some ⟨(.st 3),(ZnO.mk ([]:Str) ([]:(List ZnQ)))⟩⟩,
 some ⟨⟨.struct [(0,9),(1,22)],2,40,[.p (.str []),.nils 2]⟩,some 3,(.st 3),[.v .str ([]:Str),.nils (.st 2)],some ⟨(.st 3),(ZnO.mk ([]:Str) ([]:(List ZnQ)))⟩⟩,
 some ⟨⟨.sl 3,1,24,[.nils 1]⟩,none,(.sl (.int .i64)),[.nils (.int .i64)],some ⟨(.sl (.int .i64)),[]⟩⟩,
 none,
 none,
 some ⟨⟨.ptr 94,1,8,[.p .nilp]⟩,none,.bool,[.nilp],none⟩,
 none,
 none,
 none,
 none,
 none,
 none,
 none,
 none,
 none,
 some ⟨⟨.int .i64,1,8,[.p (.int .i64 0)]⟩,none,(.int .i64),[.v (.int .i64) (0:Int)],some ⟨(.int .i64),(0:Int)⟩⟩,
 none,
 none,
 none,
 some ⟨⟨.int .u64,1,8,[.p (.int .u64 0)]⟩,none,(.int .u64),[.v (.int .u64) (0:Int)],some ⟨(.int .u64),(0:Int)⟩⟩,
 none,
 none,
 some ⟨⟨.sl 51,1,24,[.nils 4]⟩,none,(.sl (.st 1)),[.nils (.st 1)],some ⟨(.sl (.st 1)),[]⟩⟩,
 none,
 some ⟨⟨.sl 144,1,24,[.nils 1]⟩,none,(.sl (.int .u32)),[.nils (.int .u32)],some ⟨(.sl (.int .u32)),[]⟩⟩,
 some ⟨⟨.struct [(0,4),(1,47)],2,32,[.p (.bool false),.nils 1]⟩,some 0,(.st 0),[.v .bool false,.nils (.int .u32)],some ⟨(.st 0),(ZnK.mk false ([]:(List Int)))⟩⟩,
 some ⟨⟨.struct [(0,4),(1,47)],2,32,[.p (.bool false),.nils 1]⟩,some 0,(.st 0),[.v .bool false,.nils (.int .u32)],some ⟨(.st 0),(ZnK.mk false ([]:(List Int)))⟩⟩,
 some ⟨⟨.struct [(0,49),(2,49)],4,64,[.p (.bool false),.nils 1,.p (.bool false),.nils 1]⟩,some 1,(.st 1),[.v .bool false,.nils (.int .u32),.v .bool false,.nils (.int .u32)],some ⟨(.st 1),(ZnC.mk (ZnK.mk false ([]:(List Int))) (ZnK.mk false ([]:(List Int))))⟩⟩,
 some ⟨⟨.struct [(0,49),(2,49)],4,64,[.p (.bool false),.nils 1,.p (.bool false),.nils 1]⟩,some 1,(.st 1),[.v .bool false,.nils (.int .u32),.v .bool false,.nils (.int .u32)],some ⟨(.st 1),(ZnC.mk (ZnK.mk false ([]:(List Int))) (ZnK.mk false ([]:(List Int))))⟩⟩,
 none,
 none,
 none,
 none,
 none,
 none,
 none,
 none,
 none,
 none,
 some ⟨⟨.sl 9,1,24,[.nils 1]⟩,none,(.sl .str),[.nils .str],some ⟨(.sl .str),[]⟩⟩,
 none,
 none,
 none,
 none,
 none,
 none,
 some ⟨⟨.func,1,8,[.p .nilfn]⟩,none,.fnc,[.nilfn],some ⟨.fnc,(none:Option Nat)⟩⟩,
 none,
 some ⟨⟨.struct [(0,4),(1,9)],2,24,[.p (.bool false),.p (.str [])]⟩,some 2,(.st 2),[.v .bool false,.v .str ([]:Str)],some ⟨(.st 2),(ZnQ.mk false ([]:Str))⟩⟩,
 some ⟨⟨.struct [(0,4),(1,9)],2,24,[.p (.bool false),.p (.str [])]⟩,some 2,(.st 2),[.v .bool false,.v .str ([]:Str)],some ⟨(.st 2),(ZnQ.mk false ([]:Str))⟩⟩,
 none,
 none,
 none,
 none,
 some ⟨⟨.sl 81,1,24,[.nils 3]⟩,none,(.sl (.st 6)),[.nils (.st 6)],some ⟨(.sl (.st 6)),[]⟩⟩,
 none,
 some ⟨⟨.sl 24,1,24,[.nils 2]⟩,none,(.sl (.st 3)),[.nils (.st 3)],some ⟨(.sl (.st 3)),[]⟩⟩,
 some ⟨⟨.struct [(0,3),(1,9),(2,79)],3,48,[.p (.int .i64 0),.p (.str []),.nils 2]⟩,some 6,(.st 6),[.v (.int .i64) (0:Int),.v .str ([]:Str),.nils (.st 3)],some ⟨(.st 6),(ZnB.mk 0 ([]:Str) ([]:(List ZnO)))⟩⟩,
 some ⟨⟨.struct [(0,3),(1,9),(2,79)],3,48,[.p (.int .i64 0),.p (.str []),.nils 2]⟩,some 6,(.st 6),[.v (.int .i64) (0:Int),.v .str ([]:Str),.nils (.st 3)],some ⟨(.st 6),(ZnB.mk 0 ([]:Str) ([]:(List ZnO)))⟩⟩,
 some ⟨⟨.sl 88,1,24,[.nils 6]⟩,none,(.sl (.st 10)),[.nils (.st 10)],some ⟨(.sl (.st 10)),[]⟩⟩,
 none,
 none,
 some ⟨⟨.struct [(0,3),(1,3)],2,16,[.p (.int .i64 0),.p (.int .i64 0)]⟩,some 9,(.st 9),[.v (.int .i64) (0:Int),.v (.int .i64) (0:Int)],some ⟨(.st 9),(ZqW.mk 0 0)⟩⟩,
 some ⟨⟨.struct [(0,3),(1,3)],2,16,[.p (.int .i64 0),.p (.int .i64 0)]⟩,some 9,(.st 9),[.v (.int .i64) (0:Int),.v (.int .i64) (0:Int)],some ⟨(.st 9),(ZqW.mk 0 0)⟩⟩,
 some ⟨⟨.struct [(0,86),(2,51)],6,80,[.p (.int .i64 0),.p (.int .i64 0),.p (.bool false),.nils 1,.p (.bool false),.nils 1]⟩,some 10,(.st 10),[.v (.int .i64) (0:Int),.v (.int .i64) (0:Int),.v .bool false,.nils (.int .u32),.v .bool false,.nils (.int .u32)],some ⟨(.st 10),(Zpm.mk (ZqW.mk 0 0) (ZnC.mk (ZnK.mk false ([]:(List Int))) (ZnK.mk false ([]:(List Int)))))⟩⟩,
 some ⟨⟨.struct [(0,86),(2,51)],6,80,[.p (.int .i64 0),.p (.int .i64 0),.p (.bool false),.nils 1,.p (.bool false),.nils 1]⟩,some 10,(.st 10),[.v (.int .i64) (0:Int),.v (.int .i64) (0:Int),.v .bool false,.nils (.int .u32),.v .bool false,.nils (.int .u32)],some ⟨(.st 10),(Zpm.mk (ZqW.mk 0 0) (ZnC.mk (ZnK.mk false ([]:(List Int))) (ZnK.mk false ([]:(List Int)))))⟩⟩,
 none,
 none,
 none,
 none,
 some ⟨⟨.struct [(0,25),(1,3)],2,32,[.nils 1,.p (.int .i64 0)]⟩,some 5,(.st 5),[.nils (.int .i64),.v (.int .i64) (0:Int)],some ⟨(.st 5),(ZnA.mk ([]:(List Int)) 0)⟩⟩,
 some ⟨⟨.struct [(0,25),(1,3)],2,32,[.nils 1,.p (.int .i64 0)]⟩,some 5,(.st 5),[.nils (.int .i64),.v (.int .i64) (0:Int)],some ⟨(.st 5),(ZnA.mk ([]:(List Int)) 0)⟩⟩,
 none,
 none,
 none,
 none,
 none,
 none,
 none,
 none,
 none,
 some ⟨⟨.sl 5,1,24,[.nils 1]⟩,none,(.sl (.int .u8)),[.nils (.int .u8)],some ⟨(.sl (.int .u8)),[]⟩⟩,
 none,
 none,
 none,
 none,
 none,
 none,
 none,
 none,
 none,
 none,
 none,
 none,
 none,
 none,
 none,
 none,
 none,
 none,
 none,
 none,
 none,
 none,
 none,
 none,
 none,
 none,
 some ⟨⟨.func,1,8,[.p .nilfn]⟩,none,.fnc,[.nilfn],some ⟨.fnc,(none:Option Nat)⟩⟩,
 none,
 none,
 none,
 none,
 none,
 none,
 none,
 none,
 none,
 none,
 none,
 some ⟨⟨.int .u64,1,8,[.p (.int .u64 0)]⟩,none,(.int .u64),[.v (.int .u64) (0:Int)],some ⟨(.int .u64),(0:Int)⟩⟩,
 some ⟨⟨.int .u32,1,4,[.p (.int .u32 0)]⟩,none,(.int .u32),[.v (.int .u32) (0:Int)],some ⟨(.int .u32),(0:Int)⟩⟩,
 none,
 none,
 none,
 none,
 none,
 none,
 none,
 none,
 none,
 none,
 none,
 none,
 none,
 none,
 none,
 none,
 none,
 none,
 none,
 none,
 none,
 none,
 some ⟨⟨.func,1,8,[.p .nilfn]⟩,none,.fnc,[.nilfn],some ⟨.fnc,(none:Option Nat)⟩⟩,
 none,
 none,
 some ⟨⟨.struct [(0,3),(1,3),(2,9),(3,25)],4,56,[.p (.int .i64 0),.p (.int .i64 0),.p (.str []),.nils 1]⟩,some 7,(.st 7),[.v (.int .i64) (0:Int),.v (.int .i64) (0:Int),.v .str ([]:Str),.nils (.int .i64)],some ⟨(.st 7),(ZnP.mk 0 0 ([]:Str) ([]:(List Int)))⟩⟩,
 some ⟨⟨.struct [(0,3),(1,3),(2,9),(3,25)],4,56,[.p (.int .i64 0),.p (.int .i64 0),.p (.str []),.nils 1]⟩,some 7,(.st 7),[.v (.int .i64) (0:Int),.v (.int .i64) (0:Int),.v .str ([]:Str),.nils (.int .i64)],some ⟨(.st 7),(ZnP.mk 0 0 ([]:Str) ([]:(List Int)))⟩⟩,
 none,
 some ⟨⟨.sl 171,1,24,[.nils 4]⟩,none,(.sl (.st 7)),[.nils (.st 7)],some ⟨(.sl (.st 7)),[]⟩⟩,
 none,
 none,
 none,
 none,
 none,
 some ⟨⟨.sl 144,1,24,[.nils 1]⟩,none,(.sl (.int .u32)),[.nils (.int .u32)],some ⟨(.sl (.int .u32)),[]⟩⟩,
 none,
 none,
 none,
 none,
 none,
 none,
 none,
 none,
 some ⟨⟨.func,1,8,[.p .nilfn]⟩,none,.fnc,[.nilfn],some ⟨.fnc,(none:Option Nat)⟩⟩,
 some ⟨⟨.struct [(0,9),(1,188),(2,167)],3,32,[.p (.str []),.p .nilfn,.p .nilfn]⟩,some 4,(.st 4),[.v .str ([]:Str),.nilfn,.nilfn],some ⟨(.st 4),(ZpR.mk ([]:Str) (none:Option Nat) (none:Option Nat))⟩⟩,
 some ⟨⟨.struct [(0,9),(1,188),(2,167)],3,32,[.p (.str []),.p .nilfn,.p .nilfn]⟩,some 4,(.st 4),[.v .str ([]:Str),.nilfn,.nilfn],some ⟨(.st 4),(ZpR.mk ([]:Str) (none:Option Nat) (none:Option Nat))⟩⟩,
 some ⟨⟨.map 3 190,1,8,[.p (.map (.int .i64) [])]⟩,none,(.map (.int .i64) (.st 4)),[.v (.map (.int .i64) (.st 4)) []],some ⟨(.map (.int .i64) (.st 4)),[]⟩⟩,
 none,
 none,
 some ⟨⟨.int .i64,1,8,[.p (.int .i64 0)]⟩,none,(.int .i64),[.v (.int .i64) (0:Int)],some ⟨(.int .i64),(0:Int)⟩⟩,
 none,
 none,
 none,
 none,
 none,
 none,
 none,
 none,
 none,
 none,
 none,
 none,
 none,
 none,
 none,
 none,
 none,
 some ⟨⟨.func,1,8,[.p .nilfn]⟩,none,.fnc,[.nilfn],some ⟨.fnc,(none:Option Nat)⟩⟩,
 some ⟨⟨.func,1,8,[.p .nilfn]⟩,none,.fnc,[.nilfn],some ⟨.fnc,(none:Option Nat)⟩⟩,
 none,
 none,
 none,
 none,
 none,
 none,
 none,
 none,
 none,
 none,
 some ⟨⟨.func,1,8,[.p .nilfn]⟩,none,.fnc,[.nilfn],some ⟨.fnc,(none:Option Nat)⟩⟩,
 none,
 none,
 none,
 none,
 none,
 some ⟨⟨.sl 49,1,24,[.nils 2]⟩,none,(.sl (.st 0)),[.nils (.st 0)],some ⟨(.sl (.st 0)),[]⟩⟩,
 none,
 none,
 none,
 none,
 none,
 none,
 none,
 none,
 none,
 none,
 none,
 none,
 none,
 none,
 some ⟨⟨.int .u64,1,8,[.p (.int .u64 0)]⟩,none,(.int .u64),[.v (.int .u64) (0:Int)],some ⟨(.int .u64),(0:Int)⟩⟩,
 none,
 none,
 none,
 some ⟨⟨.ptr 3,1,8,[.p .nilp]⟩,none,.bool,[.nilp],none⟩,
 none,
 none,
 none,
 none,
 none,
 none,
 none,
 none,
 none,
 none,
 none,
 some ⟨⟨.func,1,8,[.p .nilfn]⟩,none,.fnc,[.nilfn],some ⟨.fnc,(none:Option Nat)⟩⟩,
 none,
 none,
 none,
 none,
 none,
 some ⟨⟨.func,1,8,[.p .nilfn]⟩,none,.fnc,[.nilfn],some ⟨.fnc,(none:Option Nat)⟩⟩,
 none,
 none,
 none,
 some ⟨⟨.func,1,8,[.p .nilfn]⟩,none,.fnc,[.nilfn],some ⟨.fnc,(none:Option Nat)⟩⟩,
 none,
 none,
 none,
 none,
 none,
 none,
 none,
 none,
 none,
 none,
 none,
 none,
 none,
 none,
 none,
 none,
 none,
 none,
 none,
 none,
 none,
 none,
 none,
 none,
 none,
 some ⟨⟨.ptr 245,1,8,[.p .nilp]⟩,none,.bool,[.nilp],none⟩,
 none,
 none,
 none,
 none,
 none,
 none,
 none,
 none,
 none,
 none,
 none,
 none,
 none,
 none,
 none,
 none,
 none,
 none,
 none,
 none,
 none,
 none,
 none,
 none,
 none,
 none,
 none,
 none,
 none,
 none,
 none,
 none,
 none,
 none,
 none,
 none,
 none,
 none,
 some ⟨⟨.arr 256 5,256,256,[.p (.int .u8 0),.p (.int .u8 0),.p (.int .u8 0),.p (.int .u8 0),.p (.int .u8 0),.p (.int .u8 0),.p (.int .u8 0),.p (.int .u8 0),.p (.int .u8 0),.p (.int .u8 0),.p (.int .u8 0),.p (.int .u8 0),.p (.int .u8 0),.p (.int .u8 0),.p (.int .u8 0),.p (.int .u8 0),.p (.int .u8 0),.p (.int .u8 0),.p (.int .u8 0),.p (.int .u8 0),.p (.int .u8 0),.p (.int .u8 0),.p (.int .u8 0),.p (.int .u8 0),.p (.int .u8 0),.p (.int .u8 0),.p (.int .u8 0),.p (.int .u8 0),.p (.int .u8 0),.p (.int .u8 0),.p (.int .u8 0),.p (.int .u8 0),.p (.int .u8 0),.p (.int .u8 0),.p (.int .u8 0),.p (.int .u8 0),.p (.int .u8 0),.p (.int .u8 0),.p (.int .u8 0),.p (.int .u8 0),.p (.int .u8 0),.p (.int .u8 0),.p (.int .u8 0),.p (.int .u8 0),.p (.int .u8 0),.p (.int .u8 0),.p (.int .u8 0),.p (.int .u8 0),.p (.int .u8 0),.p (.int .u8 0),.p (.int .u8 0),.p (.int .u8 0),.p (.int .u8 0),.p (.int .u8 0),.p (.int .u8 0),.p (.int .u8 0),.p (.int .u8 0),.p (.int .u8 0),.p (.int .u8 0),.p (.int .u8 0),.p (.int .u8 0),.p (.int .u8 0),.p (.int .u8 0),.p (.int .u8 0),.p (.int .u8 0),.p (.int .u8 0),.p (.int .u8 0),.p (.int .u8 0),.p (.int .u8 0),.p (.int .u8 0),.p (.int .u8 0),.p (.int .u8 0),.p (.int .u8 0),.p (.int .u8 0),.p (.int .u8 0),.p (.int .u8 0),.p (.int .u8 0),.p (.int .u8 0),.p (.int .u8 0),.p (.int .u8 0),.p (.int .u8 0),.p (.int .u8 0),.p (.int .u8 0),.p (.int .u8 0),.p (.int .u8 0),.p (.int .u8 0),.p (.int .u8 0),.p (.int .u8 0),.p (.int .u8 0),.p (.int .u8 0),.p (.int .u8 0),.p (.int .u8 0),.p (.int .u8 0),.p (.int .u8 0),.p (.int .u8 0),.p (.int .u8 0),.p (.int .u8 0),.p (.int .u8 0),.p (.int .u8 0),.p (.int .u8 0),.p (.int .u8 0),.p (.int .u8 0),.p (.int .u8 0),.p (.int .u8 0),.p (.int .u8 0),.p (.int .u8 0),.p (.int .u8 0),.p (.int .u8 0),.p (.int .u8 0),.p (.int .u8 0),.p (.int .u8 0),.p (.int .u8 0),.p (.int .u8 0),.p (.int .u8 0),.p (.int .u8 0),.p (.int .u8 0),.p (.int .u8 0),.p (.int .u8 0),.p (.int .u8 0),.p (.int .u8 0),.p (.int .u8 0),.p (.int .u8 0),.p (.int .u8 0),.p (.int .u8 0),.p (.int .u8 0),.p (.int .u8 0),.p (.int .u8 0),.p (.int .u8 0),.p (.int .u8 0),.p (.int .u8 0),.p (.int .u8 0),.p (.int .u8 0),.p (.int .u8 0),.p (.int .u8 0),.p (.int .u8 0),.p (.int .u8 0),.p (.int .u8 0),.p (.int .u8 0),.p (.int .u8 0),.p (.int .u8 0),.p (.int .u8 0),.p (.int .u8 0),.p (.int .u8 0),.p (.int .u8 0),.p (.int .u8 0),.p (.int .u8 0),.p (.int .u8 0),.p (.int .u8 0),.p (.int .u8 0),.p (.int .u8 0),.p (.int .u8 0),.p (.int .u8 0),.p (.int .u8 0),.p (.int .u8 0),.p (.int .u8 0),.p (.int .u8 0),.p (.int .u8 0),.p (.int .u8 0),.p (.int .u8 0),.p (.int .u8 0),.p (.int .u8 0),.p (.int .u8 0),.p (.int .u8 0),.p (.int .u8 0),.p (.int .u8 0),.p (.int .u8 0),.p (.int .u8 0),.p (.int .u8 0),.p (.int .u8 0),.p (.int .u8 0),.p (.int .u8 0),.p (.int .u8 0),.p (.int .u8 0),.p (.int .u8 0),.p (.int .u8 0),.p (.int .u8 0),.p (.int .u8 0),.p (.int .u8 0),.p (.int .u8 0),.p (.int .u8 0),.p (.int .u8 0),.p (.int .u8 0),.p (.int .u8 0),.p (.int .u8 0),.p (.int .u8 0),.p (.int .u8 0),.p (.int .u8 0),.p (.int .u8 0),.p (.int .u8 0),.p (.int .u8 0),.p (.int .u8 0),.p (.int .u8 0),.p (.int .u8 0),.p (.int .u8 0),.p (.int .u8 0),.p (.int .u8 0),.p (.int .u8 0),.p (.int .u8 0),.p (.int .u8 0),.p (.int .u8 0),.p (.int .u8 0),.p (.int .u8 0),.p (.int .u8 0),.p (.int .u8 0),.p (.int .u8 0),.p (.int .u8 0),.p (.int .u8 0),.p (.int .u8 0),.p (.int .u8 0),.p (.int .u8 0),.p (.int .u8 0),.p (.int .u8 0),.p (.int .u8 0),.p (.int .u8 0),.p (.int .u8 0),.p (.int .u8 0),.p (.int .u8 0),.p (.int .u8 0),.p (.int .u8 0),.p (.int .u8 0),.p (.int .u8 0),.p (.int .u8 0),.p (.int .u8 0),.p (.int .u8 0),.p (.int .u8 0),.p (.int .u8 0),.p (.int .u8 0),.p (.int .u8 0),.p (.int .u8 0),.p (.int .u8 0),.p (.int .u8 0),.p (.int .u8 0),.p (.int .u8 0),.p (.int .u8 0),.p (.int .u8 0),.p (.int .u8 0),.p (.int .u8 0),.p (.int .u8 0),.p (.int .u8 0),.p (.int .u8 0),.p (.int .u8 0),.p (.int .u8 0),.p (.int .u8 0),.p (.int .u8 0),.p (.int .u8 0),.p (.int .u8 0),.p (.int .u8 0),.p (.int .u8 0),.p (.int .u8 0),.p (.int .u8 0),.p (.int .u8 0),.p (.int .u8 0),.p (.int .u8 0),.p (.int .u8 0),.p (.int .u8 0),.p (.int .u8 0)]⟩,some 11,(.st 11),List.replicate 256 (.v (.int .u8) (0:Int)),some ⟨(.st 11),(⟨List.replicate 256 (0:Int),List.length_replicate⟩:Zwn)⟩⟩,
 some ⟨⟨.struct [(0,5),(1,5)],2,2,[.p (.int .u8 0),.p (.int .u8 0)]⟩,some 8,(.st 8),[.v (.int .u8) (0:Int),.v (.int .u8) (0:Int)],some ⟨(.st 8),(ZnF.mk 0 0)⟩⟩,
 some ⟨⟨.struct [(0,5),(1,5)],2,2,[.p (.int .u8 0),.p (.int .u8 0)]⟩,some 8,(.st 8),[.v (.int .u8) (0:Int),.v (.int .u8) (0:Int)],some ⟨(.st 8),(ZnF.mk 0 0)⟩⟩,
 some ⟨⟨.arr 16 338,32,32,[.p (.int .u8 0),.p (.int .u8 0),.p (.int .u8 0),.p (.int .u8 0),.p (.int .u8 0),.p (.int .u8 0),.p (.int .u8 0),.p (.int .u8 0),.p (.int .u8 0),.p (.int .u8 0),.p (.int .u8 0),.p (.int .u8 0),.p (.int .u8 0),.p (.int .u8 0),.p (.int .u8 0),.p (.int .u8 0),.p (.int .u8 0),.p (.int .u8 0),.p (.int .u8 0),.p (.int .u8 0),.p (.int .u8 0),.p (.int .u8 0),.p (.int .u8 0),.p (.int .u8 0),.p (.int .u8 0),.p (.int .u8 0),.p (.int .u8 0),.p (.int .u8 0),.p (.int .u8 0),.p (.int .u8 0),.p (.int .u8 0),.p (.int .u8 0)]⟩,some 12,(.st 12),[.v (.int .u8) (0:Int),.v (.int .u8) (0:Int),.v (.int .u8) (0:Int),.v (.int .u8) (0:Int),.v (.int .u8) (0:Int),.v (.int .u8) (0:Int),.v (.int .u8) (0:Int),.v (.int .u8) (0:Int),.v (.int .u8) (0:Int),.v (.int .u8) (0:Int),.v (.int .u8) (0:Int),.v (.int .u8) (0:Int),.v (.int .u8) (0:Int),.v (.int .u8) (0:Int),.v (.int .u8) (0:Int),.v (.int .u8) (0:Int),.v (.int .u8) (0:Int),.v (.int .u8) (0:Int),.v (.int .u8) (0:Int),.v (.int .u8) (0:Int),.v (.int .u8) (0:Int),.v (.int .u8) (0:Int),.v (.int .u8) (0:Int),.v (.int .u8) (0:Int),.v (.int .u8) (0:Int),.v (.int .u8) (0:Int),.v (.int .u8) (0:Int),.v (.int .u8) (0:Int),.v (.int .u8) (0:Int),.v (.int .u8) (0:Int),.v (.int .u8) (0:Int),.v (.int .u8) (0:Int)],some ⟨(.st 12),(Zoh.mk (ZnF.mk 0 0) (ZnF.mk 0 0) (ZnF.mk 0 0) (ZnF.mk 0 0) (ZnF.mk 0 0) (ZnF.mk 0 0) (ZnF.mk 0 0) (ZnF.mk 0 0) (ZnF.mk 0 0) (ZnF.mk 0 0) (ZnF.mk 0 0) (ZnF.mk 0 0) (ZnF.mk 0 0) (ZnF.mk 0 0) (ZnF.mk 0 0) (ZnF.mk 0 0))⟩⟩,
 none,
 none,
 none,
 none,
 none,
 none,
 none,
 none,
 none,
 none,
 none,
 none,
 none,
 none,
 none,
 none,
 none,
 none,
 none,
 none,
 none,
 none,
 none,
 none,
 none]
noncomputable def X0:ZG U:=⟨Tryz.prog,tt0,[(0,ZDH),(4,ZAe),(7,ZC1),(8,Zyu)],0⟩
theorem tok0:TOk X0:=tok_of (by kernel_rfl) (by kernel_rfl) (by kernel_rfl)
theorem eok0:Zk X0.E:=⟨by kernel_rfl⟩
theorem mixed:X0.prog.follows .mixedOrders=true:=by kernel_rfl
theorem G0:Gnd X0:=⟨uok,tok0,eok0,mixed⟩
noncomputable def ZB3:Zj9 U:=⟨(Int×Int),[42,42,42],[.p,.p,.p],[none,none,none],[.p (.int .u64),.p (.int .u64),.p (.int .u64)],fun v=>ZAN v.1 v.2.1 v.2.2.1,fun q=>⟨[.p ⟨(.int .u64),q.1⟩,.p ⟨(.int .u64),q.2⟩],[]⟩⟩
noncomputable def ZBk:Zj9 U:=⟨Str,[9,9],[.p,.p],[none,none],[.p .str,.p .str],fun v=>ZCe v.1 v.2.1,fun q=>⟨[.p ⟨.str,q⟩],[]⟩⟩
noncomputable def Zwy:Zj9 U:=⟨Int,[9,5],[.p,.p],[none,none],[.p .str,.p (.int .u8)],fun v=>ZtO v.1 v.2.1,fun q=>⟨[.p ⟨(.int .i64),q⟩],[]⟩⟩
noncomputable def ZBs:Zj9 U:=⟨Str,[9,9],[.p,.p],[none,none],[.p .str,.p .str],fun v=>ZAm v.1 v.2.1,fun q=>⟨[.p ⟨.str,q⟩],[]⟩⟩
noncomputable def ZBb:Zj9 U:=⟨Str,[9,9],[.p,.p],[none,none],[.p .str,.p .str],fun v=>ZBM v.1 v.2.1,fun q=>⟨[.p ⟨.str,q⟩],[]⟩⟩
noncomputable def ZBl:Zj9 U:=⟨Str,[3],[.p],[none],[.p (.int .i64)],fun v=>Zyo v.1,fun q=>⟨[.p ⟨.str,q⟩],[]⟩⟩
end Go.Proofs
