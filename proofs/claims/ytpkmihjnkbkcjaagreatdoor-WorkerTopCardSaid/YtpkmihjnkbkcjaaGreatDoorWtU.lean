/- Printed by wip/tools/tgen.py: tables. -/
import Derived.Test.YtpkmihjnkbkcjaaGreatDoorWtS
import Derived.Test.YtpkmihjnkbkcjaaGreatDoorWtWX
import Derived.Test.YtpkmihjnkbkcjaaGreatDoorProg
import Derived.KernelRfl
set_option linter.unusedVariables false
set_option linter.unusedSimpArgs false
set_option linter.unusedSectionVars false
namespace Go.Proofs
open Go Eng
set_option maxRecDepth 100000
def Zy6 (x:Zq1):List (Lf Zww):=[⟨(.int .i64),x.From⟩,⟨(.int .i64),x.To⟩]
def ZyS:List (Lf Zww)→Option Zq1
 | [c0,c1]=>(c0.as (.int .i64)).bind fun a0=>(c1.as (.int .i64)).bind fun a1=>some (Zq1.mk a0 a1)
 |_=>none
theorem ZAb (cs:List (Lf Zww)) (x:Zq1) (h:ZyS cs=some x):Zy6 x=cs:=by
 unfold ZyS at h;split at h;rotate_left;simp at h
 repeat (replace h:=ZvO h;obtain⟨_,rfl,h⟩:=h)
 obtain rfl:=Option.some.inj h;rfl
def ZAM (x:Zq1):P:= .agg [.int .i64 x.From,.int .i64 x.To]
def Zzr (x:Zov):List (Lf Zww):=[⟨(.int .i64),x.Table⟩,⟨(.int .i64),x.Column⟩]
def Zzh:List (Lf Zww)→Option Zov
 | [c0,c1]=>(c0.as (.int .i64)).bind fun a0=>(c1.as (.int .i64)).bind fun a1=>some (Zov.mk a0 a1)
 |_=>none
theorem ZAt (cs:List (Lf Zww)) (x:Zov) (h:Zzh cs=some x):Zzr x=cs:=by
 unfold Zzh at h;split at h;rotate_left;simp at h
 repeat (replace h:=ZvO h;obtain⟨_,rfl,h⟩:=h)
 obtain rfl:=Option.some.inj h;rfl
def ZyZ (x:Zov):P:= .agg [.int .i64 x.Table,.int .i64 x.Column]
def Zzt (x:Zoq):List (Lf Zww):=[⟨.bool,x.Neg⟩,⟨(.sl (.int .u32)),x.Words⟩]
def Zzj:List (Lf Zww)→Option Zoq
 | [c0,c1]=>(c0.as .bool).bind fun a0=>(c1.as (.sl (.int .u32))).bind fun a1=>some (Zoq.mk a0 a1)
 |_=>none
theorem ZAv (cs:List (Lf Zww)) (x:Zoq) (h:Zzj cs=some x):Zzt x=cs:=by
 unfold Zzj at h;split at h;rotate_left;simp at h
 repeat (replace h:=ZvO h;obtain⟨_,rfl,h⟩:=h)
 obtain rfl:=Option.some.inj h;rfl
def ZA3 (x:Zoq):P:= .agg [.bool x.Neg,.sl 1 (x.Words.map (fun x=> .int .u32 x))]
def ZxW (x:Zor):List (Lf Zww):=[⟨.bool,x.Num.Neg⟩,⟨(.sl (.int .u32)),x.Num.Words⟩,⟨.bool,x.Den.Neg⟩,⟨(.sl (.int .u32)),x.Den.Words⟩]
def Zxw:List (Lf Zww)→Option Zor
 | [c0,c1,c2,c3]=>(c0.as .bool).bind fun a0=>(c1.as (.sl (.int .u32))).bind fun a1=>(c2.as .bool).bind fun a2=>(c3.as (.sl (.int .u32))).bind fun a3=>some (Zor.mk (Zoq.mk a0 a1) (Zoq.mk a2 a3))
 |_=>none
theorem Zzx (cs:List (Lf Zww)) (x:Zor) (h:Zxw cs=some x):ZxW x=cs:=by
 unfold Zxw at h;split at h;rotate_left;simp at h
 repeat (replace h:=ZvO h;obtain⟨_,rfl,h⟩:=h)
 obtain rfl:=Option.some.inj h;rfl
def ZzT (x:Zor):P:= .agg [.bool x.Num.Neg,.sl 1 (x.Num.Words.map (fun x=> .int .u32 x)),.bool x.Den.Neg,.sl 1 (x.Den.Words.map (fun x=> .int .u32 x))]
def Zzs (x:ZoL):List (Lf Zww):=[⟨(.int .i64),x.Ref.Table⟩,⟨(.int .i64),x.Ref.Column⟩,⟨.bool,x.Score.Num.Neg⟩,⟨(.sl (.int .u32)),x.Score.Num.Words⟩,⟨.bool,x.Score.Den.Neg⟩,⟨(.sl (.int .u32)),x.Score.Den.Words⟩]
def Zzi:List (Lf Zww)→Option ZoL
 | [c0,c1,c2,c3,c4,c5]=>(c0.as (.int .i64)).bind fun a0=>(c1.as (.int .i64)).bind fun a1=>(c2.as .bool).bind fun a2=>(c3.as (.sl (.int .u32))).bind fun a3=>(c4.as .bool).bind fun a4=>(c5.as (.sl (.int .u32))).bind fun a5=>some (ZoL.mk (Zov.mk a0 a1) (Zor.mk (Zoq.mk a2 a3) (Zoq.mk a4 a5)))
 |_=>none
theorem ZAu (cs:List (Lf Zww)) (x:ZoL) (h:Zzi cs=some x):Zzs x=cs:=by
 unfold Zzi at h;split at h;rotate_left;simp at h
 repeat (replace h:=ZvO h;obtain⟨_,rfl,h⟩:=h)
 obtain rfl:=Option.some.inj h;rfl
def ZzS (x:ZoL):P:= .agg [.int .i64 x.Ref.Table,.int .i64 x.Ref.Column,.bool x.Score.Num.Neg,.sl 1 (x.Score.Num.Words.map (fun x=> .int .u32 x)),.bool x.Score.Den.Neg,.sl 1 (x.Score.Den.Words.map (fun x=> .int .u32 x))]
def ZyN (x:Zqz):List (Lf Zww):=[⟨(.int .i64),x.Table⟩,⟨(.sl (.int .i64)),x.Align⟩,⟨.bool,x.Score.Num.Neg⟩,⟨(.sl (.int .u32)),x.Score.Num.Words⟩,⟨.bool,x.Score.Den.Neg⟩,⟨(.sl (.int .u32)),x.Score.Den.Words⟩]
def Zyy:List (Lf Zww)→Option Zqz
 | [c0,c1,c2,c3,c4,c5]=>(c0.as (.int .i64)).bind fun a0=>(c1.as (.sl (.int .i64))).bind fun a1=>(c2.as .bool).bind fun a2=>(c3.as (.sl (.int .u32))).bind fun a3=>(c4.as .bool).bind fun a4=>(c5.as (.sl (.int .u32))).bind fun a5=>some (Zqz.mk a0 a1 (Zor.mk (Zoq.mk a2 a3) (Zoq.mk a4 a5)))
 |_=>none
theorem ZzZ (cs:List (Lf Zww)) (x:Zqz) (h:Zyy cs=some x):ZyN x=cs:=by
 unfold Zyy at h;split at h;rotate_left;simp at h
 repeat (replace h:=ZvO h;obtain⟨_,rfl,h⟩:=h)
 obtain rfl:=Option.some.inj h;rfl
def Zzo (x:Zqz):P:= .agg [.int .i64 x.Table,.sl 1 (x.Align.map (fun x=> .int .i64 x)),.bool x.Score.Num.Neg,.sl 1 (x.Score.Num.Words.map (fun x=> .int .u32 x)),.bool x.Score.Den.Neg,.sl 1 (x.Score.Den.Words.map (fun x=> .int .u32 x))]
def Zxt (x:ZoI):List (Lf Zww):=[⟨(.int .i64),x.Key.Table⟩,⟨(.int .i64),x.Key.Column⟩,⟨(.int .i64),x.Value.Table⟩,⟨(.int .i64),x.Value.Column⟩,⟨.bool,x.Score.Num.Neg⟩,⟨(.sl (.int .u32)),x.Score.Num.Words⟩,⟨.bool,x.Score.Den.Neg⟩,⟨(.sl (.int .u32)),x.Score.Den.Words⟩,⟨(.int .i64),x.Sign⟩,⟨(.int .i64),x.N⟩]
def Zxc:List (Lf Zww)→Option ZoI
 | [c0,c1,c2,c3,c4,c5,c6,c7,c8,c9]=>(c0.as (.int .i64)).bind fun a0=>(c1.as (.int .i64)).bind fun a1=>(c2.as (.int .i64)).bind fun a2=>(c3.as (.int .i64)).bind fun a3=>(c4.as .bool).bind fun a4=>(c5.as (.sl (.int .u32))).bind fun a5=>(c6.as .bool).bind fun a6=>(c7.as (.sl (.int .u32))).bind fun a7=>(c8.as (.int .i64)).bind fun a8=>(c9.as (.int .i64)).bind fun a9=>some (ZoI.mk (Zov.mk a0 a1) (Zov.mk a2 a3) (Zor.mk (Zoq.mk a4 a5) (Zoq.mk a6 a7)) a8 a9)
 |_=>none
theorem Zzd (cs:List (Lf Zww)) (x:ZoI) (h:Zxc cs=some x):Zxt x=cs:=by
 unfold Zxc at h;split at h;rotate_left;simp at h
 repeat (replace h:=ZvO h;obtain⟨_,rfl,h⟩:=h)
 obtain rfl:=Option.some.inj h;rfl
def ZxV (x:ZoI):P:= .agg [.int .i64 x.Key.Table,.int .i64 x.Key.Column,.int .i64 x.Value.Table,.int .i64 x.Value.Column,.bool x.Score.Num.Neg,.sl 1 (x.Score.Num.Words.map (fun x=> .int .u32 x)),.bool x.Score.Den.Neg,.sl 1 (x.Score.Den.Words.map (fun x=> .int .u32 x)),.int .i64 x.Sign,.int .i64 x.N]
def Zy7 (x:Zp0):List (Lf Zww):=[⟨(.int .i64),x.From.Table⟩,⟨(.int .i64),x.From.Column⟩,⟨(.int .i64),x.To.Table⟩,⟨(.int .i64),x.To.Column⟩]
def ZyT:List (Lf Zww)→Option Zp0
 | [c0,c1,c2,c3]=>(c0.as (.int .i64)).bind fun a0=>(c1.as (.int .i64)).bind fun a1=>(c2.as (.int .i64)).bind fun a2=>(c3.as (.int .i64)).bind fun a3=>some (Zp0.mk (Zov.mk a0 a1) (Zov.mk a2 a3))
 |_=>none
theorem ZAc (cs:List (Lf Zww)) (x:Zp0) (h:ZyT cs=some x):Zy7 x=cs:=by
 unfold ZyT at h;split at h;rotate_left;simp at h
 repeat (replace h:=ZvO h;obtain⟨_,rfl,h⟩:=h)
 obtain rfl:=Option.some.inj h;rfl
def Zw7 (x:Zp0):P:= .agg [.int .i64 x.From.Table,.int .i64 x.From.Column,.int .i64 x.To.Table,.int .i64 x.To.Column]
def Zy8 (x:Zqn):List (Lf Zww):=[⟨(.int .i64),x.Start⟩,⟨(.sl (.st 7)),x.Steps⟩]
def ZyU:List (Lf Zww)→Option Zqn
 | [c0,c1]=>(c0.as (.int .i64)).bind fun a0=>(c1.as (.sl (.st 7))).bind fun a1=>some (Zqn.mk a0 a1)
 |_=>none
theorem ZAd (cs:List (Lf Zww)) (x:Zqn) (h:ZyU cs=some x):Zy8 x=cs:=by
 unfold ZyU at h;split at h;rotate_left;simp at h
 repeat (replace h:=ZvO h;obtain⟨_,rfl,h⟩:=h)
 obtain rfl:=Option.some.inj h;rfl
def ZAN (x:Zqn):P:= .agg [.int .i64 x.Start,.sl 4 (x.Steps.map Zw7)]
def Zyp (x:Zsa):List (Lf Zww):=[⟨(.int .i64),x.Rows⟩,⟨(.int .i64),x.Lost⟩,⟨(.int .i64),x.Most⟩,⟨(.sl (.int .i64)),x.Unused⟩]
def Zyi:List (Lf Zww)→Option Zsa
 | [c0,c1,c2,c3]=>(c0.as (.int .i64)).bind fun a0=>(c1.as (.int .i64)).bind fun a1=>(c2.as (.int .i64)).bind fun a2=>(c3.as (.sl (.int .i64))).bind fun a3=>some (Zsa.mk a0 a1 a2 a3)
 |_=>none
theorem ZzO (cs:List (Lf Zww)) (x:Zsa) (h:Zyi cs=some x):Zyp x=cs:=by
 unfold Zyi at h;split at h;rotate_left;simp at h
 repeat (replace h:=ZvO h;obtain⟨_,rfl,h⟩:=h)
 obtain rfl:=Option.some.inj h;rfl
def ZAf (x:Zsa):P:= .agg [.int .i64 x.Rows,.int .i64 x.Lost,.int .i64 x.Most,.sl 1 (x.Unused.map (fun x=> .int .i64 x))]
def ZyL (x:Zr4):List (Lf Zww):=[⟨(.int .i64),x.Path.Start⟩,⟨(.sl (.st 7)),x.Path.Steps⟩,⟨(.int .i64),x.Report.Rows⟩,⟨(.int .i64),x.Report.Lost⟩,⟨(.int .i64),x.Report.Most⟩,⟨(.sl (.int .i64)),x.Report.Unused⟩]
def Zyw:List (Lf Zww)→Option Zr4
 | [c0,c1,c2,c3,c4,c5]=>(c0.as (.int .i64)).bind fun a0=>(c1.as (.sl (.st 7))).bind fun a1=>(c2.as (.int .i64)).bind fun a2=>(c3.as (.int .i64)).bind fun a3=>(c4.as (.int .i64)).bind fun a4=>(c5.as (.sl (.int .i64))).bind fun a5=>some (Zr4.mk (Zqn.mk a0 a1) (Zsa.mk a2 a3 a4 a5))
 |_=>none
theorem ZzX (cs:List (Lf Zww)) (x:Zr4) (h:Zyw cs=some x):ZyL x=cs:=by
 unfold Zyw at h;split at h;rotate_left;simp at h
 repeat (replace h:=ZvO h;obtain⟨_,rfl,h⟩:=h)
 obtain rfl:=Option.some.inj h;rfl
def Zzn (x:Zr4):P:= .agg [.int .i64 x.Path.Start,.sl 4 (x.Path.Steps.map Zw7),.int .i64 x.Report.Rows,.int .i64 x.Report.Lost,.int .i64 x.Report.Most,.sl 1 (x.Report.Unused.map (fun x=> .int .i64 x))]
def Zyq (x:ZpB):List (Lf Zww):=[⟨(.int .i64),x.Column.Table⟩,⟨(.int .i64),x.Column.Column⟩,⟨(.int .i64),x.Kind⟩,⟨.str,x.Text⟩]
def Zyj:List (Lf Zww)→Option ZpB
 | [c0,c1,c2,c3]=>(c0.as (.int .i64)).bind fun a0=>(c1.as (.int .i64)).bind fun a1=>(c2.as (.int .i64)).bind fun a2=>(c3.as .str).bind fun a3=>some (ZpB.mk (Zov.mk a0 a1) a2 a3)
 |_=>none
theorem ZzP (cs:List (Lf Zww)) (x:ZpB) (h:Zyj cs=some x):Zyq x=cs:=by
 unfold Zyj at h;split at h;rotate_left;simp at h
 repeat (replace h:=ZvO h;obtain⟨_,rfl,h⟩:=h)
 obtain rfl:=Option.some.inj h;rfl
def ZxS (x:ZpB):P:= .agg [.int .i64 x.Column.Table,.int .i64 x.Column.Column,.int .i64 x.Kind,.str x.Text]
def Zy5 (x:Zt4):List (Lf Zww):=[⟨(.int .i64),x.Path.Start⟩,⟨(.sl (.st 7)),x.Path.Steps⟩,⟨(.sl (.st 11)),x.Filters⟩,⟨(.sl (.st 1)),x.Columns⟩]
def ZyR:List (Lf Zww)→Option Zt4
 | [c0,c1,c2,c3]=>(c0.as (.int .i64)).bind fun a0=>(c1.as (.sl (.st 7))).bind fun a1=>(c2.as (.sl (.st 11))).bind fun a2=>(c3.as (.sl (.st 1))).bind fun a3=>some (Zt4.mk (Zqn.mk a0 a1) a2 a3)
 |_=>none
theorem ZAa (cs:List (Lf Zww)) (x:Zt4) (h:ZyR cs=some x):Zy5 x=cs:=by
 unfold ZyR at h;split at h;rotate_left;simp at h
 repeat (replace h:=ZvO h;obtain⟨_,rfl,h⟩:=h)
 obtain rfl:=Option.some.inj h;rfl
def ZAL (x:Zt4):P:= .agg [.int .i64 x.Path.Start,.sl 4 (x.Path.Steps.map Zw7),.sl 4 (x.Filters.map ZxS),.sl 2 (x.Columns.map ZyZ)]
def ZyO (x:Zr5):List (Lf Zww):=[⟨(.int .i64),x.View.Path.Start⟩,⟨(.sl (.st 7)),x.View.Path.Steps⟩,⟨(.sl (.st 11)),x.View.Filters⟩,⟨(.sl (.st 1)),x.View.Columns⟩,⟨(.int .i64),x.Rows⟩]
def Zyz:List (Lf Zww)→Option Zr5
 | [c0,c1,c2,c3,c4]=>(c0.as (.int .i64)).bind fun a0=>(c1.as (.sl (.st 7))).bind fun a1=>(c2.as (.sl (.st 11))).bind fun a2=>(c3.as (.sl (.st 1))).bind fun a3=>(c4.as (.int .i64)).bind fun a4=>some (Zr5.mk (Zt4.mk (Zqn.mk a0 a1) a2 a3) a4)
 |_=>none
theorem Zz0 (cs:List (Lf Zww)) (x:Zr5) (h:Zyz cs=some x):ZyO x=cs:=by
 unfold Zyz at h;split at h;rotate_left;simp at h
 repeat (replace h:=ZvO h;obtain⟨_,rfl,h⟩:=h)
 obtain rfl:=Option.some.inj h;rfl
def Zzp (x:Zr5):P:= .agg [.int .i64 x.View.Path.Start,.sl 4 (x.View.Path.Steps.map Zw7),.sl 4 (x.View.Filters.map ZxS),.sl 2 (x.View.Columns.map ZyZ),.int .i64 x.Rows]
def Zys (x:Zos):List (Lf Zww):=[⟨(.sl (.st 4)),x.Hits⟩,⟨(.sl (.st 5)),x.Matches⟩,⟨(.sl (.st 6)),x.Correlated⟩,⟨(.sl (.st 10)),x.Routes⟩,⟨(.sl (.st 13)),x.Found⟩]
def Zyl:List (Lf Zww)→Option Zos
 | [c0,c1,c2,c3,c4]=>(c0.as (.sl (.st 4))).bind fun a0=>(c1.as (.sl (.st 5))).bind fun a1=>(c2.as (.sl (.st 6))).bind fun a2=>(c3.as (.sl (.st 10))).bind fun a3=>(c4.as (.sl (.st 13))).bind fun a4=>some (Zos.mk a0 a1 a2 a3 a4)
 |_=>none
theorem ZzR (cs:List (Lf Zww)) (x:Zos) (h:Zyl cs=some x):Zys x=cs:=by
 unfold Zyl at h;split at h;rotate_left;simp at h
 repeat (replace h:=ZvO h;obtain⟨_,rfl,h⟩:=h)
 obtain rfl:=Option.some.inj h;rfl
def ZAg (x:Zos):P:= .agg [.sl 6 (x.Hits.map ZzS),.sl 6 (x.Matches.map Zzo),.sl 10 (x.Correlated.map ZxV),.sl 6 (x.Routes.map Zzn),.sl 5 (x.Found.map Zzp)]
def Zy9 (x:Zvu):List (Lf Zww):=[⟨.bool,x.Null⟩,⟨.str,x.Text⟩]
def ZyV:List (Lf Zww)→Option Zvu
 | [c0,c1]=>(c0.as .bool).bind fun a0=>(c1.as .str).bind fun a1=>some (Zvu.mk a0 a1)
 |_=>none
theorem ZAe (cs:List (Lf Zww)) (x:Zvu) (h:ZyV cs=some x):Zy9 x=cs:=by
 unfold ZyV at h;split at h;rotate_left;simp at h
 repeat (replace h:=ZvO h;obtain⟨_,rfl,h⟩:=h)
 obtain rfl:=Option.some.inj h;rfl
def ZzD (x:Zvu):P:= .agg [.bool x.Null,.str x.Text]
def Zyr (x:ZqJ):List (Lf Zww):=[⟨.str,x.Name⟩,⟨(.sl (.st 15)),x.Cells⟩]
def Zyk:List (Lf Zww)→Option ZqJ
 | [c0,c1]=>(c0.as .str).bind fun a0=>(c1.as (.sl (.st 15))).bind fun a1=>some (ZqJ.mk a0 a1)
 |_=>none
theorem ZzQ (cs:List (Lf Zww)) (x:ZqJ) (h:Zyk cs=some x):Zyr x=cs:=by
 unfold Zyk at h;split at h;rotate_left;simp at h
 repeat (replace h:=ZvO h;obtain⟨_,rfl,h⟩:=h)
 obtain rfl:=Option.some.inj h;rfl
def ZxT (x:ZqJ):P:= .agg [.str x.Name,.sl 2 (x.Cells.map ZzD)]
def ZyK (x:Zr3):List (Lf Zww):=[⟨(.int .i64),x.ID⟩,⟨.str,x.Name⟩,⟨(.sl (.st 16)),x.Columns⟩]
def Zyv:List (Lf Zww)→Option Zr3
 | [c0,c1,c2]=>(c0.as (.int .i64)).bind fun a0=>(c1.as .str).bind fun a1=>(c2.as (.sl (.st 16))).bind fun a2=>some (Zr3.mk a0 a1 a2)
 |_=>none
theorem ZzW (cs:List (Lf Zww)) (x:Zr3) (h:Zyv cs=some x):ZyK x=cs:=by
 unfold Zyv at h;split at h;rotate_left;simp at h
 repeat (replace h:=ZvO h;obtain⟨_,rfl,h⟩:=h)
 obtain rfl:=Option.some.inj h;rfl
def ZAB (x:Zr3):P:= .agg [.int .i64 x.ID,.str x.Name,.sl 2 (x.Columns.map ZxT)]
def ZyM (x:Zpl):List (Lf Zww):=[⟨(.int .i64),x.Kind⟩,⟨(.int .i64),x.Column⟩,⟨(.int .i64),x.Other⟩,⟨(.int .i64),x.K⟩,⟨(.int .i64),x.Table.ID⟩,⟨.str,x.Table.Name⟩,⟨(.sl (.st 16)),x.Table.Columns⟩]
def Zyx:List (Lf Zww)→Option Zpl
 | [c0,c1,c2,c3,c4,c5,c6]=>(c0.as (.int .i64)).bind fun a0=>(c1.as (.int .i64)).bind fun a1=>(c2.as (.int .i64)).bind fun a2=>(c3.as (.int .i64)).bind fun a3=>(c4.as (.int .i64)).bind fun a4=>(c5.as .str).bind fun a5=>(c6.as (.sl (.st 16))).bind fun a6=>some (Zpl.mk a0 a1 a2 a3 (Zr3.mk a4 a5 a6))
 |_=>none
theorem ZzY (cs:List (Lf Zww)) (x:Zpl) (h:Zyx cs=some x):ZyM x=cs:=by
 unfold Zyx at h;split at h;rotate_left;simp at h
 repeat (replace h:=ZvO h;obtain⟨_,rfl,h⟩:=h)
 obtain rfl:=Option.some.inj h;rfl
def ZAC (x:Zpl):P:= .agg [.int .i64 x.Kind,.int .i64 x.Column,.int .i64 x.Other,.int .i64 x.K,.int .i64 x.Table.ID,.str x.Table.Name,.sl 2 (x.Table.Columns.map ZxT)]
def ZGe:(n:Nat)→Zww n→List (Lf Zww)
 |0,x=>Zy6 x
 |1,x=>Zzr x
 |2,x=>Zzt x
 |3,x=>ZxW x
 |4,x=>Zzs x
 |5,x=>ZyN x
 |6,x=>Zxt x
 |7,x=>Zy7 x
 |8,x=>Zy8 x
 |9,x=>Zyp x
 |10,x=>ZyL x
 |11,x=>Zyq x
 |12,x=>Zy5 x
 |13,x=>ZyO x
 |14,x=>Zys x
 |15,x=>Zy9 x
 |16,x=>Zyr x
 |17,x=>ZyK x
 |18,x=>ZyM x
 |_+19,_=>[]
def ofU:(n:Nat)→List (Lf Zww)→Option (Zww n)
 |0,cs=>ZyS cs
 |1,cs=>Zzh cs
 |2,cs=>Zzj cs
 |3,cs=>Zxw cs
 |4,cs=>Zzi cs
 |5,cs=>Zyy cs
 |6,cs=>Zxc cs
 |7,cs=>ZyT cs
 |8,cs=>ZyU cs
 |9,cs=>Zyi cs
 |10,cs=>Zyw cs
 |11,cs=>Zyj cs
 |12,cs=>ZyR cs
 |13,cs=>Zyz cs
 |14,cs=>Zyl cs
 |15,cs=>ZyV cs
 |16,cs=>Zyk cs
 |17,cs=>Zyv cs
 |18,cs=>Zyx cs
 |_+19,cs=>match cs with | []=>some () |_=>none
def encU:(n:Nat)→Zww n→P
 |0,x=>ZAM x
 |1,x=>ZyZ x
 |2,x=>ZA3 x
 |3,x=>ZzT x
 |4,x=>ZzS x
 |5,x=>Zzo x
 |6,x=>ZxV x
 |7,x=>Zw7 x
 |8,x=>ZAN x
 |9,x=>ZAf x
 |10,x=>Zzn x
 |11,x=>ZxS x
 |12,x=>ZAL x
 |13,x=>Zzp x
 |14,x=>ZAg x
 |15,x=>ZzD x
 |16,x=>ZxT x
 |17,x=>ZAB x
 |18,x=>ZAC x
 |_+19,_=> .agg []
@[reducible] def U:Zc:=⟨Zww,ZHT,ZGe,ofU,encU⟩
theorem uok:UOk U where
 of_cells:=fun n cs x h=>match n,x,h with
  |0,x,h=>ZAb cs x h
  |1,x,h=>ZAt cs x h
  |2,x,h=>ZAv cs x h
  |3,x,h=>Zzx cs x h
  |4,x,h=>ZAu cs x h
  |5,x,h=>ZzZ cs x h
  |6,x,h=>Zzd cs x h
  |7,x,h=>ZAc cs x h
  |8,x,h=>ZAd cs x h
  |9,x,h=>ZzO cs x h
  |10,x,h=>ZzX cs x h
  |11,x,h=>ZzP cs x h
  |12,x,h=>ZAa cs x h
  |13,x,h=>Zz0 cs x h
  |14,x,h=>ZzR cs x h
  |15,x,h=>ZAe cs x h
  |16,x,h=>ZzQ cs x h
  |17,x,h=>ZzW cs x h
  |18,x,h=>ZzY cs x h
  |_+19,x,h=>by
   match cs,h with
   | [],h=>rfl
 enc_cells:=fun n x=>match n,x with
  |0,x=>rfl
  |1,x=>rfl
  |2,x=>rfl
  |3,x=>rfl
  |4,x=>rfl
  |5,x=>rfl
  |6,x=>rfl
  |7,x=>rfl
  |8,x=>rfl
  |9,x=>rfl
  |10,x=>rfl
  |11,x=>rfl
  |12,x=>rfl
  |13,x=>rfl
  |14,x=>rfl
  |15,x=>rfl
  |16,x=>rfl
  |17,x=>rfl
  |18,x=>rfl
  |_+19,x=>rfl
 len:=fun n x=>match n,x with
  |0,x=>rfl
  |1,x=>rfl
  |2,x=>rfl
  |3,x=>rfl
  |4,x=>rfl
  |5,x=>rfl
  |6,x=>rfl
  |7,x=>rfl
  |8,x=>rfl
  |9,x=>rfl
  |10,x=>rfl
  |11,x=>rfl
  |12,x=>rfl
  |13,x=>rfl
  |14,x=>rfl
  |15,x=>rfl
  |16,x=>rfl
  |17,x=>rfl
  |18,x=>rfl
  |_+19,x=>rfl
noncomputable def tt0:List (Option (TT U)):=[
 none,
 some ⟨⟨.func,1,8,[.p .nilfn]⟩,none,.fnc,[.nilfn],some ⟨.fnc,(none:Option Nat)⟩⟩,
 some ⟨⟨.int .i64,1,8,[.p (.int .i64 0)]⟩,none,(.int .i64),[.v (.int .i64) (0:Int)],some ⟨(.int .i64),(0:Int)⟩⟩,
 some ⟨⟨.int .i64,1,8,[.p (.int .i64 0)]⟩,none,(.int .i64),[.v (.int .i64) (0:Int)],some ⟨(.int .i64),(0:Int)⟩⟩,
 some ⟨⟨.bool,1,1,[.p (.bool false)]⟩,none,.bool,[.v .bool false],some ⟨.bool,false⟩⟩,
 some ⟨⟨.int .u8,1,1,[.p (.int .u8 0)]⟩,none,(.int .u8),[.v (.int .u8) (0:Int)],some ⟨(.int .u8),(0:Int)⟩⟩,
 none,
 none,
 none,
 some ⟨⟨.str,1,16,[.p (.str [])]⟩,none,.str,[.v .str ([]:Str)],some ⟨.str,([]:Str)⟩⟩,
 none,
 none,
 none,
 none,
 none,
 none,
 none,
 none,
 none,
 none,
 none,
 none,
 some ⟨⟨.sl 5,1,24,[.nils 1]⟩,none,(.sl (.int .u8)),[.nils (.int .u8)],some ⟨(.sl (.int .u8)),[]⟩⟩,
 none,
 some ⟨⟨.sl 31,1,24,[.nils 5]⟩,none,(.sl (.st 14)),[.nils (.st 14)],some ⟨(.sl (.st 14)),[]⟩⟩,
 some ⟨⟨.sl 41,1,24,[.nils 6]⟩,none,(.sl (.st 4)),[.nils (.st 4)],some ⟨(.sl (.st 4)),[]⟩⟩,
 some ⟨⟨.sl 80,1,24,[.nils 6]⟩,none,(.sl (.st 5)),[.nils (.st 5)],some ⟨(.sl (.st 5)),[]⟩⟩,
 some ⟨⟨.sl 84,1,24,[.nils 10]⟩,none,(.sl (.st 6)),[.nils (.st 6)],some ⟨(.sl (.st 6)),[]⟩⟩,
 some ⟨⟨.sl 68,1,24,[.nils 6]⟩,none,(.sl (.st 10)),[.nils (.st 10)],some ⟨(.sl (.st 10)),[]⟩⟩,
 some ⟨⟨.sl 75,1,24,[.nils 5]⟩,none,(.sl (.st 13)),[.nils (.st 13)],some ⟨(.sl (.st 13)),[]⟩⟩,
 some ⟨⟨.struct [(0,25),(1,26),(2,27),(3,28),(4,29)],5,120,[.nils 6,.nils 6,.nils 10,.nils 6,.nils 5]⟩,some 14,(.st 14),[.nils (.st 4),.nils (.st 5),.nils (.st 6),.nils (.st 10),.nils (.st 13)],some ⟨(.st 14),(Zos.mk ([]:(List ZoL)) ([]:(List Zqz)) ([]:(List ZoI)) ([]:(List Zr4)) ([]:(List Zr5)))⟩⟩,
 some ⟨⟨.struct [(0,25),(1,26),(2,27),(3,28),(4,29)],5,120,[.nils 6,.nils 6,.nils 10,.nils 6,.nils 5]⟩,some 14,(.st 14),[.nils (.st 4),.nils (.st 5),.nils (.st 6),.nils (.st 10),.nils (.st 13)],some ⟨(.st 14),(Zos.mk ([]:(List ZoL)) ([]:(List Zqz)) ([]:(List ZoI)) ([]:(List Zr4)) ([]:(List Zr5)))⟩⟩,
 some ⟨⟨.struct [(0,3),(1,3)],2,16,[.p (.int .i64 0),.p (.int .i64 0)]⟩,some 1,(.st 1),[.v (.int .i64) (0:Int),.v (.int .i64) (0:Int)],some ⟨(.st 1),(Zov.mk 0 0)⟩⟩,
 some ⟨⟨.struct [(0,3),(1,3)],2,16,[.p (.int .i64 0),.p (.int .i64 0)]⟩,some 1,(.st 1),[.v (.int .i64) (0:Int),.v (.int .i64) (0:Int)],some ⟨(.st 1),(Zov.mk 0 0)⟩⟩,
 some ⟨⟨.sl 116,1,24,[.nils 1]⟩,none,(.sl (.int .u32)),[.nils (.int .u32)],some ⟨(.sl (.int .u32)),[]⟩⟩,
 some ⟨⟨.struct [(0,4),(1,34)],2,32,[.p (.bool false),.nils 1]⟩,some 2,(.st 2),[.v .bool false,.nils (.int .u32)],some ⟨(.st 2),(Zoq.mk false ([]:(List Int)))⟩⟩,
 some ⟨⟨.struct [(0,4),(1,34)],2,32,[.p (.bool false),.nils 1]⟩,some 2,(.st 2),[.v .bool false,.nils (.int .u32)],some ⟨(.st 2),(Zoq.mk false ([]:(List Int)))⟩⟩,
 some ⟨⟨.struct [(0,36),(2,36)],4,64,[.p (.bool false),.nils 1,.p (.bool false),.nils 1]⟩,some 3,(.st 3),[.v .bool false,.nils (.int .u32),.v .bool false,.nils (.int .u32)],some ⟨(.st 3),(Zor.mk (Zoq.mk false ([]:(List Int))) (Zoq.mk false ([]:(List Int))))⟩⟩,
 some ⟨⟨.struct [(0,36),(2,36)],4,64,[.p (.bool false),.nils 1,.p (.bool false),.nils 1]⟩,some 3,(.st 3),[.v .bool false,.nils (.int .u32),.v .bool false,.nils (.int .u32)],some ⟨(.st 3),(Zor.mk (Zoq.mk false ([]:(List Int))) (Zoq.mk false ([]:(List Int))))⟩⟩,
 none,
 some ⟨⟨.struct [(0,33),(2,38)],6,80,[.p (.int .i64 0),.p (.int .i64 0),.p (.bool false),.nils 1,.p (.bool false),.nils 1]⟩,some 4,(.st 4),[.v (.int .i64) (0:Int),.v (.int .i64) (0:Int),.v .bool false,.nils (.int .u32),.v .bool false,.nils (.int .u32)],some ⟨(.st 4),(ZoL.mk (Zov.mk 0 0) (Zor.mk (Zoq.mk false ([]:(List Int))) (Zoq.mk false ([]:(List Int)))))⟩⟩,
 some ⟨⟨.struct [(0,33),(2,38)],6,80,[.p (.int .i64 0),.p (.int .i64 0),.p (.bool false),.nils 1,.p (.bool false),.nils 1]⟩,some 4,(.st 4),[.v (.int .i64) (0:Int),.v (.int .i64) (0:Int),.v .bool false,.nils (.int .u32),.v .bool false,.nils (.int .u32)],some ⟨(.st 4),(ZoL.mk (Zov.mk 0 0) (Zor.mk (Zoq.mk false ([]:(List Int))) (Zoq.mk false ([]:(List Int)))))⟩⟩,
 none,
 some ⟨⟨.int .i64,1,8,[.p (.int .i64 0)]⟩,none,(.int .i64),[.v (.int .i64) (0:Int)],some ⟨(.int .i64),(0:Int)⟩⟩,
 none,
 none,
 some ⟨⟨.sl 215,1,24,[.nils 2]⟩,none,(.sl (.st 16)),[.nils (.st 16)],some ⟨(.sl (.st 16)),[]⟩⟩,
 some ⟨⟨.struct [(0,3),(1,9),(2,46)],3,48,[.p (.int .i64 0),.p (.str []),.nils 2]⟩,some 17,(.st 17),[.v (.int .i64) (0:Int),.v .str ([]:Str),.nils (.st 16)],some ⟨(.st 17),(Zr3.mk 0 ([]:Str) ([]:(List ZqJ)))⟩⟩,
 some ⟨⟨.struct [(0,3),(1,9),(2,46)],3,48,[.p (.int .i64 0),.p (.str []),.nils 2]⟩,some 17,(.st 17),[.v (.int .i64) (0:Int),.v .str ([]:Str),.nils (.st 16)],some ⟨(.st 17),(Zr3.mk 0 ([]:Str) ([]:(List ZqJ)))⟩⟩,
 some ⟨⟨.struct [(0,3),(1,3),(2,3),(3,3),(4,48)],7,80,[.p (.int .i64 0),.p (.int .i64 0),.p (.int .i64 0),.p (.int .i64 0),.p (.int .i64 0),.p (.str []),.nils 2]⟩,some 18,(.st 18),[.v (.int .i64) (0:Int),.v (.int .i64) (0:Int),.v (.int .i64) (0:Int),.v (.int .i64) (0:Int),.v (.int .i64) (0:Int),.v .str ([]:Str),.nils (.st 16)],some ⟨(.st 18),(Zpl.mk 0 0 0 0 (Zr3.mk 0 ([]:Str) ([]:(List ZqJ))))⟩⟩,
 some ⟨⟨.struct [(0,3),(1,3),(2,3),(3,3),(4,48)],7,80,[.p (.int .i64 0),.p (.int .i64 0),.p (.int .i64 0),.p (.int .i64 0),.p (.int .i64 0),.p (.str []),.nils 2]⟩,some 18,(.st 18),[.v (.int .i64) (0:Int),.v (.int .i64) (0:Int),.v (.int .i64) (0:Int),.v (.int .i64) (0:Int),.v (.int .i64) (0:Int),.v .str ([]:Str),.nils (.st 16)],some ⟨(.st 18),(Zpl.mk 0 0 0 0 (Zr3.mk 0 ([]:Str) ([]:(List ZqJ))))⟩⟩,
 some ⟨⟨.map 3 4,1,8,[.p (.map (.int .i64) [])]⟩,none,(.map (.int .i64) .bool),[.v (.map (.int .i64) .bool) []],some ⟨(.map (.int .i64) .bool),[]⟩⟩,
 none,
 none,
 some ⟨⟨.sl 58,1,24,[.nils 2]⟩,none,(.sl (.st 0)),[.nils (.st 0)],some ⟨(.sl (.st 0)),[]⟩⟩,
 none,
 none,
 some ⟨⟨.struct [(0,3),(1,3)],2,16,[.p (.int .i64 0),.p (.int .i64 0)]⟩,some 0,(.st 0),[.v (.int .i64) (0:Int),.v (.int .i64) (0:Int)],some ⟨(.st 0),(Zq1.mk 0 0)⟩⟩,
 some ⟨⟨.struct [(0,3),(1,3)],2,16,[.p (.int .i64 0),.p (.int .i64 0)]⟩,some 0,(.st 0),[.v (.int .i64) (0:Int),.v (.int .i64) (0:Int)],some ⟨(.st 0),(Zq1.mk 0 0)⟩⟩,
 none,
 none,
 some ⟨⟨.sl 131,1,24,[.nils 4]⟩,none,(.sl (.st 7)),[.nils (.st 7)],some ⟨(.sl (.st 7)),[]⟩⟩,
 some ⟨⟨.struct [(0,3),(1,61)],2,32,[.p (.int .i64 0),.nils 4]⟩,some 8,(.st 8),[.v (.int .i64) (0:Int),.nils (.st 7)],some ⟨(.st 8),(Zqn.mk 0 ([]:(List Zp0)))⟩⟩,
 some ⟨⟨.struct [(0,3),(1,61)],2,32,[.p (.int .i64 0),.nils 4]⟩,some 8,(.st 8),[.v (.int .i64) (0:Int),.nils (.st 7)],some ⟨(.st 8),(Zqn.mk 0 ([]:(List Zp0)))⟩⟩,
 some ⟨⟨.sl 3,1,24,[.nils 1]⟩,none,(.sl (.int .i64)),[.nils (.int .i64)],some ⟨(.sl (.int .i64)),[]⟩⟩,
 some ⟨⟨.struct [(0,3),(1,3),(2,3),(3,64)],4,48,[.p (.int .i64 0),.p (.int .i64 0),.p (.int .i64 0),.nils 1]⟩,some 9,(.st 9),[.v (.int .i64) (0:Int),.v (.int .i64) (0:Int),.v (.int .i64) (0:Int),.nils (.int .i64)],some ⟨(.st 9),(Zsa.mk 0 0 0 ([]:(List Int)))⟩⟩,
 some ⟨⟨.struct [(0,3),(1,3),(2,3),(3,64)],4,48,[.p (.int .i64 0),.p (.int .i64 0),.p (.int .i64 0),.nils 1]⟩,some 9,(.st 9),[.v (.int .i64) (0:Int),.v (.int .i64) (0:Int),.v (.int .i64) (0:Int),.nils (.int .i64)],some ⟨(.st 9),(Zsa.mk 0 0 0 ([]:(List Int)))⟩⟩,
 some ⟨⟨.struct [(0,63),(2,66)],6,80,[.p (.int .i64 0),.nils 4,.p (.int .i64 0),.p (.int .i64 0),.p (.int .i64 0),.nils 1]⟩,some 10,(.st 10),[.v (.int .i64) (0:Int),.nils (.st 7),.v (.int .i64) (0:Int),.v (.int .i64) (0:Int),.v (.int .i64) (0:Int),.nils (.int .i64)],some ⟨(.st 10),(Zr4.mk (Zqn.mk 0 ([]:(List Zp0))) (Zsa.mk 0 0 0 ([]:(List Int))))⟩⟩,
 some ⟨⟨.struct [(0,63),(2,66)],6,80,[.p (.int .i64 0),.nils 4,.p (.int .i64 0),.p (.int .i64 0),.p (.int .i64 0),.nils 1]⟩,some 10,(.st 10),[.v (.int .i64) (0:Int),.nils (.st 7),.v (.int .i64) (0:Int),.v (.int .i64) (0:Int),.v (.int .i64) (0:Int),.nils (.int .i64)],some ⟨(.st 10),(Zr4.mk (Zqn.mk 0 ([]:(List Zp0))) (Zsa.mk 0 0 0 ([]:(List Int))))⟩⟩,
 none,
 some ⟨⟨.sl 110,1,24,[.nils 4]⟩,none,(.sl (.st 11)),[.nils (.st 11)],some ⟨(.sl (.st 11)),[]⟩⟩,
 some ⟨⟨.sl 33,1,24,[.nils 2]⟩,none,(.sl (.st 1)),[.nils (.st 1)],some ⟨(.sl (.st 1)),[]⟩⟩,
 some ⟨⟨.struct [(0,63),(2,70),(3,71)],4,80,[.p (.int .i64 0),.nils 4,.nils 4,.nils 2]⟩,some 12,(.st 12),[.v (.int .i64) (0:Int),.nils (.st 7),.nils (.st 11),.nils (.st 1)],some ⟨(.st 12),(Zt4.mk (Zqn.mk 0 ([]:(List Zp0))) ([]:(List ZpB)) ([]:(List Zov)))⟩⟩,
 some ⟨⟨.struct [(0,63),(2,70),(3,71)],4,80,[.p (.int .i64 0),.nils 4,.nils 4,.nils 2]⟩,some 12,(.st 12),[.v (.int .i64) (0:Int),.nils (.st 7),.nils (.st 11),.nils (.st 1)],some ⟨(.st 12),(Zt4.mk (Zqn.mk 0 ([]:(List Zp0))) ([]:(List ZpB)) ([]:(List Zov)))⟩⟩,
 some ⟨⟨.struct [(0,73),(4,3)],5,88,[.p (.int .i64 0),.nils 4,.nils 4,.nils 2,.p (.int .i64 0)]⟩,some 13,(.st 13),[.v (.int .i64) (0:Int),.nils (.st 7),.nils (.st 11),.nils (.st 1),.v (.int .i64) (0:Int)],some ⟨(.st 13),(Zr5.mk (Zt4.mk (Zqn.mk 0 ([]:(List Zp0))) ([]:(List ZpB)) ([]:(List Zov))) 0)⟩⟩,
 some ⟨⟨.struct [(0,73),(4,3)],5,88,[.p (.int .i64 0),.nils 4,.nils 4,.nils 2,.p (.int .i64 0)]⟩,some 13,(.st 13),[.v (.int .i64) (0:Int),.nils (.st 7),.nils (.st 11),.nils (.st 1),.v (.int .i64) (0:Int)],some ⟨(.st 13),(Zr5.mk (Zt4.mk (Zqn.mk 0 ([]:(List Zp0))) ([]:(List ZpB)) ([]:(List Zov))) 0)⟩⟩,
 none,
 some ⟨⟨.func,1,8,[.p .nilfn]⟩,none,.fnc,[.nilfn],some ⟨.fnc,(none:Option Nat)⟩⟩,
 none,
 some ⟨⟨.struct [(0,3),(1,64),(2,38)],6,96,[.p (.int .i64 0),.nils 1,.p (.bool false),.nils 1,.p (.bool false),.nils 1]⟩,some 5,(.st 5),[.v (.int .i64) (0:Int),.nils (.int .i64),.v .bool false,.nils (.int .u32),.v .bool false,.nils (.int .u32)],some ⟨(.st 5),(Zqz.mk 0 ([]:(List Int)) (Zor.mk (Zoq.mk false ([]:(List Int))) (Zoq.mk false ([]:(List Int)))))⟩⟩,
 some ⟨⟨.struct [(0,3),(1,64),(2,38)],6,96,[.p (.int .i64 0),.nils 1,.p (.bool false),.nils 1,.p (.bool false),.nils 1]⟩,some 5,(.st 5),[.v (.int .i64) (0:Int),.nils (.int .i64),.v .bool false,.nils (.int .u32),.v .bool false,.nils (.int .u32)],some ⟨(.st 5),(Zqz.mk 0 ([]:(List Int)) (Zor.mk (Zoq.mk false ([]:(List Int))) (Zoq.mk false ([]:(List Int)))))⟩⟩,
 some ⟨⟨.func,1,8,[.p .nilfn]⟩,none,.fnc,[.nilfn],some ⟨.fnc,(none:Option Nat)⟩⟩,
 none,
 some ⟨⟨.struct [(0,33),(2,33),(4,38),(8,3),(9,3)],10,112,[.p (.int .i64 0),.p (.int .i64 0),.p (.int .i64 0),.p (.int .i64 0),.p (.bool false),.nils 1,.p (.bool false),.nils 1,.p (.int .i64 0),.p (.int .i64 0)]⟩,some 6,(.st 6),[.v (.int .i64) (0:Int),.v (.int .i64) (0:Int),.v (.int .i64) (0:Int),.v (.int .i64) (0:Int),.v .bool false,.nils (.int .u32),.v .bool false,.nils (.int .u32),.v (.int .i64) (0:Int),.v (.int .i64) (0:Int)],some ⟨(.st 6),(ZoI.mk (Zov.mk 0 0) (Zov.mk 0 0) (Zor.mk (Zoq.mk false ([]:(List Int))) (Zoq.mk false ([]:(List Int)))) 0 0)⟩⟩,
 some ⟨⟨.struct [(0,33),(2,33),(4,38),(8,3),(9,3)],10,112,[.p (.int .i64 0),.p (.int .i64 0),.p (.int .i64 0),.p (.int .i64 0),.p (.bool false),.nils 1,.p (.bool false),.nils 1,.p (.int .i64 0),.p (.int .i64 0)]⟩,some 6,(.st 6),[.v (.int .i64) (0:Int),.v (.int .i64) (0:Int),.v (.int .i64) (0:Int),.v (.int .i64) (0:Int),.v .bool false,.nils (.int .u32),.v .bool false,.nils (.int .u32),.v (.int .i64) (0:Int),.v (.int .i64) (0:Int)],some ⟨(.st 6),(ZoI.mk (Zov.mk 0 0) (Zov.mk 0 0) (Zor.mk (Zoq.mk false ([]:(List Int))) (Zoq.mk false ([]:(List Int)))) 0 0)⟩⟩,
 some ⟨⟨.func,1,8,[.p .nilfn]⟩,none,.fnc,[.nilfn],some ⟨.fnc,(none:Option Nat)⟩⟩,
 none,
 none,
 none,
 none,
 none,
 none,
 none,
 none,
 none,
 none,
 none,
 none,
 some ⟨⟨.func,1,8,[.p .nilfn]⟩,none,.fnc,[.nilfn],some ⟨.fnc,(none:Option Nat)⟩⟩,
 none,
 none,
 some ⟨⟨.func,1,8,[.p .nilfn]⟩,none,.fnc,[.nilfn],some ⟨.fnc,(none:Option Nat)⟩⟩,
 none,
 some ⟨⟨.func,1,8,[.p .nilfn]⟩,none,.fnc,[.nilfn],some ⟨.fnc,(none:Option Nat)⟩⟩,
 none,
 none,
 some ⟨⟨.func,1,8,[.p .nilfn]⟩,none,.fnc,[.nilfn],some ⟨.fnc,(none:Option Nat)⟩⟩,
 none,
 none,
 some ⟨⟨.struct [(0,33),(2,3),(3,9)],4,40,[.p (.int .i64 0),.p (.int .i64 0),.p (.int .i64 0),.p (.str [])]⟩,some 11,(.st 11),[.v (.int .i64) (0:Int),.v (.int .i64) (0:Int),.v (.int .i64) (0:Int),.v .str ([]:Str)],some ⟨(.st 11),(ZpB.mk (Zov.mk 0 0) 0 ([]:Str))⟩⟩,
 some ⟨⟨.struct [(0,33),(2,3),(3,9)],4,40,[.p (.int .i64 0),.p (.int .i64 0),.p (.int .i64 0),.p (.str [])]⟩,some 11,(.st 11),[.v (.int .i64) (0:Int),.v (.int .i64) (0:Int),.v (.int .i64) (0:Int),.v .str ([]:Str)],some ⟨(.st 11),(ZpB.mk (Zov.mk 0 0) 0 ([]:Str))⟩⟩,
 none,
 some ⟨⟨.func,1,8,[.p .nilfn]⟩,none,.fnc,[.nilfn],some ⟨.fnc,(none:Option Nat)⟩⟩,
 none,
 none,
 none,
 some ⟨⟨.int .u32,1,4,[.p (.int .u32 0)]⟩,none,(.int .u32),[.v (.int .u32) (0:Int)],some ⟨(.int .u32),(0:Int)⟩⟩,
 none,
 none,
 none,
 none,
 some ⟨⟨.int .u64,1,8,[.p (.int .u64 0)]⟩,none,(.int .u64),[.v (.int .u64) (0:Int)],some ⟨(.int .u64),(0:Int)⟩⟩,
 none,
 none,
 none,
 none,
 none,
 none,
 none,
 none,
 some ⟨⟨.struct [(0,33),(2,33)],4,32,[.p (.int .i64 0),.p (.int .i64 0),.p (.int .i64 0),.p (.int .i64 0)]⟩,some 7,(.st 7),[.v (.int .i64) (0:Int),.v (.int .i64) (0:Int),.v (.int .i64) (0:Int),.v (.int .i64) (0:Int)],some ⟨(.st 7),(Zp0.mk (Zov.mk 0 0) (Zov.mk 0 0))⟩⟩,
 some ⟨⟨.struct [(0,33),(2,33)],4,32,[.p (.int .i64 0),.p (.int .i64 0),.p (.int .i64 0),.p (.int .i64 0)]⟩,some 7,(.st 7),[.v (.int .i64) (0:Int),.v (.int .i64) (0:Int),.v (.int .i64) (0:Int),.v (.int .i64) (0:Int)],some ⟨(.st 7),(Zp0.mk (Zov.mk 0 0) (Zov.mk 0 0))⟩⟩,
 none,
 none,
 none,
 none,
 none,
 some ⟨⟨.int .u64,1,8,[.p (.int .u64 0)]⟩,none,(.int .u64),[.v (.int .u64) (0:Int)],some ⟨(.int .u64),(0:Int)⟩⟩,
 none,
 some ⟨⟨.int .i64,1,8,[.p (.int .i64 0)]⟩,none,(.int .i64),[.v (.int .i64) (0:Int)],some ⟨(.int .i64),(0:Int)⟩⟩,
 none,
 none,
 none,
 none,
 none,
 none,
 none,
 none,
 none,
 none,
 none,
 none,
 none,
 none,
 none,
 none,
 none,
 none,
 none,
 none,
 none,
 none,
 some ⟨⟨.int .u64,1,8,[.p (.int .u64 0)]⟩,none,(.int .u64),[.v (.int .u64) (0:Int)],some ⟨(.int .u64),(0:Int)⟩⟩,
 none,
 none,
 none,
 some ⟨⟨.ptr 3,1,8,[.p .nilp]⟩,none,.bool,[.nilp],none⟩,
 none,
 none,
 some ⟨⟨.sl 116,1,24,[.nils 1]⟩,none,(.sl (.int .u32)),[.nils (.int .u32)],some ⟨(.sl (.int .u32)),[]⟩⟩,
 none,
 none,
 none,
 none,
 none,
 none,
 none,
 none,
 some ⟨⟨.ptr 162,1,8,[.p .nilp]⟩,none,.bool,[.nilp],none⟩,
 none,
 none,
 some ⟨⟨.sl 36,1,24,[.nils 2]⟩,none,(.sl (.st 2)),[.nils (.st 2)],some ⟨(.sl (.st 2)),[]⟩⟩,
 none,
 none,
 none,
 none,
 none,
 none,
 none,
 none,
 none,
 none,
 none,
 none,
 none,
 none,
 none,
 none,
 none,
 none,
 none,
 none,
 none,
 none,
 none,
 none,
 none,
 none,
 none,
 none,
 none,
 none,
 none,
 some ⟨⟨.sl 220,1,24,[.nils 2]⟩,none,(.sl (.st 15)),[.nils (.st 15)],some ⟨(.sl (.st 15)),[]⟩⟩,
 some ⟨⟨.struct [(0,9),(1,213)],2,40,[.p (.str []),.nils 2]⟩,some 16,(.st 16),[.v .str ([]:Str),.nils (.st 15)],some ⟨(.st 16),(ZqJ.mk ([]:Str) ([]:(List Zvu)))⟩⟩,
 some ⟨⟨.struct [(0,9),(1,213)],2,40,[.p (.str []),.nils 2]⟩,some 16,(.st 16),[.v .str ([]:Str),.nils (.st 15)],some ⟨(.st 16),(ZqJ.mk ([]:Str) ([]:(List Zvu)))⟩⟩,
 none,
 none,
 none,
 some ⟨⟨.struct [(0,4),(1,9)],2,24,[.p (.bool false),.p (.str [])]⟩,some 15,(.st 15),[.v .bool false,.v .str ([]:Str)],some ⟨(.st 15),(Zvu.mk false ([]:Str))⟩⟩,
 some ⟨⟨.struct [(0,4),(1,9)],2,24,[.p (.bool false),.p (.str [])]⟩,some 15,(.st 15),[.v .bool false,.v .str ([]:Str)],some ⟨(.st 15),(Zvu.mk false ([]:Str))⟩⟩]
noncomputable def X0:ZF U:=⟨Tryz.prog,tt0,[(0,Zz5)],0,[⟨999999,14,0,(.st 4)⟩,⟨24,14,0,(.st 4)⟩]⟩
theorem tok0:TOk X0:=tok_of (by kernel_rfl) (by kernel_rfl) (by kernel_rfl) (own1 (by decide) (fun x=>x.Hits) (fun _=>rfl) (own1 (by decide) (fun x=>x.Hits) (fun _=>rfl) own0))
theorem eok0:Zn X0.E:=⟨by kernel_rfl⟩
theorem ZHY:X0.prog.follows .mixedOrders=true:=by kernel_rfl
theorem G0:Gnd X0:=⟨uok,tok0,eok0,ZHY⟩
end Go.Proofs
