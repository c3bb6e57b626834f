/- Printed by wip/tools/tgen.py: specs. -/
import Derived.Test.YtpkmihjnkbkcjaaGreatDoorE4
import Derived.Test.YtpkmihjnkbkcjaaGreatDoorWtWD
set_option linter.unusedVariables false
set_option linter.unusedSimpArgs false
set_option linter.unusedSectionVars false
namespace Go.Proofs
open Go Eng
set_option maxRecDepth 100000
noncomputable section
structure Zq1 where
 From:Int
 To:Int
 deriving DecidableEq,Inhabited
structure Zov where
 Table:Int
 Column:Int
 deriving DecidableEq,Inhabited
structure Zoq where
 Neg:Bool
 Words:(List Int)
 deriving DecidableEq,Inhabited
structure Zor where
 Num:Zoq
 Den:Zoq
 deriving DecidableEq,Inhabited
structure ZoL where
 Ref:Zov
 Score:Zor
 deriving DecidableEq,Inhabited
structure Zqz where
 Table:Int
 Align:(List Int)
 Score:Zor
 deriving DecidableEq,Inhabited
structure ZoI where
 Key:Zov
 Value:Zov
 Score:Zor
 Sign:Int
 N:Int
 deriving DecidableEq,Inhabited
structure Zp0 where
 From:Zov
 To:Zov
 deriving DecidableEq,Inhabited
structure Zqn where
 Start:Int
 Steps:(List Zp0)
 deriving DecidableEq,Inhabited
structure Zsa where
 Rows:Int
 Lost:Int
 Most:Int
 Unused:(List Int)
 deriving DecidableEq,Inhabited
structure Zr4 where
 Path:Zqn
 Report:Zsa
 deriving DecidableEq,Inhabited
structure ZpB where
 Column:Zov
 Kind:Int
 Text:Str
 deriving DecidableEq,Inhabited
structure Zt4 where
 Path:Zqn
 Filters:(List ZpB)
 Columns:(List Zov)
 deriving DecidableEq,Inhabited
structure Zr5 where
 View:Zt4
 Rows:Int
 deriving DecidableEq,Inhabited
structure Zos where
 Hits:(List ZoL)
 Matches:(List Zqz)
 Correlated:(List ZoI)
 Routes:(List Zr4)
 Found:(List Zr5)
 deriving DecidableEq,Inhabited
structure Zvu where
 Null:Bool
 Text:Str
 deriving DecidableEq,Inhabited
structure ZqJ where
 Name:Str
 Cells:(List Zvu)
 deriving DecidableEq,Inhabited
structure Zr3 where
 ID:Int
 Name:Str
 Columns:(List ZqJ)
 deriving DecidableEq,Inhabited
structure Zpl where
 Kind:Int
 Column:Int
 Other:Int
 K:Int
 Table:Zr3
 deriving DecidableEq,Inhabited
def Zww:Nat→Type
 |0=>Zq1
 |1=>Zov
 |2=>Zoq
 |3=>Zor
 |4=>ZoL
 |5=>Zqz
 |6=>ZoI
 |7=>Zp0
 |8=>Zqn
 |9=>Zsa
 |10=>Zr4
 |11=>ZpB
 |12=>Zt4
 |13=>Zr5
 |14=>Zos
 |15=>Zvu
 |16=>ZqJ
 |17=>Zr3
 |18=>Zpl
 |_=>Unit
def ZHT:Nat→Nat
 |0=>2
 |1=>2
 |2=>2
 |3=>4
 |4=>6
 |5=>6
 |6=>10
 |7=>4
 |8=>2
 |9=>4
 |10=>6
 |11=>4
 |12=>4
 |13=>5
 |14=>5
 |15=>2
 |16=>2
 |17=>3
 |18=>7
 |_=>0
def Zz5:List (Lf Zww):=[⟨.sl (.int .u32),([1]:List Int)⟩]
abbrev Zop:Type:=List Int
abbrev ZoA:Type:=List ZoL
abbrev ZvQ:Type:=List Zqz
abbrev ZvP:Type:=List ZoI
abbrev ZyB:Type:=List Zr4
abbrev ZyA:Type:=List Zr5
abbrev ZA7:Type:=List Zos
abbrev ZDK:Type:=Option (Zpl×ZoA×ZvQ×ZvP×ZyB×ZyA×ZoA×ZvQ×ZvP×ZyB×ZyA)
abbrev ZEF:Type:=Option (Out (Zop×Zos×(List (Int×Bool))) Bool)
abbrev ZFc:Type:=Option (Nat×Nat×Zop×Int×Int×Int×Int×Zop)
abbrev ZFb:Type:=Option (Zop×Int×Int×Zop×Int×Int×Zop)
abbrev ZEx:Type:=Option (Nat×Nat×Zop×Int×Int×Zop)
abbrev ZFa:Type:=Option (Nat×Nat×Int×Int×Int×Zop)
abbrev ZE9:Type:=Option (Zop×Zop×Int×Int×Zop)
abbrev ZBm:Type:=Option (Int×Int×Int×Int×ZoA)
abbrev ZIi:Type:=Option ((List Zq1)×Int)
abbrev ZE8:Type:=Option (Nat×Nat×Zop×Zop)
abbrev ZCb:Type:=Option (Int×Int×Zop×Zop)
abbrev ZBE:Type:=Option (Zop×Int×ZA7×Nat)
abbrev Zvb:Type:=Option (Int×Int×Int×ZoA)
abbrev ZGk:Type:=Option (Int×Int×ZoA×Int)
abbrev ZAO:Type:=Option (Out ZoA (Bool×ZoA))
abbrev ZDq:Type:=Option (Int×Int×Int×ZvQ)
abbrev ZDp:Type:=Option (Int×Int×Int×ZvP)
abbrev ZEE:Type:=Option (Zor×Int)
abbrev ZED:Type:=Option (Zos×Int)
abbrev ZBp:Type:=Option (Zop×Zop×Int)
abbrev ZCJ:Type:=Option (Int×Bool×ZoA)
abbrev ZAI:Type:=Option (Nat×Nat×Zop)
abbrev ZDo:Type:=Option (Int×ZoA×Int)
abbrev ZAj:Type:=Option (Int×Int×ZoA)
abbrev ZEC:Type:=Option (List Zq1)
abbrev Zy0:Type:=Option (Out Unit Bool)
abbrev ZBo:Type:=Option (Out ZoA ZoA)
abbrev ZAH:Type:=Option (Out Unit ZoA)
abbrev ZEB:Type:=Option (Out Unit ZvQ)
abbrev ZEA:Type:=Option (Out Unit ZvP)
abbrev ZAi:Type:=Option (Out Unit Int)
abbrev ZAh:Type:=Option (Zop×Zop)
abbrev ZEz:Type:=Option (Out Int Int)
abbrev ZEy:Type:=Option (Bool×ZoA)
abbrev ZwJ:Type:=Option (Int×Zop)
abbrev ZBn:Type:=Option (Zop×Int)
abbrev ZAG:Type:=Option (Int×ZoA)
abbrev ZCI:Type:=Option (Int×Int)
abbrev ZIj:Type:=ZA7→Int→Int→Zpl→ZoA→ZvQ→ZvP→ZyB→ZyA→ZoA→ZvQ→ZvP→ZyB→ZyA→ZDK
abbrev Tf_1:Type:=Zop→ZoA→Int→Int→Zos→(List (Int×Bool))→ZEF
abbrev Tf_2:Type:=Zop→Int→Int→Zos→(List (Int×Bool))→Zy0
abbrev Tf_3:Type:=Zop→Zop→Int→Zop→Int→Int→ZA7→Nat→ZBE
abbrev Tf_4:Type:=Nat→Nat→Zop→Int→Int→Int→Zop→ZEx
abbrev Tf_5:Type:=Int→Int→Int→Int→ZoA→Int→Option ZoA
abbrev Tf_6:Type:=(Zop×Zop×Int×Int×Zop)→Option Zop
abbrev ZHL:Type:=Zop→Zop→Int→Int→Zop→Option Zop
abbrev ZFd:Type:=Int→Int→Int→Bool→Bool→ZoA→ZAH
abbrev Tf_9:Type:=(Int×Int×Int×Int×Int×ZoA)→ZBm
abbrev ZGw:Type:=Int→Int→Int→Int→Int→ZoA→ZBm
abbrev ZGv:Type:=Zop→Zop→Zop→Int→Zop→ZAh
abbrev ZGu:Type:=(Int×Int×Int×Int×ZoA)→Zvb
abbrev ZGt:Type:=Zop→Zop→Int→Zop→Option Zop
abbrev ZDt:Type:=Zop→Zop→Int→Int→Zop→ZwJ
abbrev ZGs:Type:=Zop→Int→Int→Zop→Option Zop
abbrev ZEK:Type:=Int→Int→Int→ZoA→Option ZoA
abbrev ZEJ:Type:=Int→Int→Int→Int→ZoA→Zvb
abbrev ZCL:Type:=Int→Int→Int→Int→ZoA→ZAO
abbrev ZGr:Type:=Int→Int→Int→ZvQ→Option ZvQ
abbrev ZGq:Type:=Int→Int→Int→Int→ZvQ→ZDq
abbrev ZGp:Type:=Int→Int→Int→ZvP→Option ZvP
abbrev ZGo:Type:=Int→Int→Int→Int→ZvP→ZDp
abbrev ZGn:Type:=Int→Int→Int→Int→ZoA→ZBm
abbrev ZGm:Type:=(Int×Int×ZoA)→Option ZoA
abbrev ZCc:Type:=(Int×Int×Int×ZoA)→Zvb
abbrev ZEI:Type:=Int→Int→Int→ZoA→ZBo
abbrev ZGl:Type:=Int→Int→ZoA→Option ZoA
abbrev ZEH:Type:=Int→Int→Int→ZoA→ZAG
abbrev ZAk:Type:=Int→Int→Int→ZoA→Zvb
abbrev ZEG:Type:=Int→Int→Int→ZoA→ZAj
abbrev ZDs:Type:=Zop→Zop→Int→ZBn
abbrev ZDr:Type:=Zop→Zop→Int→ZBp
abbrev ZCK:Type:=Zop→Option Zop
def ZyE (out:(List Zq1)):ZIi:=
 some (out,0)
def ZzG (rec_:Int→Int→Int→Int→(List Zq1)→ZEC) (n:Int) (workers:Int) (t22:Int) (i:Int) (out:(List Zq1)):ZEC:=
 bif (decide (i < t22))then (
  chk (inK .i64 (i*n)) <|
  chk (decide (workers≠0)) <|
  chk (inK .i64 (Int.tdiv (i*n) workers)) <|
  chk (inK .i64 (i+1)) <|
  chk (inK .i64 ((i+1)*n)) <|
  chk (decide (workers≠0)) <|
  chk (inK .i64 (Int.tdiv ((i+1)*n) workers)) <|
  chk (Zjq (out.length+([(Zq1.mk (Int.tdiv (i*n) workers) (Int.tdiv ((i+1)*n) workers))]:(List Zq1)).length) 16) <|
  chk (inK .i64 (i+1)) <|
  rec_ n workers t22 (i+1) (out++([(Zq1.mk (Int.tdiv (i*n) workers) (Int.tdiv ((i+1)*n) workers))]:(List Zq1)))
 )else (
  some out
 )
def Zxu:Nat→Int→Int→Int→Int→(List Zq1)→ZEC
 |0,_,_,_,_,_=>none
 |n_+1,n,workers,t22,i,out=>ZzG (Zxu n_) n workers t22 i out
def Zvl (n:Int) (workers:Int) (t21:Bool):ZIi:=
 bif t21 then (
  some (([]:(List Zq1)),2)
 )else (
  (Zxu big n workers workers (0:Int) ([]:(List Zq1))).bind fun x0=>ZyE x0
 )
def ZzA (n:Int) (workers:Int):ZIi:=
 bif (decide (workers < 1))then (
  Zvl n workers true
 )else (
  bif (decide (workers > 8))then (
   Zvl n workers true
  )else (
   bif (decide (n < 0))then (
    Zvl n workers true
   )else (
    Zvl n workers (decide (n > 1024))
   )
  )
 )
def Zqc (t0:Bool):Option Bool:=
 some t0
def Zvn:Option Bool:=
 (ZzA 10 3).bind fun(l,e)=>
 bif (e == 0)then (
  bif ((l.length:Int) == 3)then (
   chk (inR 0 (l.length:Int)) <|
   (l[((0:Int)).toNat]?).bind fun l_e=>
   bif (l_e.From == 0&&(l_e.To == 3&&true))then (
    chk (inR 1 (l.length:Int)) <|
    (l[((1:Int)).toNat]?).bind fun l_e_1=>
    bif (l_e_1.From == 3&&(l_e_1.To == 6&&true))then (
     chk (inR 2 (l.length:Int)) <|
     (l[((2:Int)).toNat]?).bind fun l_e_2=>
     Zqc (l_e_2.From == 6&&(l_e_2.To == 10&&true))
    )else (
     Zqc false
    )
   )else (
    Zqc false
   )
  )else (
   Zqc false
  )
 )else (
  Zqc false
 )
def Zro:Option Bool:=ZCf (Zvn)
def ZwK (w_:Zop):Option Zop:=
 some w_
def Zuz (rec_:ZCK) (w_:Zop) (t14:Bool):Option Zop:=
 bif t14 then (
  chk (inK .i64 ((w_.length:Int) - 1)) <|
  chk (Zci 0 ((w_.length:Int) - 1) (w_.length:Int)) <|
  rec_ (w_.take (((w_.length:Int) - 1)).toNat)
 )else (
  some w_
 )
def Zv1 (rec_:ZCK) (w_:Zop):Option Zop:=
 bif (decide ((w_.length:Int) > 0))then (
  chk (inK .i64 ((w_.length:Int) - 1)) <|
  (idx w_ ((w_.length:Int) - 1)).bind fun w__e=>
  Zuz rec_ w_ (w__e == 0)
 )else (
  Zuz rec_ w_ false
 )
def ZpI:Nat→Zop→Option Zop
 |0,_=>none
 |n_+1,w_=>Zv1 (ZpI n_) w_
def Zo0 (w_:Zop):Option Zop:=
 (ZpI big w_).bind fun x0=>ZwK x0
def Ztb (t4:Zoq):Option Zoq:=
 some t4
def ZoT (neg:Bool) (w_:Zop):Option Zoq:=
 (Zo0 w_).bind fun w__1=>
 bif neg then (
  Ztb (Zoq.mk (decide ((w__1.length:Int) > 0)) w__1)
 )else (
  Ztb (Zoq.mk false w__1)
 )
def ZtE (n:Int) (u:Int) (t2:Bool) (t2_1:Zop):Option Zoq:=
 chk (decide (0≤(32:Int))) <|
 (ZoT (decide (n < 0)) ([(IntKind.wrap .u32 u),(IntKind.wrap .u32 (shrK .u64 u 32))]:Zop)).bind fun q=>
 some q
def ZsL (n:Int):Option Zoq:=
 bif (decide (n < 0))then (
  ZtE n (IntKind.wrap .u64 (0 - (IntKind.wrap .u64 n))) false ([]:Zop)
 )else (
  ZtE n (IntKind.wrap .u64 n) false ([]:Zop)
 )
def Zo7 (t2:Bool):Option Bool:=
 some t2
def Zqa (a:Zoq):Option Bool:=
 bif (decide ((a.Words.length:Int)≤256))then (
  bif ((a.Words.length:Int) == 0)then (
   bif (!a.Neg)then (
    Zo7 true
   )else (
    bif (decide ((a.Words.length:Int) > 0))then (
     chk (inK .i64 ((a.Words.length:Int) - 1)) <|
     (idx a.Words ((a.Words.length:Int) - 1)).bind fun Word=>
     Zo7 (Word != 0)
    )else (
     Zo7 false
    )
   )
  )else (
   bif (decide ((a.Words.length:Int) > 0))then (
    chk (inK .i64 ((a.Words.length:Int) - 1)) <|
    (idx a.Words ((a.Words.length:Int) - 1)).bind fun Word_1=>
    Zo7 (Word_1 != 0)
   )else (
    Zo7 false
   )
  )
 )else (
  Zo7 false
 )
def ZuA (out:Zop):Option Zop:=
 (Zo0 out).bind fun q=>
 some q
def Zrn (rec_:ZGs) (a:Zop) (t9:Int) (i:Int) (out:Zop):Option Zop:=
 chk (inK .i64 (i+1)) <|
 rec_ a t9 (i+1) out
def Zsb (rec_:ZGs) (a:Zop) (t9:Int) (i:Int) (out:Zop):Option Zop:=
 bif (decide (i < t9))then (
  chk (inR i (out.length:Int)) <|
  (out[(i).toNat]?).bind fun out_e=>
  chk (decide (0≤(1:Int))) <|
  chk (inR i (out.length:Int)) <|
  chk (inK .i64 (i+1)) <|
  bif (decide ((i+1) < (a.length:Int)))then (
   chk (inR i ((out.set ((i).toNat) (shrK .u32 out_e 1)).length:Int)) <|
   ((out.set ((i).toNat) (shrK .u32 out_e 1))[(i).toNat]?).bind fun e_e=>
   chk (inK .i64 (i+1)) <|
   (idx a (i+1)).bind fun a_e=>
   chk (decide (0≤(31:Int))) <|
   chk (inR i ((out.set ((i).toNat) (shrK .u32 out_e 1)).length:Int)) <|
   Zrn rec_ a t9 i ((out.set ((i).toNat) (shrK .u32 out_e 1)).set ((i).toNat) (orK .u32 e_e (shlK .u32 a_e 31)))
  )else (
   Zrn rec_ a t9 i (out.set ((i).toNat) (shrK .u32 out_e 1))
  )
 )else (
  some out
 )
def Zrm:Nat→Zop→Int→Int→Zop→Option Zop
 |0,_,_,_,_=>none
 |n_+1,a,t9,i,out=>Zsb (Zrm n_) a t9 i out
def Zv2 (n:Nat) (s:(Zop×Int×Int×Zop)):Option Zop:=Zrm n s.1 s.2.1 s.2.2.1 s.2.2.2
def ZtP (rec_:(Zop×Int×Int×Zop)→Option Zop) (s:(Zop×Int×Int×Zop)):Option Zop:=Zsb (fun a t9 i out=>rec_ (a,t9,i,out)) s.1 s.2.1 s.2.2.1 s.2.2.2
theorem ZxP:∀n s,Zv2 (n+1) s=ZtP (Zv2 n) s:=fun _ _=>rfl
def Zqo (a:Zop):Option Zop:=
 chk (Zjq (([]:Zop).length+a.length) 4) <|
 (Zrm big a ((([]:Zop)++a).length:Int) (0:Int) (([]:Zop)++a)).bind fun x0=>ZuA x0
def Zu0:Option Int:=
 some (0:Int)
def Zsj (rec_:Zop→Zop→Int→ZAi) (a:Zop) (b:Zop) (i:Int):ZAi:=
 bif (decide (i≥0))then (
  (idx a i).bind fun a_e=>
  (idx b i).bind fun b_e=>
  bif (decide (a_e < b_e))then (
   some (.ret (-1:Int))
  )else (
   (idx a i).bind fun a_e_1=>
   (idx b i).bind fun b_e_1=>
   bif (decide (a_e_1 > b_e_1))then (
    some (.ret (1:Int))
   )else (
    chk (inK .i64 (i - 1)) <|
    rec_ a b (i - 1)
   )
  )
 )else (
  some (.brk ())
 )
def Zta:Nat→Zop→Zop→Int→ZAi
 |0,_,_,_=>none
 |n_+1,a,b,i=>Zsj (Zta n_) a b i
def Zwc (n:Nat) (s:(Zop×Zop×Int)):ZAi:=Zta n s.1 s.2.1 s.2.2
def Zub (rec_:(Zop×Zop×Int)→ZAi) (s:(Zop×Zop×Int)):ZAi:=Zsj (fun a b i=>rec_ (a,b,i)) s.1 s.2.1 s.2.2
theorem Zx0:∀n s,Zwc (n+1) s=Zub (Zwc n) s:=fun _ _=>rfl
def Zpx (a:Zop) (b:Zop):Option Int:=
 bif ((a.length:Int) != (b.length:Int))then (
  bif (decide ((a.length:Int) < (b.length:Int)))then (
   some (-1:Int)
  )else (
   some (1:Int)
  )
 )else (
  chk (inK .i64 ((a.length:Int) - 1)) <|
  (Zta big a b ((a.length:Int) - 1)).bind fun
   | .ret q_=>some q_
   | .brk ()=>Zu0
 )
def ZuR (out:Zop):Option Zop:=
 (Zo0 out).bind fun q=>
 some q
def ZrB (rec_:ZHL) (a:Zop) (b:Zop) (c:Int) (i:Int) (out:Zop):Option Zop:=
 chk (Zjq (out.length+([(IntKind.wrap .u32 c)]:Zop).length) 4) <|
 chk (decide (0≤(32:Int))) <|
 chk (inK .i64 (i+1)) <|
 rec_ a b (shrK .i64 c 32) (i+1) (out++([(IntKind.wrap .u32 c)]:Zop))
def Zsg (rec_:ZHL) (a:Zop) (b:Zop) (c:Int) (i:Int) (out:Zop):Option Zop:=
 bif (decide (i < (a.length:Int)))then (
  (idx a i).bind fun a_e=>
  chk (inK .i64 (c+(IntKind.wrap .i64 a_e))) <|
  bif (decide (i < (b.length:Int)))then (
   (idx b i).bind fun b_e=>
   chk (inK .i64 ((c+(IntKind.wrap .i64 a_e)) - (IntKind.wrap .i64 b_e))) <|
   ZrB rec_ a b ((c+(IntKind.wrap .i64 a_e)) - (IntKind.wrap .i64 b_e)) i out
  )else (
   ZrB rec_ a b (c+(IntKind.wrap .i64 a_e)) i out
  )
 )else (
  some out
 )
def ZrA:Nat→Zop→Zop→Int→Int→Zop→Option Zop
 |0,_,_,_,_,_=>none
 |n_+1,a,b,c,i,out=>Zsg (ZrA n_) a b c i out
def Zv7 (n:Nat) (s:(Zop×Zop×Int×Int×Zop)):Option Zop:=ZrA n s.1 s.2.1 s.2.2.1 s.2.2.2.1 s.2.2.2.2
def Zt6 (rec_:Tf_6) (s:(Zop×Zop×Int×Int×Zop)):Option Zop:=Zsg (fun a b c i out=>rec_ (a,b,c,i,out)) s.1 s.2.1 s.2.2.1 s.2.2.2.1 s.2.2.2.2
theorem ZxX:∀n s,Zv7 (n+1) s=Zt6 (Zv7 n) s:=fun _ _=>rfl
def ZqK (a:Zop) (b:Zop):Option Zop:=
 (ZrA big a b (0:Int) (0:Int) ([]:Zop)).bind fun x0=>ZuR x0
def Zt5 (d:Int) (out:Zop):Option Zop:=
 chk (Zjq (out.length+([d]:Zop).length) 4) <|
 (Zo0 (out++([d]:Zop))).bind fun q=>
 some q
def ZrV (rec_:Zop→Int→Int→Zop→ZwJ) (a:Zop) (d:Int) (i:Int) (out:Zop):ZwJ:=
 bif (decide (i < (a.length:Int)))then (
  (idx a i).bind fun a_e=>
  chk (decide (0≤(1:Int))) <|
  chk (Zjq (out.length+([(orK .u32 (shlK .u32 a_e 1) d)]:Zop).length) 4) <|
  (idx a i).bind fun a_e_1=>
  chk (decide (0≤(31:Int))) <|
  chk (inK .i64 (i+1)) <|
  rec_ a (shrK .u32 a_e_1 31) (i+1) (out++([(orK .u32 (shlK .u32 a_e 1) d)]:Zop))
 )else (
  some (d,out)
 )
def Zsf:Nat→Zop→Int→Int→Zop→ZwJ
 |0,_,_,_,_=>none
 |n_+1,a,d,i,out=>ZrV (Zsf n_) a d i out
def ZvR (n:Nat) (s:(Zop×Int×Int×Zop)):ZwJ:=Zsf n s.1 s.2.1 s.2.2.1 s.2.2.2
def ZtD (rec_:(Zop×Int×Int×Zop)→ZwJ) (s:(Zop×Int×Int×Zop)):ZwJ:=ZrV (fun a d i out=>rec_ (a,d,i,out)) s.1 s.2.1 s.2.2.1 s.2.2.2
theorem ZxD:∀n s,ZvR (n+1) s=ZtD (ZvR n) s:=fun _ _=>rfl
def Zr6 (a:Zop) (d:Int):Option Zop:=
 (Zsf big a d (0:Int) ([]:Zop)).bind fun(x0,x1)=>Zt5 x0 x1
def ZuU (a:Zop):Option Zop:=
 some a
def Zq4 (rec_:Zop→Int→Option Zop) (a:Zop) (k:Int):Option Zop:=
 bif (decide (k > 0))then (
  (Zr6 a 0).bind fun a_1=>
  chk (inK .i64 (k - 1)) <|
  rec_ a_1 (k - 1)
 )else (
  some a
 )
def ZqG:Nat→Zop→Int→Option Zop
 |0,_,_=>none
 |n_+1,a,k=>Zq4 (ZqG n_) a k
def ZuV (a:Zop) (k:Int):Option Zop:=
 (ZqG big a k).bind fun x0=>ZuU x0
def Zs8 (rec_:ZDs) (a:Zop) (b:Zop) (k:Int):ZBn:=
 (ZqK b a).bind fun b_1=>
 rec_ a b_1 k
def ZuW (rec_:ZDs) (a:Zop) (b:Zop) (k:Int):ZBn:=
 (Zpx a b).bind fun q=>
 bif (decide (q > 0))then (
  Zs8 rec_ b a k
 )else (
  Zs8 rec_ a b k
 )
def Zt9 (rec_:ZDr) (a:Zop) (b:Zop) (k:Int):ZBp:=
 (idx b 0).bind fun b_e=>
 bif ((andK .u32 b_e 1) == 0)then (
  (Zqo b).bind fun b_1=>
  rec_ a b_1 k
 )else (
  some (a,b,k)
 )
def Zpm:Nat→Zop→Zop→Int→ZBp
 |0,_,_,_=>none
 |n_+1,a,b,k=>Zt9 (Zpm n_) a b k
def ZuX (rec_:ZDs) (a:Zop) (b:Zop) (k:Int):ZBn:=
 (Zpm big a b k).bind fun(x0,x1,x2)=>ZuW rec_ x0 x1 x2
def Zq5 (rec_:ZDr) (a:Zop) (b:Zop) (k:Int):ZBp:=
 (idx a 0).bind fun a_e=>
 bif ((andK .u32 a_e 1) == 0)then (
  (Zqo a).bind fun a_1=>
  rec_ a_1 b k
 )else (
  some (a,b,k)
 )
def Zpn:Nat→Zop→Zop→Int→ZBp
 |0,_,_,_=>none
 |n_+1,a,b,k=>Zq5 (Zpn n_) a b k
def Zq6 (rec_:ZDs) (a:Zop) (b:Zop) (k:Int):ZBn:=
 bif (decide ((b.length:Int) > 0))then (
  (Zpn big a b k).bind fun(x0,x1,x2)=>ZuX rec_ x0 x1 x2
 )else (
  some (a,k)
 )
def ZoD:Nat→Zop→Zop→Int→ZBn
 |0,_,_,_=>none
 |n_+1,a,b,k=>Zq6 (ZoD n_) a b k
def ZuY (a:Zop) (b:Zop) (k:Int):Option Zop:=
 (ZoD big a b k).bind fun(x0,x1)=>ZuV x0 x1
def Zs9 (rec_:ZDr) (a:Zop) (b:Zop) (k:Int) (t17:Bool):ZBp:=
 bif t17 then (
  (Zqo a).bind fun a_1=>
  (Zqo b).bind fun b_1=>
  chk (inK .i64 (k+1)) <|
  rec_ a_1 b_1 (k+1)
 )else (
  some (a,b,k)
 )
def Zua (rec_:ZDr) (a:Zop) (b:Zop) (k:Int):ZBp:=
 (idx a 0).bind fun a_e=>
 bif ((andK .u32 a_e 1) == 0)then (
  (idx b 0).bind fun b_e=>
  Zs9 rec_ a b k ((andK .u32 b_e 1) == 0)
 )else (
  Zs9 rec_ a b k false
 )
def ZqH:Nat→Zop→Zop→Int→ZBp
 |0,_,_,_=>none
 |n_+1,a,b,k=>Zua (ZqH n_) a b k
def ZsQ (a:Zop) (b:Zop):Option Zop:=
 (ZqH big a b (0:Int)).bind fun(x0,x1,x2)=>ZuY x0 x1 x2
def Zxs (a:Zop) (i:Int):Option Int:=
 chk (decide ((32:Int)≠0)) <|
 chk (inK .i64 (Int.tdiv i 32)) <|
 (idx a (Int.tdiv i 32)).bind fun a_e=>
 chk (decide ((32:Int)≠0)) <|
 chk (decide (0≤(IntKind.wrap .u64 (Int.tmod i 32)))) <|
 some (andK .u32 (shrK .u32 a_e (IntKind.wrap .u64 (Int.tmod i 32))) 1)
def ZwY (r_:Zop) (q:Zop):ZAh:=
 (Zo0 q).bind fun q_1=>
 some (q_1,r_)
def ZuZ (rec_:ZGv) (a:Zop) (b:Zop) (r_:Zop) (i:Int) (q:Zop):ZAh:=
 chk (inK .i64 (i - 1)) <|
 rec_ a b r_ (i - 1) q
def Zwa (rec_:ZGv) (a:Zop) (b:Zop) (r_:Zop) (i:Int) (q:Zop):ZAh:=
 bif (decide (i≥0))then (
  (Zxs a i).bind fun q_1=>
  (Zr6 r_ q_1).bind fun r__1=>
  (Zpx r__1 b).bind fun q_2=>
  bif (decide (q_2≥0))then (
   (ZqK r__1 b).bind fun r__2=>
   chk (decide ((32:Int)≠0)) <|
   chk (inK .i64 (Int.tdiv i 32)) <|
   chk (inR (Int.tdiv i 32) (q.length:Int)) <|
   (q[((Int.tdiv i 32)).toNat]?).bind fun q_e=>
   chk (decide ((32:Int)≠0)) <|
   chk (decide (0≤(IntKind.wrap .u64 (Int.tmod i 32)))) <|
   chk (inR (Int.tdiv i 32) (q.length:Int)) <|
   ZuZ rec_ a b r__2 i (q.set (((Int.tdiv i 32)).toNat) (orK .u32 q_e (shlK .u32 1 (IntKind.wrap .u64 (Int.tmod i 32)))))
  )else (
   ZuZ rec_ a b r__1 i q
  )
 )else (
  some (r_,q)
 )
def ZrD:Nat→Zop→Zop→Zop→Int→Zop→ZAh
 |0,_,_,_,_,_=>none
 |n_+1,a,b,r_,i,q=>Zwa (ZrD n_) a b r_ i q
def Zwb (n:Nat) (s:(Zop×Zop×Zop×Int×Zop)):ZAh:=ZrD n s.1 s.2.1 s.2.2.1 s.2.2.2.1 s.2.2.2.2
def Zx9 (rec_:(Zop×Zop×Zop×Int×Zop)→ZAh) (s:(Zop×Zop×Zop×Int×Zop)):ZAh:=Zwa (fun a b r_ i q=>rec_ (a,b,r_,i,q)) s.1 s.2.1 s.2.2.1 s.2.2.2.1 s.2.2.2.2
theorem ZAl:∀n s,Zwb (n+1) s=Zx9 (Zwb n) s:=fun _ _=>rfl
def ZvY (a:Zop) (b:Zop):ZAh:=
 chk (mkOk (a.length:Int) (a.length:Int) 4) <|
 chk (inK .i64 (32*(a.length:Int))) <|
 chk (inK .i64 ((32*(a.length:Int)) - 1)) <|
 (ZrD big a b ([]:Zop) ((32*(a.length:Int)) - 1) (List.replicate ((a.length:Int)).toNat (0:Int))).bind fun(x0,x1)=>ZwY x0 x1
def ZwX (num:Zoq) (den:Zoq):Option Zor:=
 bif ((num.Words.length:Int) == 0)then (
  (ZsL 1).bind fun q=>
  some (Zor.mk (Zoq.mk false ([]:Zop)) q)
 )else (
  (ZsQ num.Words den.Words).bind fun g=>
  (ZvY num.Words g).bind fun(x_,q_1)=>
  (ZvY den.Words g).bind fun(y,q_2)=>
  (ZoT (!(num.Neg == den.Neg)) x_).bind fun q_3=>
  (ZoT false y).bind fun q_4=>
  some (Zor.mk q_3 q_4)
 )
def ZuB (t13:Bool) (num:Zoq) (den:Zoq) (t4:Bool) (t4_1:Bool) (t4_2:Zop) (t4_3:Zop):ZEE:=
 bif t13 then (
  some ((Zor.mk (Zoq.mk false ([]:Zop)) (Zoq.mk false ([]:Zop))),1)
 )else (
  bif ((den.Words.length:Int) == 0)then (
   some ((Zor.mk (Zoq.mk false ([]:Zop)) (Zoq.mk false ([]:Zop))),8)
  )else (
   (ZwX num den).bind fun q=>
   some (q,0)
  )
 )
def Zxj (num:Zoq) (den:Zoq):ZEE:=
 (Zqa num).bind fun q=>
 bif (!q)then (
  ZuB true num den false false ([]:Zop) ([]:Zop)
 )else (
  (Zqa den).bind fun q_1=>
  ZuB (!q_1) num den false false ([]:Zop) ([]:Zop)
 )
def ZxE (num:Int) (den:Int):ZEE:=
 (ZsL num).bind fun q=>
 (ZsL den).bind fun q_1=>
 (Zxj q q_1).bind fun(q_2,q_3)=>
 some (q_2,q_3)
def Zxi (n:Int) (d:Int):Option Zor:=
 (ZxE n d).bind fun(f,q)=>
 some f
def ZvX (n:Int):Option Zor:=
 (Zxi n 1).bind fun q=>
 some q
def Zpc (n:Int):Option Zor:=ZCf (ZvX n)
def Zvf (n:Int) (m:Int):Option Int:=
 bif (decide (m < 1))then (
  some (0:Int)
 )else (
  chk (decide (m≠0)) <|
  chk (inK .i64 ((Int.tmod n m)+m)) <|
  chk (decide (m≠0)) <|
  some (Int.tmod ((Int.tmod n m)+m) m)
 )
def Zp6 (s:ZyB) (t4:Bool):Option ZyB:=
 bif t4 then (
  some ([]:ZyB)
 )else (
  chk (Zjq (([]:ZyB).length+s.length) 80) <|
  some (([]:ZyB)++s)
 )
def ZqE (s:ZyB):Option ZyB:=
 bif (List.isEmpty s)then agree (
  Zp6 s true
 ) (
  Zp6 s false
 )else (
  Zp6 s false
 )
def Zp8 (s:ZyA) (t4:Bool):Option ZyA:=
 bif t4 then (
  some ([]:ZyA)
 )else (
  chk (Zjq (([]:ZyA).length+s.length) 88) <|
  some (([]:ZyA)++s)
 )
def ZqF (s:ZyA):Option ZyA:=
 bif (List.isEmpty s)then agree (
  Zp8 s true
 ) (
  Zp8 s false
 )else (
  Zp8 s false
 )
def ZwP (x_:Int) (n:Int):Option Int:=
 (idx ([0,1,2,2,3,3,3,3,4,4,4,4,4,4,4,4,5,5,5,5,5,5,5,5,5,5,5,5,5,5,5,5,6,6,6,6,6,6,6,6,6,6,6,6,6,6,6,6,6,6,6,6,6,6,6,6,6,6,6,6,6,6,6,6,7,7,7,7,7,7,7,7,7,7,7,7,7,7,7,7,7,7,7,7,7,7,7,7,7,7,7,7,7,7,7,7,7,7,7,7,7,7,7,7,7,7,7,7,7,7,7,7,7,7,7,7,7,7,7,7,7,7,7,7,7,7,7,7,8,8,8,8,8,8,8,8,8,8,8,8,8,8,8,8,8,8,8,8,8,8,8,8,8,8,8,8,8,8,8,8,8,8,8,8,8,8,8,8,8,8,8,8,8,8,8,8,8,8,8,8,8,8,8,8,8,8,8,8,8,8,8,8,8,8,8,8,8,8,8,8,8,8,8,8,8,8,8,8,8,8,8,8,8,8,8,8,8,8,8,8,8,8,8,8,8,8,8,8,8,8,8,8,8,8,8,8,8,8,8,8,8,8,8,8,8,8,8,8,8,8,8,8,8,8,8,8]:Str) (IntKind.wrap .u8 x_)).bind fun c=>
 chk (inK .i64 (n+(IntKind.wrap .i64 ((c.toNat:Nat):Int)))) <|
 some (n+(IntKind.wrap .i64 ((c.toNat:Nat):Int)))
def ZwQ (x_:Int) (n:Int):Option Int:=
 bif (decide (x_≥256))then (
  chk (decide (0≤(8:Int))) <|
  chk (inK .i64 (n+8)) <|
  ZwP (shrK .u64 x_ 8) (n+8)
 )else (
  ZwP x_ n
 )
def ZwR (x_:Int) (n:Int):Option Int:=
 bif (decide (x_≥65536))then (
  chk (decide (0≤(16:Int))) <|
  chk (inK .i64 (n+16)) <|
  ZwQ (shrK .u64 x_ 16) (n+16)
 )else (
  ZwQ x_ n
 )
def ZyG (x_:Int):Option Int:=
 bif (decide (x_≥4294967296))then (
  chk (decide (0≤(32:Int))) <|
  ZwR (shrK .u64 x_ 32) (32:Int)
 )else (
  ZwR x_ (0:Int)
 )
def Zvp (x_:Int):Option Int:=
 (ZyG x_).bind fun q=>
 some q
def Zp2 (t2:Bool):Option Bool:=
 some t2
def Zum (a:Zoq):Option Bool:=
 bif (decide ((a.Words.length:Int)≤256))then (
  bif ((a.Words.length:Int) == 0)then (
   bif (!a.Neg)then (
    Zp2 true
   )else (
    bif (decide ((a.Words.length:Int) > 0))then (
     chk (inK .i64 ((a.Words.length:Int) - 1)) <|
     (idx a.Words ((a.Words.length:Int) - 1)).bind fun Word=>
     Zp2 (Word != 0)
    )else (
     Zp2 false
    )
   )
  )else (
   bif (decide ((a.Words.length:Int) > 0))then (
    chk (inK .i64 ((a.Words.length:Int) - 1)) <|
    (idx a.Words ((a.Words.length:Int) - 1)).bind fun Word_1=>
    Zp2 (Word_1 != 0)
   )else (
    Zp2 false
   )
  )
 )else (
  Zp2 false
 )
def Zyo:Option Bool:=
 some true
def Zvk (rec_:(List Zoq)→Int→Int→Zy0) (t5:(List Zoq)) (t6:Int) (t7:Int):Zy0:=
 bif (decide (t7 < t6))then (
  (idx t5 t7).bind fun a=>
  (Zum a).bind fun q=>
  bif (!q)then (
   some (.ret false)
  )else (
   chk (inK .i64 (t7+1)) <|
   rec_ t5 t6 (t7+1)
  )
 )else (
  some (.brk ())
 )
def Zv4:Nat→(List Zoq)→Int→Int→Zy0
 |0,_,_,_=>none
 |n_+1,t5,t6,t7=>Zvk (Zv4 n_) t5 t6 t7
def ZxU (n:Nat) (s:((List Zoq)×Int×Int)):Zy0:=Zv4 n s.1 s.2.1 s.2.2
def ZwS (rec_:((List Zoq)×Int×Int)→Zy0) (s:((List Zoq)×Int×Int)):Zy0:=Zvk (fun t5 t6 t7=>rec_ (t5,t6,t7)) s.1 s.2.1 s.2.2
theorem Zzf:∀n s,ZxU (n+1) s=ZwS (ZxU n) s:=fun _ _=>rfl
def Zxn (l:(List Zoq)):Option Bool:=
 (Zv4 big l (l.length:Int) (0:Int)).bind fun
  | .ret q_=>some q_
  | .brk ()=>Zyo
def Zwt (x_:Int):Option Bool:=
 some (x_ != x_)
def Zrj (x_:Int) (y:Int):Option Int:=
 (Zwt x_).bind fun xNaN=>
 (Zwt y).bind fun yNaN=>
 bif xNaN then (
  bif yNaN then (
   some (0:Int)
  )else (
   some (-1:Int)
  )
 )else (
  bif yNaN then (
   some (1:Int)
  )else (
   bif (decide (x_ < y))then (
    some (-1:Int)
   )else (
    bif (decide (x_ > y))then (
     some (1:Int)
    )else (
     some (0:Int)
    )
   )
  )
 )
def Zxo (x_:Int):Option Bool:=
 some (x_ != x_)
def ZwT (x_:Int) (y:Int):Option Int:=
 (Zxo x_).bind fun xNaN=>
 (Zxo y).bind fun yNaN=>
 bif xNaN then (
  bif yNaN then (
   some (0:Int)
  )else (
   some (-1:Int)
  )
 )else (
  bif yNaN then (
   some (1:Int)
  )else (
   bif (decide (x_ < y))then (
    some (-1:Int)
   )else (
    bif (decide (x_ > y))then (
     some (1:Int)
    )else (
     some (0:Int)
    )
   )
  )
 )
def Zuj:Option Int:=
 some (0:Int)
def ZrX (rec_:Zop→Zop→Int→ZAi) (w_:Zop) (v_:Zop) (i:Int):ZAi:=
 bif (decide (i≥0))then (
  (idx w_ i).bind fun w__e=>
  (idx v_ i).bind fun v__e=>
  (ZwT w__e v__e).bind fun c=>
  bif (c != 0)then (
   some (.ret c)
  )else (
   chk (inK .i64 (i - 1)) <|
   rec_ w_ v_ (i - 1)
  )
 )else (
  some (.brk ())
 )
def ZsA:Nat→Zop→Zop→Int→ZAi
 |0,_,_,_=>none
 |n_+1,w_,v_,i=>ZrX (ZsA n_) w_ v_ i
def ZvU (n:Nat) (s:(Zop×Zop×Int)):ZAi:=ZsA n s.1 s.2.1 s.2.2
def ZtG (rec_:(Zop×Zop×Int)→ZAi) (s:(Zop×Zop×Int)):ZAi:=ZrX (fun w_ v_ i=>rec_ (w_,v_,i)) s.1 s.2.1 s.2.2
theorem ZxH:∀n s,ZvU (n+1) s=ZtG (ZvU n) s:=fun _ _=>rfl
def Zqe (w_:Zop) (v_:Zop):Option Int:=
 (Zrj (w_.length:Int) (v_.length:Int)).bind fun c=>
 bif (c != 0)then (
  some c
 )else (
  chk (inK .i64 ((w_.length:Int) - 1)) <|
  (ZsA big w_ v_ ((w_.length:Int) - 1)).bind fun
   | .ret q_=>some q_
   | .brk ()=>Zuj
 )
def Zou (s:Zop) (t4:Bool):Option Zop:=
 bif t4 then (
  some ([]:Zop)
 )else (
  chk (Zjq (([]:Zop).length+s.length) 4) <|
  some (([]:Zop)++s)
 )
def ZrQ (s:Zop):Option Zop:=
 bif (List.isEmpty s)then agree (
  Zou s true
 ) (
  Zou s false
 )else (
  Zou s false
 )
def ZtO (hi:Int) (lo:Int) (y:Int) (t15:Bool):ZCI:=
 bif t15 then (
  none
 )else (
  chk (decide (0≤(32:Int))) <|
  chk (decide ((IntKind.wrap .u64 y)≠0)) <|
  chk (decide ((IntKind.wrap .u64 y)≠0)) <|
  some ((IntKind.wrap .u32 (IntKind.wrap .u64 (Int.tdiv (orK .u64 (shlK .u64 (IntKind.wrap .u64 hi) 32) (IntKind.wrap .u64 lo)) (IntKind.wrap .u64 y)))),(IntKind.wrap .u32 (Int.tmod (orK .u64 (shlK .u64 (IntKind.wrap .u64 hi) 32) (IntKind.wrap .u64 lo)) (IntKind.wrap .u64 y))))
 )
def ZwH (hi:Int) (lo:Int) (y:Int):ZCI:=
 bif (y != 0)then (
  ZtO hi lo y (decide (y≤hi))
 )else (
  ZtO hi lo y false
 )
def Zwp (w_:Zop):Option Zop:=
 some w_
def ZuN (rec_:ZCK) (w_:Zop) (t14:Bool):Option Zop:=
 bif t14 then (
  chk (inK .i64 ((w_.length:Int) - 1)) <|
  chk (Zci 0 ((w_.length:Int) - 1) (w_.length:Int)) <|
  rec_ (w_.take (((w_.length:Int) - 1)).toNat)
 )else (
  some w_
 )
def ZtX (rec_:ZCK) (w_:Zop):Option Zop:=
 bif (decide ((w_.length:Int) > 0))then (
  chk (inK .i64 ((w_.length:Int) - 1)) <|
  (idx w_ ((w_.length:Int) - 1)).bind fun w__e=>
  ZuN rec_ w_ (w__e == 0)
 )else (
  ZuN rec_ w_ false
 )
def Zqm:Nat→Zop→Option Zop
 |0,_=>none
 |n_+1,w_=>ZtX (Zqm n_) w_
def Zxl (n:Nat) (s:Zop):Option Zop:=Zqm n s
def Zxm (rec_:ZCK) (s:Zop):Option Zop:=ZtX (fun w_=>rec_ w_) s
theorem ZyH:∀n s,Zxl (n+1) s=Zxm (Zxl n) s:=fun _ _=>rfl
def Zpv (w_:Zop):Option Zop:=
 (Zqm big w_).bind fun x0=>Zwp x0
def Zu8 (rest:Int) (out:Zop):ZBn:=
 (Zpv out).bind fun q=>
 some (q,rest)
def Zsx (rec_:Zop→Int→Int→Int→Zop→ZwJ) (w_:Zop) (d:Int) (rest:Int) (i:Int) (out:Zop):ZwJ:=
 bif (decide (i≥0))then (
  (idx w_ i).bind fun w__e=>
  (ZwH rest w__e d).bind fun(q,rest_1)=>
  chk (inR i (out.length:Int)) <|
  chk (inK .i64 (i - 1)) <|
  rec_ w_ d rest_1 (i - 1) (out.set ((i).toNat) q)
 )else (
  some (rest,out)
 )
def Ztg:Nat→Zop→Int→Int→Int→Zop→ZwJ
 |0,_,_,_,_,_=>none
 |n_+1,w_,d,rest,i,out=>Zsx (Ztg n_) w_ d rest i out
def Zwm (n:Nat) (s:(Zop×Int×Int×Int×Zop)):ZwJ:=Ztg n s.1 s.2.1 s.2.2.1 s.2.2.2.1 s.2.2.2.2
def Zug (rec_:(Zop×Int×Int×Int×Zop)→ZwJ) (s:(Zop×Int×Int×Int×Zop)):ZwJ:=Zsx (fun w_ d rest i out=>rec_ (w_,d,rest,i,out)) s.1 s.2.1 s.2.2.1 s.2.2.2.1 s.2.2.2.2
theorem Zx4:∀n s,Zwm (n+1) s=Zug (Zwm n) s:=fun _ _=>rfl
def Zus (w_:Zop) (d:Int):ZBn:=
 chk (mkOk (w_.length:Int) (w_.length:Int) 4) <|
 chk (inK .i64 ((w_.length:Int) - 1)) <|
 (Ztg big w_ d (0:Int) ((w_.length:Int) - 1) (List.replicate ((w_.length:Int)).toNat (0:Int))).bind fun(x0,x1)=>Zu8 x0 x1
def ZsD (x_:Int) (n:Int):Option Int:=
 (idx ([0,1,2,2,3,3,3,3,4,4,4,4,4,4,4,4,5,5,5,5,5,5,5,5,5,5,5,5,5,5,5,5,6,6,6,6,6,6,6,6,6,6,6,6,6,6,6,6,6,6,6,6,6,6,6,6,6,6,6,6,6,6,6,6,7,7,7,7,7,7,7,7,7,7,7,7,7,7,7,7,7,7,7,7,7,7,7,7,7,7,7,7,7,7,7,7,7,7,7,7,7,7,7,7,7,7,7,7,7,7,7,7,7,7,7,7,7,7,7,7,7,7,7,7,7,7,7,7,8,8,8,8,8,8,8,8,8,8,8,8,8,8,8,8,8,8,8,8,8,8,8,8,8,8,8,8,8,8,8,8,8,8,8,8,8,8,8,8,8,8,8,8,8,8,8,8,8,8,8,8,8,8,8,8,8,8,8,8,8,8,8,8,8,8,8,8,8,8,8,8,8,8,8,8,8,8,8,8,8,8,8,8,8,8,8,8,8,8,8,8,8,8,8,8,8,8,8,8,8,8,8,8,8,8,8,8,8,8,8,8,8,8,8,8,8,8,8,8,8,8,8,8,8,8,8,8]:Str) (IntKind.wrap .u8 x_)).bind fun c=>
 chk (inK .i64 (n+(IntKind.wrap .i64 ((c.toNat:Nat):Int)))) <|
 some (n+(IntKind.wrap .i64 ((c.toNat:Nat):Int)))
def Zvg (x_:Int) (n:Int):Option Int:=
 bif (decide (x_≥256))then (
  chk (decide (0≤(8:Int))) <|
  chk (inK .i64 (n+8)) <|
  ZsD (shrK .u32 x_ 8) (n+8)
 )else (
  ZsD x_ n
 )
def ZwG (x_:Int):Option Int:=
 bif (decide (x_≥65536))then (
  chk (decide (0≤(16:Int))) <|
  Zvg (shrK .u32 x_ 16) (16:Int)
 )else (
  Zvg x_ (0:Int)
 )
def ZsM (x_:Int):Option Int:=
 (ZwG x_).bind fun q=>
 chk (inK .i64 (32 - q)) <|
 some (32 - q)
def Zuh (out:Zop):Option Zop:=
 some out
def ZrW (rec_:Int→Zop→Int→Int→Zop→Option Zop) (n:Int) (t13:Zop) (t14:Int) (i:Int) (out:Zop):Option Zop:=
 bif (decide (i < t14))then (
  (idx t13 i).bind fun d=>
  chk (decide (0≤n)) <|
  chk (inR i (out.length:Int)) <|
  (out[(i).toNat]?).bind fun out_e=>
  chk (inR i (out.length:Int)) <|
  chk (inK .i64 (i+1)) <|
  chk (decide (0≤(32:Int))) <|
  chk (inR (i+1) ((out.set ((i).toNat) (orK .u32 out_e (IntKind.wrap .u32 (shlK .u64 (IntKind.wrap .u64 d) n)))).length:Int)) <|
  chk (inK .i64 (i+1)) <|
  rec_ n t13 t14 (i+1) ((out.set ((i).toNat) (orK .u32 out_e (IntKind.wrap .u32 (shlK .u64 (IntKind.wrap .u64 d) n)))).set (((i+1)).toNat) (IntKind.wrap .u32 (shrK .u64 (shlK .u64 (IntKind.wrap .u64 d) n) 32)))
 )else (
  some out
 )
def Zsy:Nat→Int→Zop→Int→Int→Zop→Option Zop
 |0,_,_,_,_,_=>none
 |n_+1,n,t13,t14,i,out=>ZrW (Zsy n_) n t13 t14 i out
def ZvT (n:Nat) (s:(Int×Zop×Int×Int×Zop)):Option Zop:=Zsy n s.1 s.2.1 s.2.2.1 s.2.2.2.1 s.2.2.2.2
def ZtF (rec_:(Int×Zop×Int×Int×Zop)→Option Zop) (s:(Int×Zop×Int×Int×Zop)):Option Zop:=ZrW (fun n t13 t14 i out=>rec_ (n,t13,t14,i,out)) s.1 s.2.1 s.2.2.1 s.2.2.2.1 s.2.2.2.2
theorem ZxG:∀n s,ZvT (n+1) s=ZtF (ZvT n) s:=fun _ _=>rfl
def Zq0 (w_:Zop) (n:Int):Option Zop:=
 chk (inK .i64 ((w_.length:Int)+1)) <|
 chk (mkOk ((w_.length:Int)+1) ((w_.length:Int)+1) 4) <|
 (Zsy big n w_ (w_.length:Int) (0:Int) (List.replicate (((w_.length:Int)+1)).toNat (0:Int))).bind fun x0=>Zuh x0
def Zt3 (x_:Int) (y:Int) (borrow:Int):ZCI:=
 chk (decide (0≤(31:Int))) <|
 some ((IntKind.wrap .u32 ((IntKind.wrap .u32 (x_ - y)) - borrow)),(shrK .u32 (orK .u32 (andK .u32 (xorK .u32 (if IntKind.signed .u32 then -1 else IntKind.max .u32) x_) y) (andK .u32 (xorK .u32 (if IntKind.signed .u32 then -1 else IntKind.max .u32) (xorK .u32 x_ y)) (IntKind.wrap .u32 ((IntKind.wrap .u32 (x_ - y)) - borrow)))) 31))
def Zvq (x_:Int) (y:Int) (carry:Int):ZCI:=
 chk (decide (0≤(32:Int))) <|
 some ((IntKind.wrap .u32 (IntKind.wrap .u64 ((IntKind.wrap .u64 ((IntKind.wrap .u64 x_)+(IntKind.wrap .u64 y)))+(IntKind.wrap .u64 carry)))),(IntKind.wrap .u32 (shrK .u64 (IntKind.wrap .u64 ((IntKind.wrap .u64 ((IntKind.wrap .u64 x_)+(IntKind.wrap .u64 y)))+(IntKind.wrap .u64 carry))) 32)))
def ZvM (u_off:Nat) (u_len:Nat) (n:Int) (guess:Int) (add:Int) (u:Zop):ZwJ:=
 chk (inR n (u_len:Int)) <|
 (u[(u_off+(n).toNat)]?).bind fun u_e=>
 chk (inR n (u_len:Int)) <|
 some ((IntKind.wrap .u32 (IntKind.wrap .u64 (guess - 1))),(u.set (u_off+(n).toNat) (IntKind.wrap .u32 (u_e+add))))
def ZuO (rec_:Nat→Nat→Int→Int→Int→Zop→Int→Int→Zop→ZFa) (u_off:Nat) (u_len:Nat) (n:Int) (guess:Int) (add:Int) (t130:Zop) (t131:Int) (i:Int) (u:Zop):ZFa:=
 bif (decide (i < t131))then (
  (idx t130 i).bind fun x_=>
  chk (inR i (u_len:Int)) <|
  (u[(u_off+(i).toNat)]?).bind fun u_e=>
  (Zvq u_e x_ add).bind fun(q,add_1)=>
  chk (inR i (u_len:Int)) <|
  chk (inK .i64 (i+1)) <|
  rec_ u_off u_len n guess add_1 t130 t131 (i+1) (u.set (u_off+(i).toNat) q)
 )else (
  some (u_off,u_len,n,guess,add,u)
 )
def Zuk:Nat→Nat→Nat→Int→Int→Int→Zop→Int→Int→Zop→ZFa
 |0,_,_,_,_,_,_,_,_,_=>none
 |n_+1,u_off,u_len,n,guess,add,t130,t131,i,u=>ZuO (Zuk n_) u_off u_len n guess add t130 t131 i u
def ZxI (n:Nat) (s:(Nat×Nat×Int×Int×Int×Zop×Int×Int×Zop)):ZFa:=Zuk n s.1 s.2.1 s.2.2.1 s.2.2.2.1 s.2.2.2.2.1 s.2.2.2.2.2.1 s.2.2.2.2.2.2.1 s.2.2.2.2.2.2.2.1 s.2.2.2.2.2.2.2.2
def Zwq (rec_:(Nat×Nat×Int×Int×Int×Zop×Int×Int×Zop)→ZFa) (s:(Nat×Nat×Int×Int×Int×Zop×Int×Int×Zop)):ZFa:=ZuO (fun u_off u_len n guess add t130 t131 i u=>rec_ (u_off,u_len,n,guess,add,t130,t131,i,u)) s.1 s.2.1 s.2.2.1 s.2.2.2.1 s.2.2.2.2.1 s.2.2.2.2.2.1 s.2.2.2.2.2.2.1 s.2.2.2.2.2.2.2.1 s.2.2.2.2.2.2.2.2
theorem Zza:∀n s,ZxI (n+1) s=Zwq (ZxI n) s:=fun _ _=>rfl
def Zxa (u_off:Nat) (u_len:Nat) (d:Zop) (n:Int) (guess:Int) (borrow:Int) (carry:Int) (u:Zop):ZwJ:=
 chk (inR n (u_len:Int)) <|
 (u[(u_off+(n).toNat)]?).bind fun u_e=>
 (Zt3 u_e (IntKind.wrap .u32 carry) borrow).bind fun(q,borrow_1)=>
 chk (inR n (u_len:Int)) <|
 bif (borrow_1 == 0)then (
  some ((IntKind.wrap .u32 guess),(u.set (u_off+(n).toNat) q))
 )else (
  (Zuk big u_off u_len n guess (0:Int) d (d.length:Int) (0:Int) (u.set (u_off+(n).toNat) q)).bind fun(x0,x1,x2,x3,x4,x5)=>ZvM x0 x1 x2 x3 x4 x5
 )
def ZuP (rec_:Nat→Nat→Zop→Int→Int→Int→Int→Zop→Int→Int→Zop→ZFc) (u_off:Nat) (u_len:Nat) (d:Zop) (n:Int) (guess:Int) (borrow:Int) (carry:Int) (t82:Zop) (t83:Int) (i:Int) (u:Zop):ZFc:=
 bif (decide (i < t83))then (
  (idx t82 i).bind fun x_=>
  chk (inR i (u_len:Int)) <|
  (u[(u_off+(i).toNat)]?).bind fun u_e=>
  (Zt3 u_e (IntKind.wrap .u32 (IntKind.wrap .u64 (carry+(IntKind.wrap .u64 (guess*(IntKind.wrap .u64 x_)))))) borrow).bind fun(q,borrow_1)=>
  chk (inR i (u_len:Int)) <|
  chk (decide (0≤(32:Int))) <|
  chk (inK .i64 (i+1)) <|
  rec_ u_off u_len d n guess borrow_1 (shrK .u64 (IntKind.wrap .u64 (carry+(IntKind.wrap .u64 (guess*(IntKind.wrap .u64 x_))))) 32) t82 t83 (i+1) (u.set (u_off+(i).toNat) q)
 )else (
  some (u_off,u_len,d,n,guess,borrow,carry,u)
 )
def ZvL:Nat→Nat→Nat→Zop→Int→Int→Int→Int→Zop→Int→Int→Zop→ZFc
 |0,_,_,_,_,_,_,_,_,_,_,_=>none
 |n_+1,u_off,u_len,d,n,guess,borrow,carry,t82,t83,i,u=>ZuP (ZvL n_) u_off u_len d n guess borrow carry t82 t83 i u
def ZxJ (n:Nat) (s:(Nat×Nat×Zop×Int×Int×Int×Int×Zop×Int×Int×Zop)):ZFc:=ZvL n s.1 s.2.1 s.2.2.1 s.2.2.2.1 s.2.2.2.2.1 s.2.2.2.2.2.1 s.2.2.2.2.2.2.1 s.2.2.2.2.2.2.2.1 s.2.2.2.2.2.2.2.2.1 s.2.2.2.2.2.2.2.2.2.1 s.2.2.2.2.2.2.2.2.2.2
def Zwr (rec_:(Nat×Nat×Zop×Int×Int×Int×Int×Zop×Int×Int×Zop)→ZFc) (s:(Nat×Nat×Zop×Int×Int×Int×Int×Zop×Int×Int×Zop)):ZFc:=ZuP (fun u_off u_len d n guess borrow carry t82 t83 i u=>rec_ (u_off,u_len,d,n,guess,borrow,carry,t82,t83,i,u)) s.1 s.2.1 s.2.2.1 s.2.2.2.1 s.2.2.2.2.1 s.2.2.2.2.2.1 s.2.2.2.2.2.2.1 s.2.2.2.2.2.2.2.1 s.2.2.2.2.2.2.2.2.1 s.2.2.2.2.2.2.2.2.2.1 s.2.2.2.2.2.2.2.2.2.2
theorem Zzb:∀n s,ZxJ (n+1) s=Zwr (ZxJ n) s:=fun _ _=>rfl
def ZvN (u_off:Nat) (u_len:Nat) (d:Zop) (n:Int) (guess:Int) (u:Zop):ZwJ:=
 (ZvL big u_off u_len d n guess (0:Int) (0:Int) d (d.length:Int) (0:Int) u).bind fun(x0,x1,x2,x3,x4,x5,x6,x7)=>Zxa x0 x1 x2 x3 x4 x5 x6 x7
def Zul (rec_:Tf_4) (u_off:Nat) (u_len:Nat) (d:Zop) (n:Int) (guess:Int) (rest:Int) (t71:Bool) (u:Zop):ZEx:=
 bif t71 then (
  chk (inK .i64 (n - 1)) <|
  (idx d (n - 1)).bind fun d_e=>
  rec_ u_off u_len d n (IntKind.wrap .u64 (guess - 1)) (IntKind.wrap .u64 (rest+(IntKind.wrap .u64 d_e))) u
 )else (
  some (u_off,u_len,d,n,guess,u)
 )
def Zws (rec_:Tf_4) (u_off:Nat) (u_len:Nat) (d:Zop) (n:Int) (guess:Int) (rest:Int) (u:Zop):ZEx:=
 bif (decide (rest < 4294967296))then (
  chk (inK .i64 (n - 2)) <|
  (idx d (n - 2)).bind fun d_e=>
  chk (decide (0≤(32:Int))) <|
  chk (inK .i64 (n - 2)) <|
  chk (inR (n - 2) (u_len:Int)) <|
  (u[(u_off+((n - 2)).toNat)]?).bind fun u_e=>
  Zul rec_ u_off u_len d n guess rest (decide ((IntKind.wrap .u64 (guess*(IntKind.wrap .u64 d_e))) > (orK .u64 (shlK .u64 rest 32) (IntKind.wrap .u64 u_e)))) u
 )else (
  Zul rec_ u_off u_len d n guess rest false u
 )
def Zs3:Nat→Nat→Nat→Zop→Int→Int→Int→Zop→ZEx
 |0,_,_,_,_,_,_,_=>none
 |n_+1,u_off,u_len,d,n,guess,rest,u=>Zws (Zs3 n_) u_off u_len d n guess rest u
def ZxK (n:Nat) (s:(Nat×Nat×Zop×Int×Int×Int×Zop)):ZEx:=Zs3 n s.1 s.2.1 s.2.2.1 s.2.2.2.1 s.2.2.2.2.1 s.2.2.2.2.2.1 s.2.2.2.2.2.2
def ZxL (rec_:(Nat×Nat×Zop×Int×Int×Int×Zop)→ZEx) (s:(Nat×Nat×Zop×Int×Int×Int×Zop)):ZEx:=Zws (fun u_off u_len d n guess rest u=>rec_ (u_off,u_len,d,n,guess,rest,u)) s.1 s.2.1 s.2.2.1 s.2.2.2.1 s.2.2.2.2.1 s.2.2.2.2.2.1 s.2.2.2.2.2.2
theorem Zzc:∀n s,ZxK (n+1) s=ZxL (ZxK n) s:=fun _ _=>rfl
def Zw8 (u:Zop) (u_off:Nat) (u_len:Nat) (d:Zop):ZwJ:=
 chk (inR (d.length:Int) (u_len:Int)) <|
 (u[(u_off+((d.length:Int)).toNat)]?).bind fun u_e=>
 chk (decide (0≤(32:Int))) <|
 chk (inK .i64 ((d.length:Int) - 1)) <|
 chk (inR ((d.length:Int) - 1) (u_len:Int)) <|
 (u[(u_off+(((d.length:Int) - 1)).toNat)]?).bind fun u_e_1=>
 chk (inK .i64 ((d.length:Int) - 1)) <|
 (idx d ((d.length:Int) - 1)).bind fun d_e=>
 chk (decide ((IntKind.wrap .u64 d_e)≠0)) <|
 chk (inK .i64 ((d.length:Int) - 1)) <|
 (idx d ((d.length:Int) - 1)).bind fun d_e_1=>
 (Zs3 big u_off u_len d (d.length:Int) (if (4294967295:Int) < (IntKind.wrap .u64 (Int.tdiv (orK .u64 (shlK .u64 (IntKind.wrap .u64 u_e) 32) (IntKind.wrap .u64 u_e_1)) (IntKind.wrap .u64 d_e)))then (4294967295:Int)else (IntKind.wrap .u64 (Int.tdiv (orK .u64 (shlK .u64 (IntKind.wrap .u64 u_e) 32) (IntKind.wrap .u64 u_e_1)) (IntKind.wrap .u64 d_e)))) (IntKind.wrap .u64 ((orK .u64 (shlK .u64 (IntKind.wrap .u64 u_e) 32) (IntKind.wrap .u64 u_e_1)) - (IntKind.wrap .u64 ((if (4294967295:Int) < (IntKind.wrap .u64 (Int.tdiv (orK .u64 (shlK .u64 (IntKind.wrap .u64 u_e) 32) (IntKind.wrap .u64 u_e_1)) (IntKind.wrap .u64 d_e)))then (4294967295:Int)else (IntKind.wrap .u64 (Int.tdiv (orK .u64 (shlK .u64 (IntKind.wrap .u64 u_e) 32) (IntKind.wrap .u64 u_e_1)) (IntKind.wrap .u64 d_e))))*(IntKind.wrap .u64 d_e_1))))) u).bind fun(x0,x1,x2,x3,x4,x5)=>ZvN x0 x1 x2 x3 x4 x5
def Zv3 (u:Zop) (u_off:Nat) (u_len:Nat) (d:Zop):ZwJ:=
 (Zw8 u u_off u_len d).bind fun r=>chk (decide (r.2.length=u.length)&&true) (some r)
def ZvJ (w_off:Nat) (w_len:Nat) (w_:Zop):ZAI:=
 some (w_off,w_len,w_)
def ZtY (rec_:Nat→Nat→Zop→ZAI) (w_off:Nat) (w_len:Nat) (t14:Bool) (w_:Zop):ZAI:=
 bif t14 then (
  chk (inK .i64 (((w_len:Nat):Int) - 1)) <|
  chk (Zci 0 (((w_len:Nat):Int) - 1) (w_len:Int)) <|
  rec_ (w_off+0) (((((w_len:Nat):Int) - 1)).toNat - 0) w_
 )else (
  some (w_off,w_len,w_)
 )
def Zva (rec_:Nat→Nat→Zop→ZAI) (w_off:Nat) (w_len:Nat) (w_:Zop):ZAI:=
 bif (decide (((w_len:Nat):Int) > 0))then (
  chk (inK .i64 (((w_len:Nat):Int) - 1)) <|
  chk (inR (((w_len:Nat):Int) - 1) (w_len:Int)) <|
  (w_[(w_off+((((w_len:Nat):Int) - 1)).toNat)]?).bind fun w__e=>
  ZtY rec_ w_off w_len (w__e == 0) w_
 )else (
  ZtY rec_ w_off w_len false w_
 )
def ZsB:Nat→Nat→Nat→Zop→ZAI
 |0,_,_,_=>none
 |n_+1,w_off,w_len,w_=>Zva (ZsB n_) w_off w_len w_
def Zw4 (n:Nat) (s:(Nat×Nat×Zop)):ZAI:=ZsB n s.1 s.2.1 s.2.2
def Zw5 (rec_:(Nat×Nat×Zop)→ZAI) (s:(Nat×Nat×Zop)):ZAI:=Zva (fun w_off w_len w_=>rec_ (w_off,w_len,w_)) s.1 s.2.1 s.2.2
theorem Zyn:∀n s,Zw4 (n+1) s=Zw5 (Zw4 n) s:=fun _ _=>rfl
def Zvi (w_:Zop) (w_off:Nat) (w_len:Nat):ZAI:=
 (ZsB big w_off w_len w_).bind fun(x0,x1,x2)=>ZvJ x0 x1 x2
def Zut (w_:Zop) (w_off:Nat) (w_len:Nat):ZAI:=
 (Zvi w_ w_off w_len).bind fun r=>chk (decide (r.2.2.length=w_.length)&&true) (some r)
def Zs1 (w_:Zop) (i:Int):Option Int:=
 bif (decide (i < (w_.length:Int)))then (
  (idx w_ i).bind fun w__e=>
  some w__e
 )else (
  some (0:Int)
 )
def Zwo (w_:Zop) (w_off:Nat) (w_len:Nat) (i:Int):ZwJ:=
 bif (decide (i < ((w_len:Nat):Int)))then (
  chk (inR i (w_len:Int)) <|
  (w_[(w_off+(i).toNat)]?).bind fun w__e=>
  some (w__e,w_)
 )else (
  some (0,w_)
 )
def ZtW (w_:Zop) (w_off:Nat) (w_len:Nat) (i:Int):ZwJ:=
 (Zwo w_ w_off w_len i).bind fun r=>chk (decide (r.2.length=w_.length)&&true) (some r)
def Zvs (rest_off:Nat) (rest_len:Nat) (q:Zop) (rest:Zop):ZAh:=
 (Zpv q).bind fun q_1=>
 (Zpv ((rest.drop rest_off).take rest_len)).bind fun q_2=>
 some (q_1,q_2)
def ZsO (rec_:Int→Nat→Nat→Int→Int→Zop→Zop→ZE8) (shift:Int) (rest_off:Nat) (rest_len:Nat) (t86:Int) (i:Int) (q:Zop) (rest:Zop):ZE8:=
 bif (decide (i < t86))then (
  chk (inK .i64 (i+1)) <|
  (ZtW rest rest_off rest_len (i+1)).bind fun(q_1,t90)=>
  chk (decide (0≤(32:Int))) <|
  chk (inR i (rest_len:Int)) <|
  (t90[(rest_off+(i).toNat)]?).bind fun t90_e=>
  chk (decide (0≤shift)) <|
  chk (inR i (rest_len:Int)) <|
  chk (inK .i64 (i+1)) <|
  rec_ shift rest_off rest_len t86 (i+1) q (t90.set (rest_off+(i).toNat) (IntKind.wrap .u32 (shrK .u64 (orK .u64 (shlK .u64 (IntKind.wrap .u64 q_1) 32) (IntKind.wrap .u64 t90_e)) shift)))
 )else (
  some (rest_off,rest_len,q,rest)
 )
def Zr8:Nat→Int→Nat→Nat→Int→Int→Zop→Zop→ZE8
 |0,_,_,_,_,_,_,_=>none
 |n_+1,shift,rest_off,rest_len,t86,i,q,rest=>ZsO (Zr8 n_) shift rest_off rest_len t86 i q rest
def ZwM (n:Nat) (s:(Int×Nat×Nat×Int×Int×Zop×Zop)):ZE8:=Zr8 n s.1 s.2.1 s.2.2.1 s.2.2.2.1 s.2.2.2.2.1 s.2.2.2.2.2.1 s.2.2.2.2.2.2
def ZuF (rec_:(Int×Nat×Nat×Int×Int×Zop×Zop)→ZE8) (s:(Int×Nat×Nat×Int×Int×Zop×Zop)):ZE8:=ZsO (fun shift rest_off rest_len t86 i q rest=>rec_ (shift,rest_off,rest_len,t86,i,q,rest)) s.1 s.2.1 s.2.2.1 s.2.2.2.1 s.2.2.2.2.1 s.2.2.2.2.2.1 s.2.2.2.2.2.2
theorem Zyf:∀n s,ZwM (n+1) s=ZuF (ZwM n) s:=fun _ _=>rfl
def Zvt (n:Int) (shift:Int) (u:Zop) (q:Zop):ZAh:=
 chk (Zci 0 n (u.length:Int)) <|
 (Zut u 0 ((n).toNat - 0)).bind fun(rest_off,rest_len,t83)=>
 (Zr8 big shift rest_off rest_len ((rest_len:Nat):Int) (0:Int) q t83).bind fun(x0,x1,x2,x3)=>Zvs x0 x1 x2 x3
def ZsP (rec_:Int→Int→Zop→Int→Zop→Zop→ZCb) (n:Int) (shift:Int) (d:Zop) (j:Int) (u:Zop) (q:Zop):ZCb:=
 bif (decide (j≥0))then (
  chk (inK .i64 (j+n)) <|
  chk (inK .i64 ((j+n)+1)) <|
  chk (Zci j ((j+n)+1) (u.length:Int)) <|
  (Zv3 u ((j).toNat) ((((j+n)+1)).toNat - (j).toNat) d).bind fun(q_1,t77)=>
  chk (inR j (q.length:Int)) <|
  chk (inK .i64 (j - 1)) <|
  rec_ n shift d (j - 1) t77 (q.set ((j).toNat) q_1)
 )else (
  some (n,shift,u,q)
 )
def Zr9:Nat→Int→Int→Zop→Int→Zop→Zop→ZCb
 |0,_,_,_,_,_,_=>none
 |n_+1,n,shift,d,j,u,q=>ZsP (Zr9 n_) n shift d j u q
def ZwN (n:Nat) (s:(Int×Int×Zop×Int×Zop×Zop)):ZCb:=Zr9 n s.1 s.2.1 s.2.2.1 s.2.2.2.1 s.2.2.2.2.1 s.2.2.2.2.2
def ZuG (rec_:(Int×Int×Zop×Int×Zop×Zop)→ZCb) (s:(Int×Int×Zop×Int×Zop×Zop)):ZCb:=ZsP (fun n shift d j u q=>rec_ (n,shift,d,j,u,q)) s.1 s.2.1 s.2.2.1 s.2.2.2.1 s.2.2.2.2.1 s.2.2.2.2.2
theorem Zyg:∀n s,ZwN (n+1) s=ZuG (ZwN n) s:=fun _ _=>rfl
def Ztn (w_:Zop) (v_:Zop):ZAh:=
 (Zqe w_ v_).bind fun q=>
 bif (decide (q < 0))then (
  (ZrQ w_).bind fun q_1=>
  some (([]:Zop),q_1)
 )else (
  bif ((v_.length:Int) == 1)then (
   (idx v_ 0).bind fun v__e=>
   (Zus w_ v__e).bind fun(q_2,r_)=>
   (Zpv ([r_]:Zop)).bind fun q_3=>
   some (q_2,q_3)
  )else (
   chk (inK .i64 ((v_.length:Int) - 1)) <|
   (idx v_ ((v_.length:Int) - 1)).bind fun v__e_1=>
   (ZsM v__e_1).bind fun shift=>
   (Zq0 w_ shift).bind fun u=>
   (Zq0 v_ shift).bind fun q_4=>
   chk (Zci 0 (v_.length:Int) (q_4.length:Int)) <|
   chk (inK .i64 ((w_.length:Int) - (v_.length:Int))) <|
   chk (inK .i64 (((w_.length:Int) - (v_.length:Int))+1)) <|
   chk (mkOk (((w_.length:Int) - (v_.length:Int))+1) (((w_.length:Int) - (v_.length:Int))+1) 4) <|
   chk (inK .i64 (((List.replicate ((((w_.length:Int) - (v_.length:Int))+1)).toNat (0:Int)).length:Int) - 1)) <|
   (Zr9 big (v_.length:Int) shift ((q_4.drop 0).take (((v_.length:Int)).toNat - 0)) (((List.replicate ((((w_.length:Int) - (v_.length:Int))+1)).toNat (0:Int)).length:Int) - 1) u (List.replicate ((((w_.length:Int) - (v_.length:Int))+1)).toNat (0:Int))).bind fun(x0,x1,x2,x3)=>Zvt x0 x1 x2 x3
  )
 )
def ZuH (w_:Zop):Option Zop:=
 some w_
def ZqW (rec_:Zop→Zop→Option Zop) (w_:Zop) (v_:Zop):Option Zop:=
 bif (decide ((v_.length:Int) > 0))then (
  (Ztn w_ v_).bind fun(q,r_)=>
  rec_ v_ r_
 )else (
  some w_
 )
def ZpO:Nat→Zop→Zop→Option Zop
 |0,_,_=>none
 |n_+1,w_,v_=>ZqW (ZpO n_) w_ v_
def ZtV (w_:Zop) (v_:Zop):Option Zop:=
 (ZpO big w_ v_).bind fun x0=>ZuH x0
def Zs4 (t2:Bool):Option Bool:=
 some t2
def ZvV (f:Zor):Option Bool:=
 (Zxn ([f.Num,f.Den]:(List Zoq))).bind fun q=>
 bif q then (
  bif (decide ((f.Den.Words.length:Int) > 0))then (
   bif (!f.Den.Neg)then (
    (ZtV f.Num.Words f.Den.Words).bind fun q_1=>
    (Zqe q_1 ([1]:List Int)).bind fun q_2=>
    Zs4 (q_2 == 0)
   )else (
    Zs4 false
   )
  )else (
   Zs4 false
  )
 )else (
  Zs4 false
 )
def Zu6 (out:Zop):Option Zop:=
 (Zpv out).bind fun q=>
 some q
def Zu7 (rec_:ZHL) (v_:Zop) (i:Int) (carry:Int) (t17:Zop) (t18:Int) (i_1:Int) (out:Zop):Option Zop:=
 chk (inK .i64 (i+(v_.length:Int))) <|
 chk (inR (i+(v_.length:Int)) (out.length:Int)) <|
 chk (inK .i64 (i_1+1)) <|
 rec_ v_ t17 t18 (i_1+1) (out.set (((i+(v_.length:Int))).toNat) (IntKind.wrap .u32 carry))
def Zsv (rec_:Zop→Int→Int→Int→Zop→Int→Int→Zop→Int→Int→Zop→ZFb) (v_:Zop) (i:Int) (x_:Int) (carry:Int) (t17:Zop) (t18:Int) (i_1:Int) (t24:Zop) (t25:Int) (j:Int) (out:Zop):ZFb:=
 bif (decide (j < t25))then (
  (idx t24 j).bind fun y=>
  chk (inK .i64 (i+j)) <|
  chk (inR (i+j) (out.length:Int)) <|
  (out[((i+j)).toNat]?).bind fun out_e=>
  chk (inK .i64 (i+j)) <|
  chk (inR (i+j) (out.length:Int)) <|
  chk (decide (0≤(32:Int))) <|
  chk (inK .i64 (j+1)) <|
  rec_ v_ i x_ (shrK .u64 (IntKind.wrap .u64 (carry+(IntKind.wrap .u64 ((IntKind.wrap .u64 ((IntKind.wrap .u64 x_)*(IntKind.wrap .u64 y)))+(IntKind.wrap .u64 out_e))))) 32) t17 t18 i_1 t24 t25 (j+1) (out.set (((i+j)).toNat) (IntKind.wrap .u32 (IntKind.wrap .u64 (carry+(IntKind.wrap .u64 ((IntKind.wrap .u64 ((IntKind.wrap .u64 x_)*(IntKind.wrap .u64 y)))+(IntKind.wrap .u64 out_e)))))))
 )else (
  some (v_,i,carry,t17,t18,i_1,out)
 )
def Ztf:Nat→Zop→Int→Int→Int→Zop→Int→Int→Zop→Int→Int→Zop→ZFb
 |0,_,_,_,_,_,_,_,_,_,_,_=>none
 |n_+1,v_,i,x_,carry,t17,t18,i_1,t24,t25,j,out=>Zsv (Ztf n_) v_ i x_ carry t17 t18 i_1 t24 t25 j out
def Zwk (n:Nat) (s:(Zop×Int×Int×Int×Zop×Int×Int×Zop×Int×Int×Zop)):ZFb:=Ztf n s.1 s.2.1 s.2.2.1 s.2.2.2.1 s.2.2.2.2.1 s.2.2.2.2.2.1 s.2.2.2.2.2.2.1 s.2.2.2.2.2.2.2.1 s.2.2.2.2.2.2.2.2.1 s.2.2.2.2.2.2.2.2.2.1 s.2.2.2.2.2.2.2.2.2.2
def Zue (rec_:(Zop×Int×Int×Int×Zop×Int×Int×Zop×Int×Int×Zop)→ZFb) (s:(Zop×Int×Int×Int×Zop×Int×Int×Zop×Int×Int×Zop)):ZFb:=Zsv (fun v_ i x_ carry t17 t18 i_1 t24 t25 j out=>rec_ (v_,i,x_,carry,t17,t18,i_1,t24,t25,j,out)) s.1 s.2.1 s.2.2.1 s.2.2.2.1 s.2.2.2.2.1 s.2.2.2.2.2.1 s.2.2.2.2.2.2.1 s.2.2.2.2.2.2.2.1 s.2.2.2.2.2.2.2.2.1 s.2.2.2.2.2.2.2.2.2.1 s.2.2.2.2.2.2.2.2.2.2
theorem Zx2:∀n s,Zwk (n+1) s=Zue (Zwk n) s:=fun _ _=>rfl
def Zsw (rec_:ZHL) (v_:Zop) (t17:Zop) (t18:Int) (i:Int) (out:Zop):Option Zop:=
 bif (decide (i < t18))then (
  (idx t17 i).bind fun x_=>
  (Ztf big v_ i x_ (0:Int) t17 t18 i v_ (v_.length:Int) (0:Int) out).bind fun(x0,x1,x2,x3,x4,x5,x6)=>Zu7 rec_ x0 x1 x2 x3 x4 x5 x6
 )else (
  some out
 )
def ZrS:Nat→Zop→Zop→Int→Int→Zop→Option Zop
 |0,_,_,_,_,_=>none
 |n_+1,v_,t17,t18,i,out=>Zsw (ZrS n_) v_ t17 t18 i out
def Zwl (n:Nat) (s:(Zop×Zop×Int×Int×Zop)):Option Zop:=ZrS n s.1 s.2.1 s.2.2.1 s.2.2.2.1 s.2.2.2.2
def Zuf (rec_:Tf_6) (s:(Zop×Zop×Int×Int×Zop)):Option Zop:=Zsw (fun v_ t17 t18 i out=>rec_ (v_,t17,t18,i,out)) s.1 s.2.1 s.2.2.1 s.2.2.2.1 s.2.2.2.2
theorem Zx3:∀n s,Zwl (n+1) s=Zuf (Zwl n) s:=fun _ _=>rfl
def Zur (w_:Zop) (v_:Zop):Option Zop:=
 chk (inK .i64 ((w_.length:Int)+(v_.length:Int))) <|
 chk (mkOk ((w_.length:Int)+(v_.length:Int)) ((w_.length:Int)+(v_.length:Int)) 4) <|
 (ZrS big v_ w_ (w_.length:Int) (0:Int) (List.replicate (((w_.length:Int)+(v_.length:Int))).toNat (0:Int))).bind fun x0=>Zu6 x0
def Zvj (t4:Bool) (t4_1:Zop):Option Zoq:=
 some (Zoq.mk t4 t4_1)
def Zs2 (neg:Bool) (w_:Zop):Option Zoq:=
 bif neg then (
  chk (Zjq w_.length 4) <|
  Zvj (decide ((w_.length:Int) > 0)) w_
 )else (
  chk (Zjq w_.length 4) <|
  Zvj false w_
 )
def ZsC (a:Zoq) (b:Zoq):Option Zoq:=
 (Zur a.Words b.Words).bind fun q=>
 (Zs2 (!(a.Neg == b.Neg)) q).bind fun q_1=>
 some q_1
def Zuu (t2:Zoq):Option Zoq:=
 some t2
def ZvK (a:Zoq):Option Zoq:=
 bif (!a.Neg)then (
  Zuu (Zoq.mk (decide ((a.Words.length:Int) > 0)) a.Words)
 )else (
  Zuu (Zoq.mk false a.Words)
 )
def Zvr (carry:Int) (out:Zop):Option Zop:=
 chk (Zjq (out.length+([carry]:Zop).length) 4) <|
 (Zpv (out++([carry]:Zop))).bind fun q=>
 some q
def ZsN (rec_:Zop→Zop→Int→Int→Int→Zop→ZwJ) (w_:Zop) (v_:Zop) (carry:Int) (t20:Int) (i:Int) (out:Zop):ZwJ:=
 bif (decide (i < t20))then (
  (Zs1 w_ i).bind fun q=>
  (Zs1 v_ i).bind fun q_1=>
  (Zvq q q_1 carry).bind fun(d,carry_1)=>
  chk (Zjq (out.length+([d]:Zop).length) 4) <|
  chk (inK .i64 (i+1)) <|
  rec_ w_ v_ carry_1 t20 (i+1) (out++([d]:Zop))
 )else (
  some (carry,out)
 )
def ZtB:Nat→Zop→Zop→Int→Int→Int→Zop→ZwJ
 |0,_,_,_,_,_,_=>none
 |n_+1,w_,v_,carry,t20,i,out=>ZsN (ZtB n_) w_ v_ carry t20 i out
def ZwL (n:Nat) (s:(Zop×Zop×Int×Int×Int×Zop)):ZwJ:=ZtB n s.1 s.2.1 s.2.2.1 s.2.2.2.1 s.2.2.2.2.1 s.2.2.2.2.2
def ZuE (rec_:(Zop×Zop×Int×Int×Int×Zop)→ZwJ) (s:(Zop×Zop×Int×Int×Int×Zop)):ZwJ:=ZsN (fun w_ v_ carry t20 i out=>rec_ (w_,v_,carry,t20,i,out)) s.1 s.2.1 s.2.2.1 s.2.2.2.1 s.2.2.2.2.1 s.2.2.2.2.2
theorem Zye:∀n s,ZwL (n+1) s=ZuE (ZwL n) s:=fun _ _=>rfl
def ZuM (w_:Zop) (v_:Zop):Option Zop:=
 chk (inK .i64 ((if (v_.length:Int) > (w_.length:Int)then (v_.length:Int)else (w_.length:Int))+1)) <|
 chk (mkOk 0 ((if (v_.length:Int) > (w_.length:Int)then (v_.length:Int)else (w_.length:Int))+1) 4) <|
 (ZtB big w_ v_ (0:Int) (if (v_.length:Int) > (w_.length:Int)then (v_.length:Int)else (w_.length:Int)) (0:Int) (List.replicate ((0:Int)).toNat (0:Int))).bind fun(x0,x1)=>Zvr x0 x1
def Zu9 (out:Zop):Option Zop:=
 (Zpv out).bind fun q=>
 some q
def Zsz (rec_:Zop→Zop→Int→Int→Int→Zop→Option Zop) (w_:Zop) (v_:Zop) (borrow:Int) (t12:Int) (i:Int) (out:Zop):Option Zop:=
 bif (decide (i < t12))then (
  (idx w_ i).bind fun w__e=>
  (Zs1 v_ i).bind fun q=>
  (Zt3 w__e q borrow).bind fun(q_1,borrow_1)=>
  chk (inR i (out.length:Int)) <|
  chk (inK .i64 (i+1)) <|
  rec_ w_ v_ borrow_1 t12 (i+1) (out.set ((i).toNat) q_1)
 )else (
  some out
 )
def Zth:Nat→Zop→Zop→Int→Int→Int→Zop→Option Zop
 |0,_,_,_,_,_,_=>none
 |n_+1,w_,v_,borrow,t12,i,out=>Zsz (Zth n_) w_ v_ borrow t12 i out
def Zwn (n:Nat) (s:(Zop×Zop×Int×Int×Int×Zop)):Option Zop:=Zth n s.1 s.2.1 s.2.2.1 s.2.2.2.1 s.2.2.2.2.1 s.2.2.2.2.2
def Zui (rec_:(Zop×Zop×Int×Int×Int×Zop)→Option Zop) (s:(Zop×Zop×Int×Int×Int×Zop)):Option Zop:=Zsz (fun w_ v_ borrow t12 i out=>rec_ (w_,v_,borrow,t12,i,out)) s.1 s.2.1 s.2.2.1 s.2.2.2.1 s.2.2.2.2.1 s.2.2.2.2.2
theorem Zx5:∀n s,Zwn (n+1) s=Zui (Zwn n) s:=fun _ _=>rfl
def ZsX (w_:Zop) (v_:Zop):Option Zop:=
 chk (mkOk (w_.length:Int) (w_.length:Int) 4) <|
 (Zth big w_ v_ (0:Int) (w_.length:Int) (0:Int) (List.replicate ((w_.length:Int)).toNat (0:Int))).bind fun x0=>Zu9 x0
def ZxA (a:Zoq) (b:Zoq):Option Zoq:=
 bif (a.Neg == b.Neg)then (
  (ZuM a.Words b.Words).bind fun q=>
  (Zs2 a.Neg q).bind fun q_1=>
  some q_1
 )else (
  (Zqe a.Words b.Words).bind fun q_2=>
  bif (decide (q_2≥0))then (
   (ZsX a.Words b.Words).bind fun q_3=>
   (Zs2 a.Neg q_3).bind fun q_4=>
   some q_4
  )else (
   (ZsX b.Words a.Words).bind fun q_5=>
   (Zs2 b.Neg q_5).bind fun q_6=>
   some q_6
  )
 )
def ZwI (t13:Bool) (a:Zor) (b:Zor):Option Int:=
 bif t13 then (
  some (0:Int)
 )else (
  (ZsC a.Num b.Den).bind fun q=>
  (ZsC b.Num a.Den).bind fun q_1=>
  (ZvK q_1).bind fun q_2=>
  (ZxA q q_2).bind fun d=>
  bif d.Neg then (
   some (-1:Int)
  )else (
   bif (decide ((d.Words.length:Int) > 0))then (
    some (1:Int)
   )else (
    some (0:Int)
   )
  )
 )
def ZxB (a:Zor) (b:Zor):Option Int:=
 (ZvV a).bind fun q=>
 bif (!q)then (
  ZwI true a b
 )else (
  (ZvV b).bind fun q_1=>
  ZwI (!q_1) a b
 )
def Zw3 (a:Zor) (b:Zor):Option Int:=
 (ZxB b a).bind fun q=>
 some q
def Zyh (zero:Int):Option Int:=
 some zero
def Zs5 (rec_:Int→Zop→Int→Int→ZEz) (zero:Int) (t6:Zop) (t7:Int) (t8:Int):ZEz:=
 bif (decide (t8 < t7))then (
  (idx t6 t8).bind fun val=>
  bif (val != zero)then (
   some (.ret val)
  )else (
   chk (inK .i64 (t8+1)) <|
   rec_ zero t6 t7 (t8+1)
  )
 )else (
  some (.brk zero)
 )
def Zwu:Nat→Int→Zop→Int→Int→ZEz
 |0,_,_,_,_=>none
 |n_+1,zero,t6,t7,t8=>Zs5 (Zwu n_) zero t6 t7 t8
def Zwv (vals:Zop):Option Int:=
 (Zwu big (0:Int) vals (vals.length:Int) (0:Int)).bind fun
  | .ret q_=>some q_
  | .brk x0=>Zyh x0
def ZxF (a:Zov) (b:Zov):Option Bool:=
 (Zrj a.Table b.Table).bind fun q=>
 (Zrj a.Column b.Column).bind fun q_1=>
 (Zwv ([q,q_1]:Zop)).bind fun q_2=>
 some (decide (q_2 < 0))
def Zxd (a:Zov) (b:Zov):Option Int:=
 (ZxF a b).bind fun q=>
 bif q then (
  some (-1:Int)
 )else (
  (ZxF b a).bind fun q_1=>
  bif q_1 then (
   some (1:Int)
  )else (
   some (0:Int)
  )
 )
def Zo9 (a:ZoL) (b:ZoL):Option Int:=
 (Zw3 a.Score b.Score).bind fun q=>
 (Zxd a.Ref b.Ref).bind fun q_1=>
 (Zwv ([q,q_1]:Zop)).bind fun q_2=>
 some q_2
def ZqX (data:ZoA):Option ZoA:=
 some data
def ZqY (rec_:ZEK) (a:Int) (b:Int) (i:Int) (data:ZoA):Option ZoA:=
 chk (inK .i64 (i+1)) <|
 rec_ a b (i+1) data
def ZpH (rec_:ZEJ) (a:Int) (b:Int) (i:Int) (j:Int) (t34:Bool) (data:ZoA):Zvb:=
 bif t34 then (
  chk (inK .i64 (j - 1)) <|
  chk (inK .i64 (j - 1)) <|
  chk (inR (j - 1) (data.length:Int)) <|
  (data[((j - 1)).toNat]?).bind fun data_e=>
  chk (inR j (data.length:Int)) <|
  (data[(j).toNat]?).bind fun data_e_1=>
  chk (inR j (data.length:Int)) <|
  chk (inR (j - 1) ((data.set ((j).toNat) data_e).length:Int)) <|
  chk (inK .i64 (j - 1)) <|
  rec_ a b i (j - 1) ((data.set ((j).toNat) data_e).set (((j - 1)).toNat) data_e_1)
 )else (
  some (a,b,i,data)
 )
def ZqB (rec_:ZEJ) (a:Int) (b:Int) (i:Int) (j:Int) (data:ZoA):Zvb:=
 bif (decide (j > a))then (
  chk (inR j (data.length:Int)) <|
  (data[(j).toNat]?).bind fun data_e=>
  chk (inK .i64 (j - 1)) <|
  chk (inR (j - 1) (data.length:Int)) <|
  (data[((j - 1)).toNat]?).bind fun data_e_1=>
  (Zo9 data_e data_e_1).bind fun q=>
  ZpH rec_ a b i j (decide (q < 0)) data
 )else (
  ZpH rec_ a b i j false data
 )
def ZoK:Nat→Int→Int→Int→Int→ZoA→Zvb
 |0,_,_,_,_,_=>none
 |n_+1,a,b,i,j,data=>ZqB (ZoK n_) a b i j data
def ZsG (n:Nat) (s:(Int×Int×Int×Int×ZoA)):Zvb:=ZoK n s.1 s.2.1 s.2.2.1 s.2.2.2.1 s.2.2.2.2
def ZsH (rec_:ZGu) (s:(Int×Int×Int×Int×ZoA)):Zvb:=ZqB (fun a b i j data=>rec_ (a,b,i,j,data)) s.1 s.2.1 s.2.2.1 s.2.2.2.1 s.2.2.2.2
theorem ZvG:∀n s,ZsG (n+1) s=ZsH (ZsG n) s:=fun _ _=>rfl
def ZoO (rec_:ZEK) (a:Int) (b:Int) (i:Int) (data:ZoA):Option ZoA:=
 bif (decide (i < b))then (
  (ZoK big a b i i data).bind fun(x0,x1,x2,x3)=>ZqY rec_ x0 x1 x2 x3
 )else (
  some data
 )
def ZoX:Nat→Int→Int→Int→ZoA→Option ZoA
 |0,_,_,_,_=>none
 |n_+1,a,b,i,data=>ZoO (ZoX n_) a b i data
def Zp3 (data:ZoA) (a:Int) (b:Int):Option ZoA:=
 chk (inK .i64 (a+1)) <|
 (ZoX big a b (a+1) data).bind fun x0=>ZqX x0
def Zo8 (data:ZoA) (a:Int) (b:Int):Option ZoA:=
 (Zp3 data a b).bind fun r=>chk (decide (r.length=data.length)&&true) (some r)
def Zr0 (data:ZoA):Option ZoA:=
 some data
def Zpw (rec_:ZEI) (hi:Int) (first:Int) (root:Int) (child:Int) (data:ZoA):ZBo:=
 chk (inK .i64 (first+root)) <|
 chk (inR (first+root) (data.length:Int)) <|
 (data[((first+root)).toNat]?).bind fun data_e=>
 chk (inK .i64 (first+child)) <|
 chk (inR (first+child) (data.length:Int)) <|
 (data[((first+child)).toNat]?).bind fun data_e_1=>
 (Zo9 data_e data_e_1).bind fun q=>
 bif (!(decide (q < 0)))then (
  some (.ret data)
 )else (
  chk (inK .i64 (first+root)) <|
  chk (inK .i64 (first+child)) <|
  chk (inK .i64 (first+child)) <|
  chk (inR (first+child) (data.length:Int)) <|
  (data[((first+child)).toNat]?).bind fun data_e_2=>
  chk (inK .i64 (first+root)) <|
  chk (inR (first+root) (data.length:Int)) <|
  (data[((first+root)).toNat]?).bind fun data_e_3=>
  chk (inR (first+root) (data.length:Int)) <|
  chk (inR (first+child) ((data.set (((first+root)).toNat) data_e_2).length:Int)) <|
  rec_ hi first child ((data.set (((first+root)).toNat) data_e_2).set (((first+child)).toNat) data_e_3)
 )
def Zqp (rec_:ZEI) (hi:Int) (first:Int) (root:Int) (child:Int) (t40:Bool) (data:ZoA):ZBo:=
 bif t40 then (
  chk (inK .i64 (child+1)) <|
  Zpw rec_ hi first root (child+1) data
 )else (
  Zpw rec_ hi first root child data
 )
def Zpi (rec_:ZEI) (hi:Int) (first:Int) (root:Int) (data:ZoA):ZBo:=
 chk (inK .i64 (2*root)) <|
 chk (inK .i64 ((2*root)+1)) <|
 bif (decide (((2*root)+1)≥hi))then (
  some (.brk data)
 )else (
  chk (inK .i64 (((2*root)+1)+1)) <|
  bif (decide ((((2*root)+1)+1) < hi))then (
   chk (inK .i64 (first+((2*root)+1))) <|
   chk (inR (first+((2*root)+1)) (data.length:Int)) <|
   (data[((first+((2*root)+1))).toNat]?).bind fun data_e=>
   chk (inK .i64 (first+((2*root)+1))) <|
   chk (inK .i64 ((first+((2*root)+1))+1)) <|
   chk (inR ((first+((2*root)+1))+1) (data.length:Int)) <|
   (data[(((first+((2*root)+1))+1)).toNat]?).bind fun data_e_1=>
   (Zo9 data_e data_e_1).bind fun q=>
   Zqp rec_ hi first root ((2*root)+1) (decide (q < 0)) data
  )else (
   Zqp rec_ hi first root ((2*root)+1) false data
  )
 )
def ZoV:Nat→Int→Int→Int→ZoA→ZBo
 |0,_,_,_,_=>none
 |n_+1,hi,first,root,data=>Zpi (ZoV n_) hi first root data
def ZtH (n:Nat) (s:(Int×Int×Int×ZoA)):ZBo:=ZoV n s.1 s.2.1 s.2.2.1 s.2.2.2
def ZtI (rec_:(Int×Int×Int×ZoA)→ZBo) (s:(Int×Int×Int×ZoA)):ZBo:=Zpi (fun hi first root data=>rec_ (hi,first,root,data)) s.1 s.2.1 s.2.2.1 s.2.2.2
theorem ZwC:∀n s,ZtH (n+1) s=ZtI (ZtH n) s:=fun _ _=>rfl
def Zq2 (data:ZoA) (lo:Int) (hi:Int) (first:Int):Option ZoA:=
 (ZoV big hi first lo data).bind fun
  | .ret q_=>some q_
  | .brk x0=>Zr0 x0
def Zo5 (data:ZoA) (lo:Int) (hi:Int) (first:Int):Option ZoA:=
 (Zq2 data lo hi first).bind fun r=>chk (decide (r.length=data.length)&&true) (some r)
def Zr1 (data:ZoA):Option ZoA:=
 some data
def Zrx (rec_:ZEK) (first:Int) (lo:Int) (i:Int) (data:ZoA):Option ZoA:=
 bif (decide (i≥0))then (
  chk (inK .i64 (first+i)) <|
  chk (inK .i64 (first+i)) <|
  chk (inR (first+i) (data.length:Int)) <|
  (data[((first+i)).toNat]?).bind fun data_e=>
  chk (inR first (data.length:Int)) <|
  (data[(first).toNat]?).bind fun data_e_1=>
  chk (inR first (data.length:Int)) <|
  chk (inR (first+i) ((data.set ((first).toNat) data_e).length:Int)) <|
  (Zo5 ((data.set ((first).toNat) data_e).set (((first+i)).toNat) data_e_1) lo i first).bind fun t54=>
  chk (inK .i64 (i - 1)) <|
  rec_ first lo (i - 1) t54
 )else (
  some data
 )
def Zqu:Nat→Int→Int→Int→ZoA→Option ZoA
 |0,_,_,_,_=>none
 |n_+1,first,lo,i,data=>Zrx (Zqu n_) first lo i data
def ZtJ (n:Nat) (s:(Int×Int×Int×ZoA)):Option ZoA:=Zqu n s.1 s.2.1 s.2.2.1 s.2.2.2
def ZtK (rec_:(Int×Int×Int×ZoA)→Option ZoA) (s:(Int×Int×Int×ZoA)):Option ZoA:=Zrx (fun first lo i data=>rec_ (first,lo,i,data)) s.1 s.2.1 s.2.2.1 s.2.2.2
theorem ZwE:∀n s,ZtJ (n+1) s=ZtK (ZtJ n) s:=fun _ _=>rfl
def Zr2 (first:Int) (lo:Int) (hi:Int) (data:ZoA):Option ZoA:=
 chk (inK .i64 (hi - 1)) <|
 (Zqu big first lo (hi - 1) data).bind fun x0=>Zr1 x0
def Zry (rec_:ZEJ) (first:Int) (lo:Int) (hi:Int) (i:Int) (data:ZoA):Zvb:=
 bif (decide (i≥0))then (
  (Zo5 data i hi first).bind fun t24=>
  chk (inK .i64 (i - 1)) <|
  rec_ first lo hi (i - 1) t24
 )else (
  some (first,lo,hi,data)
 )
def Zqv:Nat→Int→Int→Int→Int→ZoA→Zvb
 |0,_,_,_,_,_=>none
 |n_+1,first,lo,hi,i,data=>Zry (Zqv n_) first lo hi i data
def ZtL (n:Nat) (s:(Int×Int×Int×Int×ZoA)):Zvb:=Zqv n s.1 s.2.1 s.2.2.1 s.2.2.2.1 s.2.2.2.2
def ZtM (rec_:ZGu) (s:(Int×Int×Int×Int×ZoA)):Zvb:=Zry (fun first lo hi i data=>rec_ (first,lo,hi,i,data)) s.1 s.2.1 s.2.2.1 s.2.2.2.1 s.2.2.2.2
theorem ZwF:∀n s,ZtL (n+1) s=ZtM (ZtL n) s:=fun _ _=>rfl
def Zq3 (data:ZoA) (a:Int) (b:Int):Option ZoA:=
 chk (inK .i64 (b - a)) <|
 chk (inK .i64 ((b - a) - 1)) <|
 chk (decide ((2:Int)≠0)) <|
 chk (inK .i64 (Int.tdiv ((b - a) - 1) 2)) <|
 (Zqv big a (0:Int) (b - a) (Int.tdiv ((b - a) - 1) 2) data).bind fun(x0,x1,x2,x3)=>Zr2 x0 x1 x2 x3
def ZqD (data:ZoA) (a:Int) (b:Int):Option ZoA:=
 (Zq3 data a b).bind fun r=>chk (decide (r.length=data.length)&&true) (some r)
def ZtR (length:Int):Option Int:=
 (Zvp (IntKind.wrap .u64 length)).bind fun q=>
 chk (decide (0≤q)) <|
 some (shlK .u64 1 q)
def ZsS (r_:Int):ZCI:=
 chk (decide (0≤(13:Int))) <|
 chk (decide (0≤(7:Int))) <|
 chk (decide (0≤(17:Int))) <|
 some ((xorK .u64 (xorK .u64 (xorK .u64 r_ (shlK .u64 r_ 13)) (shrK .u64 (xorK .u64 r_ (shlK .u64 r_ 13)) 7)) (shlK .u64 (xorK .u64 (xorK .u64 r_ (shlK .u64 r_ 13)) (shrK .u64 (xorK .u64 r_ (shlK .u64 r_ 13)) 7)) 17)),(xorK .u64 (xorK .u64 (xorK .u64 r_ (shlK .u64 r_ 13)) (shrK .u64 (xorK .u64 r_ (shlK .u64 r_ 13)) 7)) (shlK .u64 (xorK .u64 (xorK .u64 r_ (shlK .u64 r_ 13)) (shrK .u64 (xorK .u64 r_ (shlK .u64 r_ 13)) 7)) 17)))
def ZqZ (data:ZoA):Option ZoA:=
 some data
def ZoZ (rec_:Tf_5) (a:Int) (length:Int) (modulus:Int) (idx_:Int) (other:Int) (data:ZoA) (random:Int):Option ZoA:=
 chk (inK .i64 (a+other)) <|
 chk (inK .i64 (a+other)) <|
 chk (inR (a+other) (data.length:Int)) <|
 (data[((a+other)).toNat]?).bind fun data_e=>
 chk (inR idx_ (data.length:Int)) <|
 (data[(idx_).toNat]?).bind fun data_e_1=>
 chk (inR idx_ (data.length:Int)) <|
 chk (inR (a+other) ((data.set ((idx_).toNat) data_e).length:Int)) <|
 chk (inK .i64 (idx_+1)) <|
 rec_ a length modulus (idx_+1) ((data.set ((idx_).toNat) data_e).set (((a+other)).toNat) data_e_1) random
def ZqC (rec_:Tf_5) (a:Int) (length:Int) (modulus:Int) (idx_:Int) (data:ZoA) (random:Int):Option ZoA:=
 chk (decide ((4:Int)≠0)) <|
 chk (inK .i64 (Int.tdiv length 4)) <|
 chk (inK .i64 ((Int.tdiv length 4)*2)) <|
 chk (inK .i64 (a+((Int.tdiv length 4)*2))) <|
 chk (inK .i64 ((a+((Int.tdiv length 4)*2))+1)) <|
 bif (decide (idx_≤((a+((Int.tdiv length 4)*2))+1)))then (
  (ZsS random).bind fun(q,random_1)=>
  bif (decide ((IntKind.wrap .i64 (andK .u64 q (IntKind.wrap .u64 (modulus - 1))))≥length))then (
   chk (inK .i64 ((IntKind.wrap .i64 (andK .u64 q (IntKind.wrap .u64 (modulus - 1)))) - length)) <|
   ZoZ rec_ a length modulus idx_ ((IntKind.wrap .i64 (andK .u64 q (IntKind.wrap .u64 (modulus - 1)))) - length) data random_1
  )else (
   ZoZ rec_ a length modulus idx_ (IntKind.wrap .i64 (andK .u64 q (IntKind.wrap .u64 (modulus - 1)))) data random_1
  )
 )else (
  some data
 )
def ZoY:Nat→Int→Int→Int→Int→ZoA→Int→Option ZoA
 |0,_,_,_,_,_,_=>none
 |n_+1,a,length,modulus,idx_,data,random=>ZqC (ZoY n_) a length modulus idx_ data random
def ZsI (n:Nat) (s:(Int×Int×Int×Int×ZoA×Int)):Option ZoA:=ZoY n s.1 s.2.1 s.2.2.1 s.2.2.2.1 s.2.2.2.2.1 s.2.2.2.2.2
def ZsJ (rec_:(Int×Int×Int×Int×ZoA×Int)→Option ZoA) (s:(Int×Int×Int×Int×ZoA×Int)):Option ZoA:=ZqC (fun a length modulus idx_ data random=>rec_ (a,length,modulus,idx_,data,random)) s.1 s.2.1 s.2.2.1 s.2.2.2.1 s.2.2.2.2.1 s.2.2.2.2.2
theorem ZvH:∀n s,ZsI (n+1) s=ZsJ (ZsI n) s:=fun _ _=>rfl
def Zp5 (data:ZoA) (a:Int) (b:Int):Option ZoA:=
 chk (inK .i64 (b - a)) <|
 bif (decide ((b - a)≥8))then (
  (ZtR (b - a)).bind fun modulus=>
  chk (decide ((4:Int)≠0)) <|
  chk (inK .i64 (Int.tdiv (b - a) 4)) <|
  chk (inK .i64 ((Int.tdiv (b - a) 4)*2)) <|
  chk (inK .i64 (a+((Int.tdiv (b - a) 4)*2))) <|
  chk (inK .i64 ((a+((Int.tdiv (b - a) 4)*2)) - 1)) <|
  (ZoY big a (b - a) modulus ((a+((Int.tdiv (b - a) 4)*2)) - 1) data (IntKind.wrap .u64 (b - a))).bind fun x0=>ZqZ x0
 )else (
  some data
 )
def ZpQ (data:ZoA) (a:Int) (b:Int):Option ZoA:=
 (Zp5 data a b).bind fun r=>chk (decide (r.length=data.length)&&true) (some r)
def Ztj (data:ZoA) (a:Int) (b:Int) (swaps:Int):ZGk:=
 chk (inR b (data.length:Int)) <|
 (data[(b).toNat]?).bind fun data_e=>
 chk (inR a (data.length:Int)) <|
 (data[(a).toNat]?).bind fun data_e_1=>
 (Zo9 data_e data_e_1).bind fun q=>
 bif (decide (q < 0))then (
  chk (inK .i64 (swaps+1)) <|
  some (b,a,data,(swaps+1))
 )else (
  some (a,b,data,swaps)
 )
def Zpj (data:ZoA) (a:Int) (b:Int) (swaps:Int):ZGk:=
 (Ztj data a b swaps).bind fun r=>chk (decide (r.2.2.1.length=data.length)&&true) (some r)
def Ztk (data:ZoA) (a:Int) (b:Int) (c:Int) (swaps:Int):ZDo:=
 (Zpj data a b swaps).bind fun(a_1,b_1,t14,t17)=>
 (Zpj t14 b_1 c t17).bind fun(b_2,c_1,t23,t26)=>
 (Zpj t23 a_1 b_2 t26).bind fun(a_2,b_3,t32,t35)=>
 some (b_3,t32,t35)
def Zp1 (data:ZoA) (a:Int) (b:Int) (c:Int) (swaps:Int):ZDo:=
 (Ztk data a b c swaps).bind fun r=>chk (decide (r.2.1.length=data.length)&&true) (some r)
def Zri (data:ZoA) (a:Int) (swaps:Int):ZDo:=
 chk (inK .i64 (a - 1)) <|
 chk (inK .i64 (a+1)) <|
 (Zp1 data (a - 1) a (a+1) swaps).bind fun(q,t9,t15)=>
 some (q,t9,t15)
def ZoJ (data:ZoA) (a:Int) (swaps:Int):ZDo:=
 (Zri data a swaps).bind fun r=>chk (decide (r.2.1.length=data.length)&&true) (some r)
def Zpd (j:Int) (data:ZoA) (swaps:Int):ZAj:=
 bif (swaps == 0)then (
  some (j,1,data)
 )else (
  bif (swaps == 12)then (
   some (j,2,data)
  )else (
   some (j,0,data)
  )
 )
def Zpe (i:Int) (j:Int) (k:Int) (data:ZoA) (swaps:Int):ZAj:=
 (Zp1 data i j k swaps).bind fun(j_1,t49,swaps_1)=>
 Zpd j_1 t49 swaps_1
def Zqw (data:ZoA) (a:Int) (b:Int):ZAj:=
 chk (inK .i64 (b - a)) <|
 chk (decide ((4:Int)≠0)) <|
 chk (inK .i64 (Int.tdiv (b - a) 4)) <|
 chk (inK .i64 ((Int.tdiv (b - a) 4)*1)) <|
 chk (inK .i64 (a+((Int.tdiv (b - a) 4)*1))) <|
 chk (decide ((4:Int)≠0)) <|
 chk (inK .i64 (Int.tdiv (b - a) 4)) <|
 chk (inK .i64 ((Int.tdiv (b - a) 4)*2)) <|
 chk (inK .i64 (a+((Int.tdiv (b - a) 4)*2))) <|
 chk (decide ((4:Int)≠0)) <|
 chk (inK .i64 (Int.tdiv (b - a) 4)) <|
 chk (inK .i64 ((Int.tdiv (b - a) 4)*3)) <|
 chk (inK .i64 (a+((Int.tdiv (b - a) 4)*3))) <|
 bif (decide ((b - a)≥8))then (
  bif (decide ((b - a)≥50))then (
   (ZoJ data (a+((Int.tdiv (b - a) 4)*1)) 0).bind fun(i,t37,swaps)=>
   (ZoJ t37 (a+((Int.tdiv (b - a) 4)*2)) swaps).bind fun(j,t41,swaps_1)=>
   (ZoJ t41 (a+((Int.tdiv (b - a) 4)*3)) swaps_1).bind fun(k,t45,swaps_2)=>
   Zpe i j k t45 swaps_2
  )else (
   Zpe (a+((Int.tdiv (b - a) 4)*1)) (a+((Int.tdiv (b - a) 4)*2)) (a+((Int.tdiv (b - a) 4)*3)) data (0:Int)
  )
 )else (
  Zpd (a+((Int.tdiv (b - a) 4)*2)) data (0:Int)
 )
def Zp4 (data:ZoA) (a:Int) (b:Int):ZAj:=
 (Zqw data a b).bind fun r=>chk (decide (r.2.2.length=data.length)&&true) (some r)
def Zq7 (data:ZoA):Option ZoA:=
 some data
def ZqL (rec_:ZGl) (i:Int) (j:Int) (data:ZoA):Option ZoA:=
 bif (decide (i < j))then (
  chk (inR j (data.length:Int)) <|
  (data[(j).toNat]?).bind fun data_e=>
  chk (inR i (data.length:Int)) <|
  (data[(i).toNat]?).bind fun data_e_1=>
  chk (inR i (data.length:Int)) <|
  chk (inR j ((data.set ((i).toNat) data_e).length:Int)) <|
  chk (inK .i64 (i+1)) <|
  chk (inK .i64 (j - 1)) <|
  rec_ (i+1) (j - 1) ((data.set ((i).toNat) data_e).set ((j).toNat) data_e_1)
 )else (
  some data
 )
def ZpP:Nat→Int→Int→ZoA→Option ZoA
 |0,_,_,_=>none
 |n_+1,i,j,data=>ZqL (ZpP n_) i j data
def ZsT (n:Nat) (s:(Int×Int×ZoA)):Option ZoA:=ZpP n s.1 s.2.1 s.2.2
def ZsU (rec_:ZGm) (s:(Int×Int×ZoA)):Option ZoA:=ZqL (fun i j data=>rec_ (i,j,data)) s.1 s.2.1 s.2.2
theorem ZvS:∀n s,ZsT (n+1) s=ZsU (ZsT n) s:=fun _ _=>rfl
def Zqf (data:ZoA) (a:Int) (b:Int):Option ZoA:=
 chk (inK .i64 (b - 1)) <|
 (ZpP big a (b - 1) data).bind fun x0=>Zq7 x0
def ZpY (data:ZoA) (a:Int) (b:Int):Option ZoA:=
 (Zqf data a b).bind fun r=>chk (decide (r.length=data.length)&&true) (some r)
def ZpT (data:ZoA):ZEy:=
 some (false,data)
def ZpU (rec_:ZCL) (a:Int) (b:Int) (i:Int) (j:Int) (data:ZoA):ZAO:=
 chk (inK .i64 (j+1)) <|
 rec_ a b i (j+1) data
def ZpJ (rec_:ZGw) (a:Int) (b:Int) (i:Int) (j:Int) (j_1:Int) (data:ZoA):ZBm:=
 bif (decide (j_1 < b))then (
  chk (inR j_1 (data.length:Int)) <|
  (data[(j_1).toNat]?).bind fun data_e=>
  chk (inK .i64 (j_1 - 1)) <|
  chk (inR (j_1 - 1) (data.length:Int)) <|
  (data[((j_1 - 1)).toNat]?).bind fun data_e_1=>
  (Zo9 data_e data_e_1).bind fun q=>
  bif (!(decide (q < 0)))then (
   some (a,b,i,j,data)
  )else (
   chk (inK .i64 (j_1 - 1)) <|
   chk (inK .i64 (j_1 - 1)) <|
   chk (inR (j_1 - 1) (data.length:Int)) <|
   (data[((j_1 - 1)).toNat]?).bind fun data_e_2=>
   chk (inR j_1 (data.length:Int)) <|
   (data[(j_1).toNat]?).bind fun data_e_3=>
   chk (inR j_1 (data.length:Int)) <|
   chk (inR (j_1 - 1) ((data.set ((j_1).toNat) data_e_2).length:Int)) <|
   chk (inK .i64 (j_1+1)) <|
   rec_ a b i j (j_1+1) ((data.set ((j_1).toNat) data_e_2).set (((j_1 - 1)).toNat) data_e_3)
  )
 )else (
  some (a,b,i,j,data)
 )
def ZoF:Nat→Int→Int→Int→Int→Int→ZoA→ZBm
 |0,_,_,_,_,_,_=>none
 |n_+1,a,b,i,j,j_1,data=>ZpJ (ZoF n_) a b i j j_1 data
def Zrp (n:Nat) (s:(Int×Int×Int×Int×Int×ZoA)):ZBm:=ZoF n s.1 s.2.1 s.2.2.1 s.2.2.2.1 s.2.2.2.2.1 s.2.2.2.2.2
def Zrq (rec_:Tf_9) (s:(Int×Int×Int×Int×Int×ZoA)):ZBm:=ZpJ (fun a b i j j_1 data=>rec_ (a,b,i,j,j_1,data)) s.1 s.2.1 s.2.2.1 s.2.2.2.1 s.2.2.2.2.1 s.2.2.2.2.2
theorem Zuv:∀n s,Zrp (n+1) s=Zrq (Zrp n) s:=fun _ _=>rfl
def ZoH (rec_:ZCL) (a:Int) (b:Int) (i:Int) (j:Int) (t104:Bool) (data:ZoA):ZAO:=
 bif t104 then (
  chk (inK .i64 (i+1)) <|
  (ZoF big a b i j (i+1) data).bind fun(x0,x1,x2,x3,x4)=>ZpU rec_ x0 x1 x2 x3 x4
 )else (
  chk (inK .i64 (j+1)) <|
  rec_ a b i (j+1) data
 )
def ZpV (rec_:ZCL) (a:Int) (b:Int) (i:Int) (j:Int) (data:ZoA):ZAO:=
 chk (inK .i64 (b - i)) <|
 ZoH rec_ a b i j (decide ((b - i)≥2)) data
def ZpK (rec_:ZGw) (a:Int) (b:Int) (i:Int) (j:Int) (j_1:Int) (data:ZoA):ZBm:=
 bif (decide (j_1≥1))then (
  chk (inR j_1 (data.length:Int)) <|
  (data[(j_1).toNat]?).bind fun data_e=>
  chk (inK .i64 (j_1 - 1)) <|
  chk (inR (j_1 - 1) (data.length:Int)) <|
  (data[((j_1 - 1)).toNat]?).bind fun data_e_1=>
  (Zo9 data_e data_e_1).bind fun q=>
  bif (!(decide (q < 0)))then (
   some (a,b,i,j,data)
  )else (
   chk (inK .i64 (j_1 - 1)) <|
   chk (inK .i64 (j_1 - 1)) <|
   chk (inR (j_1 - 1) (data.length:Int)) <|
   (data[((j_1 - 1)).toNat]?).bind fun data_e_2=>
   chk (inR j_1 (data.length:Int)) <|
   (data[(j_1).toNat]?).bind fun data_e_3=>
   chk (inR j_1 (data.length:Int)) <|
   chk (inR (j_1 - 1) ((data.set ((j_1).toNat) data_e_2).length:Int)) <|
   chk (inK .i64 (j_1 - 1)) <|
   rec_ a b i j (j_1 - 1) ((data.set ((j_1).toNat) data_e_2).set (((j_1 - 1)).toNat) data_e_3)
  )
 )else (
  some (a,b,i,j,data)
 )
def ZoG:Nat→Int→Int→Int→Int→Int→ZoA→ZBm
 |0,_,_,_,_,_,_=>none
 |n_+1,a,b,i,j,j_1,data=>ZpK (ZoG n_) a b i j j_1 data
def Zrr (n:Nat) (s:(Int×Int×Int×Int×Int×ZoA)):ZBm:=ZoG n s.1 s.2.1 s.2.2.1 s.2.2.2.1 s.2.2.2.2.1 s.2.2.2.2.2
def Zrs (rec_:Tf_9) (s:(Int×Int×Int×Int×Int×ZoA)):ZBm:=ZpK (fun a b i j j_1 data=>rec_ (a,b,i,j,j_1,data)) s.1 s.2.1 s.2.2.1 s.2.2.2.1 s.2.2.2.2.1 s.2.2.2.2.2
theorem Zuw:∀n s,Zrr (n+1) s=Zrs (Zrr n) s:=fun _ _=>rfl
def ZpW (rec_:ZCL) (a:Int) (b:Int) (i:Int) (j:Int) (data:ZoA):ZAO:=
 bif (i == b)then (
  some (.ret (true,data))
 )else (
  chk (inK .i64 (b - a)) <|
  bif (decide ((b - a) < 50))then (
   some (.ret (false,data))
  )else (
   chk (inK .i64 (i - 1)) <|
   chk (inK .i64 (i - 1)) <|
   chk (inR (i - 1) (data.length:Int)) <|
   (data[((i - 1)).toNat]?).bind fun data_e=>
   chk (inR i (data.length:Int)) <|
   (data[(i).toNat]?).bind fun data_e_1=>
   chk (inR i (data.length:Int)) <|
   chk (inR (i - 1) ((data.set ((i).toNat) data_e).length:Int)) <|
   chk (inK .i64 (i - a)) <|
   bif (decide ((i - a)≥2))then (
    chk (inK .i64 (i - 1)) <|
    (ZoG big a b i j (i - 1) ((data.set ((i).toNat) data_e).set (((i - 1)).toNat) data_e_1)).bind fun(x0,x1,x2,x3,x4)=>ZpV rec_ x0 x1 x2 x3 x4
   )else (
    chk (inK .i64 (b - i)) <|
    ZoH rec_ a b i j (decide ((b - i)≥2)) ((data.set ((i).toNat) data_e).set (((i - 1)).toNat) data_e_1)
   )
  )
 )
def Zo1 (rec_:ZGn) (a:Int) (b:Int) (i:Int) (j:Int) (t36:Bool) (data:ZoA):ZBm:=
 bif t36 then (
  chk (inK .i64 (i+1)) <|
  rec_ a b (i+1) j data
 )else (
  some (a,b,i,j,data)
 )
def ZpL (rec_:ZGn) (a:Int) (b:Int) (i:Int) (j:Int) (data:ZoA):ZBm:=
 bif (decide (i < b))then (
  chk (inR i (data.length:Int)) <|
  (data[(i).toNat]?).bind fun data_e=>
  chk (inK .i64 (i - 1)) <|
  chk (inR (i - 1) (data.length:Int)) <|
  (data[((i - 1)).toNat]?).bind fun data_e_1=>
  (Zo9 data_e data_e_1).bind fun q=>
  Zo1 rec_ a b i j (!(decide (q < 0))) data
 )else (
  Zo1 rec_ a b i j false data
 )
def Zoy:Nat→Int→Int→Int→Int→ZoA→ZBm
 |0,_,_,_,_,_=>none
 |n_+1,a,b,i,j,data=>ZpL (Zoy n_) a b i j data
def Zrt (n:Nat) (s:(Int×Int×Int×Int×ZoA)):ZBm:=Zoy n s.1 s.2.1 s.2.2.1 s.2.2.2.1 s.2.2.2.2
def Zru (rec_:(Int×Int×Int×Int×ZoA)→ZBm) (s:(Int×Int×Int×Int×ZoA)):ZBm:=ZpL (fun a b i j data=>rec_ (a,b,i,j,data)) s.1 s.2.1 s.2.2.1 s.2.2.2.1 s.2.2.2.2
theorem Zux:∀n s,Zrt (n+1) s=Zru (Zrt n) s:=fun _ _=>rfl
def ZpM (rec_:ZCL) (a:Int) (b:Int) (i:Int) (j:Int) (data:ZoA):ZAO:=
 bif (decide (j < 5))then (
  (Zoy big a b i j data).bind fun(x0,x1,x2,x3,x4)=>ZpW rec_ x0 x1 x2 x3 x4
 )else (
  some (.brk data)
 )
def Zot:Nat→Int→Int→Int→Int→ZoA→ZAO
 |0,_,_,_,_,_=>none
 |n_+1,a,b,i,j,data=>ZpM (Zot n_) a b i j data
def Zrv (n:Nat) (s:(Int×Int×Int×Int×ZoA)):ZAO:=Zot n s.1 s.2.1 s.2.2.1 s.2.2.2.1 s.2.2.2.2
def Zrw (rec_:(Int×Int×Int×Int×ZoA)→ZAO) (s:(Int×Int×Int×Int×ZoA)):ZAO:=ZpM (fun a b i j data=>rec_ (a,b,i,j,data)) s.1 s.2.1 s.2.2.1 s.2.2.2.1 s.2.2.2.2
theorem Zuy:∀n s,Zrv (n+1) s=Zrw (Zrv n) s:=fun _ _=>rfl
def Zpg (data:ZoA) (a:Int) (b:Int):ZEy:=
 chk (inK .i64 (a+1)) <|
 (Zot big a b (a+1) (0:Int) data).bind fun
  | .ret q_=>some q_
  | .brk x0=>ZpT x0
def Zpa (data:ZoA) (a:Int) (b:Int):ZEy:=
 (Zpg data a b).bind fun r=>chk (decide (r.2.length=data.length)&&true) (some r)
def ZqN (i:Int) (data:ZoA):ZAG:=
 some (i,data)
def ZqO (rec_:ZEH) (a:Int) (i:Int) (j:Int) (data:ZoA):ZAG:=
 bif (decide (i > j))then (
  some (i,data)
 )else (
  chk (inR j (data.length:Int)) <|
  (data[(j).toNat]?).bind fun data_e=>
  chk (inR i (data.length:Int)) <|
  (data[(i).toNat]?).bind fun data_e_1=>
  chk (inR i (data.length:Int)) <|
  chk (inR j ((data.set ((i).toNat) data_e).length:Int)) <|
  chk (inK .i64 (i+1)) <|
  chk (inK .i64 (j - 1)) <|
  rec_ a (i+1) (j - 1) ((data.set ((i).toNat) data_e).set ((j).toNat) data_e_1)
 )
def Zpy (rec_:ZAk) (a:Int) (i:Int) (j:Int) (t65:Bool) (data:ZoA):Zvb:=
 bif t65 then (
  chk (inK .i64 (j - 1)) <|
  rec_ a i (j - 1) data
 )else (
  some (a,i,j,data)
 )
def Zqq (rec_:ZAk) (a:Int) (i:Int) (j:Int) (data:ZoA):Zvb:=
 bif (decide (i≤j))then (
  chk (inR a (data.length:Int)) <|
  (data[(a).toNat]?).bind fun data_e=>
  chk (inR j (data.length:Int)) <|
  (data[(j).toNat]?).bind fun data_e_1=>
  (Zo9 data_e data_e_1).bind fun q=>
  Zpy rec_ a i j (decide (q < 0)) data
 )else (
  Zpy rec_ a i j false data
 )
def ZoB:Nat→Int→Int→Int→ZoA→Zvb
 |0,_,_,_,_=>none
 |n_+1,a,i,j,data=>Zqq (ZoB n_) a i j data
def Zso (n:Nat) (s:(Int×Int×Int×ZoA)):Zvb:=ZoB n s.1 s.2.1 s.2.2.1 s.2.2.2
def Zsp (rec_:ZCc) (s:(Int×Int×Int×ZoA)):Zvb:=Zqq (fun a i j data=>rec_ (a,i,j,data)) s.1 s.2.1 s.2.2.1 s.2.2.2
theorem Zvv:∀n s,Zso (n+1) s=Zsp (Zso n) s:=fun _ _=>rfl
def ZqP (rec_:ZEH) (a:Int) (i:Int) (j:Int) (data:ZoA):ZAG:=
 (ZoB big a i j data).bind fun(x0,x1,x2,x3)=>ZqO rec_ x0 x1 x2 x3
def Zpz (rec_:ZAk) (a:Int) (i:Int) (j:Int) (t47:Bool) (data:ZoA):Zvb:=
 bif t47 then (
  chk (inK .i64 (i+1)) <|
  rec_ a (i+1) j data
 )else (
  some (a,i,j,data)
 )
def Zqr (rec_:ZAk) (a:Int) (i:Int) (j:Int) (data:ZoA):Zvb:=
 bif (decide (i≤j))then (
  chk (inR a (data.length:Int)) <|
  (data[(a).toNat]?).bind fun data_e=>
  chk (inR i (data.length:Int)) <|
  (data[(i).toNat]?).bind fun data_e_1=>
  (Zo9 data_e data_e_1).bind fun q=>
  Zpz rec_ a i j (!(decide (q < 0))) data
 )else (
  Zpz rec_ a i j false data
 )
def ZoC:Nat→Int→Int→Int→ZoA→Zvb
 |0,_,_,_,_=>none
 |n_+1,a,i,j,data=>Zqr (ZoC n_) a i j data
def Zsq (n:Nat) (s:(Int×Int×Int×ZoA)):Zvb:=ZoC n s.1 s.2.1 s.2.2.1 s.2.2.2
def Zsr (rec_:ZCc) (s:(Int×Int×Int×ZoA)):Zvb:=Zqr (fun a i j data=>rec_ (a,i,j,data)) s.1 s.2.1 s.2.2.1 s.2.2.2
theorem Zvw:∀n s,Zsq (n+1) s=Zsr (Zsq n) s:=fun _ _=>rfl
def Zqs (rec_:ZEH) (a:Int) (i:Int) (j:Int) (data:ZoA):ZAG:=
 (ZoC big a i j data).bind fun(x0,x1,x2,x3)=>ZqP rec_ x0 x1 x2 x3
def Zoz:Nat→Int→Int→Int→ZoA→ZAG
 |0,_,_,_,_=>none
 |n_+1,a,i,j,data=>Zqs (Zoz n_) a i j data
def Zss (n:Nat) (s:(Int×Int×Int×ZoA)):ZAG:=Zoz n s.1 s.2.1 s.2.2.1 s.2.2.2
def Zst (rec_:(Int×Int×Int×ZoA)→ZAG) (s:(Int×Int×Int×ZoA)):ZAG:=Zqs (fun a i j data=>rec_ (a,i,j,data)) s.1 s.2.1 s.2.2.1 s.2.2.2
theorem Zvx:∀n s,Zss (n+1) s=Zst (Zss n) s:=fun _ _=>rfl
def ZpZ (data:ZoA) (a:Int) (b:Int) (pivot:Int):ZAG:=
 chk (inR pivot (data.length:Int)) <|
 (data[(pivot).toNat]?).bind fun data_e=>
 chk (inR a (data.length:Int)) <|
 (data[(a).toNat]?).bind fun data_e_1=>
 chk (inR a (data.length:Int)) <|
 chk (inR pivot ((data.set ((a).toNat) data_e).length:Int)) <|
 chk (inK .i64 (a+1)) <|
 chk (inK .i64 (b - 1)) <|
 (Zoz big a (a+1) (b - 1) ((data.set ((a).toNat) data_e).set ((pivot).toNat) data_e_1)).bind fun(x0,x1)=>ZqN x0 x1
def ZpG (data:ZoA) (a:Int) (b:Int) (pivot:Int):ZAG:=
 (ZpZ data a b pivot).bind fun r=>chk (decide (r.2.length=data.length)&&true) (some r)
def ZrI (a:Int) (j:Int) (data:ZoA):ZCJ:=
 chk (inR a (data.length:Int)) <|
 (data[(a).toNat]?).bind fun data_e=>
 chk (inR j (data.length:Int)) <|
 (data[(j).toNat]?).bind fun data_e_1=>
 chk (inR j (data.length:Int)) <|
 chk (inR a ((data.set ((j).toNat) data_e).length:Int)) <|
 some (j,false,((data.set ((j).toNat) data_e).set ((a).toNat) data_e_1))
def ZrJ (rec_:ZEG) (a:Int) (i:Int) (j:Int) (data:ZoA):ZAj:=
 bif (decide (i > j))then (
  some (a,j,data)
 )else (
  chk (inR j (data.length:Int)) <|
  (data[(j).toNat]?).bind fun data_e=>
  chk (inR i (data.length:Int)) <|
  (data[(i).toNat]?).bind fun data_e_1=>
  chk (inR i (data.length:Int)) <|
  chk (inR j ((data.set ((i).toNat) data_e).length:Int)) <|
  chk (inK .i64 (i+1)) <|
  chk (inK .i64 (j - 1)) <|
  rec_ a (i+1) (j - 1) ((data.set ((i).toNat) data_e).set ((j).toNat) data_e_1)
 )
def Zqg (rec_:ZAk) (a:Int) (i:Int) (j:Int) (t139:Bool) (data:ZoA):Zvb:=
 bif t139 then (
  chk (inK .i64 (j - 1)) <|
  rec_ a i (j - 1) data
 )else (
  some (a,i,j,data)
 )
def Zrd (rec_:ZAk) (a:Int) (i:Int) (j:Int) (data:ZoA):Zvb:=
 bif (decide (i≤j))then (
  chk (inR j (data.length:Int)) <|
  (data[(j).toNat]?).bind fun data_e=>
  chk (inR a (data.length:Int)) <|
  (data[(a).toNat]?).bind fun data_e_1=>
  (Zo9 data_e data_e_1).bind fun q=>
  Zqg rec_ a i j (!(decide (q < 0))) data
 )else (
  Zqg rec_ a i j false data
 )
def ZoP:Nat→Int→Int→Int→ZoA→Zvb
 |0,_,_,_,_=>none
 |n_+1,a,i,j,data=>Zrd (ZoP n_) a i j data
def Ztr (n:Nat) (s:(Int×Int×Int×ZoA)):Zvb:=ZoP n s.1 s.2.1 s.2.2.1 s.2.2.2
def Zts (rec_:ZCc) (s:(Int×Int×Int×ZoA)):Zvb:=Zrd (fun a i j data=>rec_ (a,i,j,data)) s.1 s.2.1 s.2.2.1 s.2.2.2
theorem Zwe:∀n s,Ztr (n+1) s=Zts (Ztr n) s:=fun _ _=>rfl
def ZrK (rec_:ZEG) (a:Int) (i:Int) (j:Int) (data:ZoA):ZAj:=
 (ZoP big a i j data).bind fun(x0,x1,x2,x3)=>ZrJ rec_ x0 x1 x2 x3
def Zqh (rec_:ZAk) (a:Int) (i:Int) (j:Int) (t120:Bool) (data:ZoA):Zvb:=
 bif t120 then (
  chk (inK .i64 (i+1)) <|
  rec_ a (i+1) j data
 )else (
  some (a,i,j,data)
 )
def Zre (rec_:ZAk) (a:Int) (i:Int) (j:Int) (data:ZoA):Zvb:=
 bif (decide (i≤j))then (
  chk (inR i (data.length:Int)) <|
  (data[(i).toNat]?).bind fun data_e=>
  chk (inR a (data.length:Int)) <|
  (data[(a).toNat]?).bind fun data_e_1=>
  (Zo9 data_e data_e_1).bind fun q=>
  Zqh rec_ a i j (decide (q < 0)) data
 )else (
  Zqh rec_ a i j false data
 )
def ZoQ:Nat→Int→Int→Int→ZoA→Zvb
 |0,_,_,_,_=>none
 |n_+1,a,i,j,data=>Zre (ZoQ n_) a i j data
def Ztt (n:Nat) (s:(Int×Int×Int×ZoA)):Zvb:=ZoQ n s.1 s.2.1 s.2.2.1 s.2.2.2
def Ztu (rec_:ZCc) (s:(Int×Int×Int×ZoA)):Zvb:=Zre (fun a i j data=>rec_ (a,i,j,data)) s.1 s.2.1 s.2.2.1 s.2.2.2
theorem Zwf:∀n s,Ztt (n+1) s=Ztu (Ztt n) s:=fun _ _=>rfl
def Zrf (rec_:ZEG) (a:Int) (i:Int) (j:Int) (data:ZoA):ZAj:=
 (ZoQ big a i j data).bind fun(x0,x1,x2,x3)=>ZrK rec_ x0 x1 x2 x3
def ZoE:Nat→Int→Int→Int→ZoA→ZAj
 |0,_,_,_,_=>none
 |n_+1,a,i,j,data=>Zrf (ZoE n_) a i j data
def Ztv (n:Nat) (s:(Int×Int×Int×ZoA)):ZAj:=ZoE n s.1 s.2.1 s.2.2.1 s.2.2.2
def Ztw (rec_:(Int×Int×Int×ZoA)→ZAj) (s:(Int×Int×Int×ZoA)):ZAj:=Zrf (fun a i j data=>rec_ (a,i,j,data)) s.1 s.2.1 s.2.2.1 s.2.2.2
theorem Zwg:∀n s,Ztv (n+1) s=Ztw (Ztv n) s:=fun _ _=>rfl
def ZrL (a:Int) (i:Int) (j:Int) (data:ZoA):ZCJ:=
 bif (decide (i > j))then (
  chk (inR a (data.length:Int)) <|
  (data[(a).toNat]?).bind fun data_e=>
  chk (inR j (data.length:Int)) <|
  (data[(j).toNat]?).bind fun data_e_1=>
  chk (inR j (data.length:Int)) <|
  chk (inR a ((data.set ((j).toNat) data_e).length:Int)) <|
  some (j,true,((data.set ((j).toNat) data_e).set ((a).toNat) data_e_1))
 )else (
  chk (inR j (data.length:Int)) <|
  (data[(j).toNat]?).bind fun data_e_2=>
  chk (inR i (data.length:Int)) <|
  (data[(i).toNat]?).bind fun data_e_3=>
  chk (inR i (data.length:Int)) <|
  chk (inR j ((data.set ((i).toNat) data_e_2).length:Int)) <|
  chk (inK .i64 (i+1)) <|
  chk (inK .i64 (j - 1)) <|
  (ZoE big a (i+1) (j - 1) ((data.set ((i).toNat) data_e_2).set ((j).toNat) data_e_3)).bind fun(x0,x1,x2)=>ZrI x0 x1 x2
 )
def Zqi (rec_:ZAk) (a:Int) (i:Int) (j:Int) (t66:Bool) (data:ZoA):Zvb:=
 bif t66 then (
  chk (inK .i64 (j - 1)) <|
  rec_ a i (j - 1) data
 )else (
  some (a,i,j,data)
 )
def Zrg (rec_:ZAk) (a:Int) (i:Int) (j:Int) (data:ZoA):Zvb:=
 bif (decide (i≤j))then (
  chk (inR j (data.length:Int)) <|
  (data[(j).toNat]?).bind fun data_e=>
  chk (inR a (data.length:Int)) <|
  (data[(a).toNat]?).bind fun data_e_1=>
  (Zo9 data_e data_e_1).bind fun q=>
  Zqi rec_ a i j (!(decide (q < 0))) data
 )else (
  Zqi rec_ a i j false data
 )
def ZoR:Nat→Int→Int→Int→ZoA→Zvb
 |0,_,_,_,_=>none
 |n_+1,a,i,j,data=>Zrg (ZoR n_) a i j data
def Ztx (n:Nat) (s:(Int×Int×Int×ZoA)):Zvb:=ZoR n s.1 s.2.1 s.2.2.1 s.2.2.2
def Zty (rec_:ZCc) (s:(Int×Int×Int×ZoA)):Zvb:=Zrg (fun a i j data=>rec_ (a,i,j,data)) s.1 s.2.1 s.2.2.1 s.2.2.2
theorem Zwh:∀n s,Ztx (n+1) s=Zty (Ztx n) s:=fun _ _=>rfl
def ZrM (a:Int) (i:Int) (j:Int) (data:ZoA):ZCJ:=
 (ZoR big a i j data).bind fun(x0,x1,x2,x3)=>ZrL x0 x1 x2 x3
def Zqj (rec_:ZAk) (a:Int) (i:Int) (j:Int) (t47:Bool) (data:ZoA):Zvb:=
 bif t47 then (
  chk (inK .i64 (i+1)) <|
  rec_ a (i+1) j data
 )else (
  some (a,i,j,data)
 )
def Zrh (rec_:ZAk) (a:Int) (i:Int) (j:Int) (data:ZoA):Zvb:=
 bif (decide (i≤j))then (
  chk (inR i (data.length:Int)) <|
  (data[(i).toNat]?).bind fun data_e=>
  chk (inR a (data.length:Int)) <|
  (data[(a).toNat]?).bind fun data_e_1=>
  (Zo9 data_e data_e_1).bind fun q=>
  Zqj rec_ a i j (decide (q < 0)) data
 )else (
  Zqj rec_ a i j false data
 )
def ZoS:Nat→Int→Int→Int→ZoA→Zvb
 |0,_,_,_,_=>none
 |n_+1,a,i,j,data=>Zrh (ZoS n_) a i j data
def Ztz (n:Nat) (s:(Int×Int×Int×ZoA)):Zvb:=ZoS n s.1 s.2.1 s.2.2.1 s.2.2.2
def ZtA (rec_:ZCc) (s:(Int×Int×Int×ZoA)):Zvb:=Zrh (fun a i j data=>rec_ (a,i,j,data)) s.1 s.2.1 s.2.2.1 s.2.2.2
theorem Zwi:∀n s,Ztz (n+1) s=ZtA (Ztz n) s:=fun _ _=>rfl
def ZqU (data:ZoA) (a:Int) (b:Int) (pivot:Int):ZCJ:=
 chk (inR pivot (data.length:Int)) <|
 (data[(pivot).toNat]?).bind fun data_e=>
 chk (inR a (data.length:Int)) <|
 (data[(a).toNat]?).bind fun data_e_1=>
 chk (inR a (data.length:Int)) <|
 chk (inR pivot ((data.set ((a).toNat) data_e).length:Int)) <|
 chk (inK .i64 (a+1)) <|
 chk (inK .i64 (b - 1)) <|
 (ZoS big a (a+1) (b - 1) ((data.set ((a).toNat) data_e).set ((pivot).toNat) data_e_1)).bind fun(x0,x1,x2,x3)=>ZrM x0 x1 x2 x3
def Zqt (data:ZoA) (a:Int) (b:Int) (pivot:Int):ZCJ:=
 (ZqU data a b pivot).bind fun r=>chk (decide (r.2.2.length=data.length)&&true) (some r)
def ZpC (rf_:ZoA→Int→Int→Int→Option ZoA) (rec_:ZFd) (a:Int) (b:Int) (limit:Int) (wasBalanced:Bool) (wasPartitioned:Bool) (length:Int) (pivot:Int) (t97:Bool) (data:ZoA):ZAH:=
 bif t97 then (
  (ZpG data a b pivot).bind fun(mid,t98)=>
  rec_ mid b limit wasBalanced wasPartitioned t98
 )else (
  (Zqt data a b pivot).bind fun(mid_1,alreadyPartitioned,t106)=>
  chk (inK .i64 (mid_1 - a)) <|
  chk (inK .i64 (b - mid_1)) <|
  chk (decide ((8:Int)≠0)) <|
  chk (inK .i64 (Int.tdiv length 8)) <|
  bif (decide ((mid_1 - a) < (b - mid_1)))then (
   (rf_ t106 a mid_1 limit).bind fun t129=>
   chk (inK .i64 (mid_1+1)) <|
   rec_ (mid_1+1) b limit (decide ((mid_1 - a)≥(Int.tdiv length 8))) alreadyPartitioned t129
  )else (
   chk (inK .i64 (mid_1+1)) <|
   (rf_ t106 (mid_1+1) b limit).bind fun t140=>
   rec_ a mid_1 limit (decide ((b - mid_1)≥(Int.tdiv length 8))) alreadyPartitioned t140
  )
 )
def ZpD (rf_:ZoA→Int→Int→Int→Option ZoA) (rec_:ZFd) (a:Int) (b:Int) (limit:Int) (wasBalanced:Bool) (wasPartitioned:Bool) (length:Int) (pivot:Int) (data:ZoA):ZAH:=
 bif (decide (a > 0))then (
  chk (inK .i64 (a - 1)) <|
  chk (inR (a - 1) (data.length:Int)) <|
  (data[((a - 1)).toNat]?).bind fun data_e=>
  chk (inR pivot (data.length:Int)) <|
  (data[(pivot).toNat]?).bind fun data_e_1=>
  (Zo9 data_e data_e_1).bind fun q=>
  ZpC rf_ rec_ a b limit wasBalanced wasPartitioned length pivot (!(decide (q < 0))) data
 )else (
  ZpC rf_ rec_ a b limit wasBalanced wasPartitioned length pivot false data
 )
def Zo6 (rf_:ZoA→Int→Int→Int→Option ZoA) (rec_:ZFd) (a:Int) (b:Int) (limit:Int) (wasBalanced:Bool) (wasPartitioned:Bool) (length:Int) (pivot:Int) (t75:Bool) (data:ZoA):ZAH:=
 bif t75 then (
  (Zpa data a b).bind fun(q,t76)=>
  bif q then (
   some (.ret t76)
  )else (
   ZpD rf_ rec_ a b limit wasBalanced wasPartitioned length pivot t76
  )
 )else (
  ZpD rf_ rec_ a b limit wasBalanced wasPartitioned length pivot data
 )
def ZpE (rf_:ZoA→Int→Int→Int→Option ZoA) (rec_:ZFd) (a:Int) (b:Int) (limit:Int) (wasBalanced:Bool) (wasPartitioned:Bool) (length:Int) (pivot:Int) (hint:Int) (data:ZoA):ZAH:=
 bif wasBalanced then (
  bif wasPartitioned then (
   Zo6 rf_ rec_ a b limit wasBalanced wasPartitioned length pivot (hint == 1) data
  )else (
   Zo6 rf_ rec_ a b limit wasBalanced wasPartitioned length pivot false data
  )
 )else (
  Zo6 rf_ rec_ a b limit wasBalanced wasPartitioned length pivot false data
 )
def ZpF (rf_:ZoA→Int→Int→Int→Option ZoA) (rec_:ZFd) (a:Int) (b:Int) (limit:Int) (wasBalanced:Bool) (wasPartitioned:Bool) (length:Int) (data:ZoA):ZAH:=
 (Zp4 data a b).bind fun(pivot,hint,t48)=>
 bif (hint == 2)then (
  (ZpY t48 a b).bind fun t57=>
  chk (inK .i64 (b - 1)) <|
  chk (inK .i64 (pivot - a)) <|
  chk (inK .i64 ((b - 1) - (pivot - a))) <|
  ZpE rf_ rec_ a b limit wasBalanced wasPartitioned length ((b - 1) - (pivot - a)) (1:Int) t57
 )else (
  ZpE rf_ rec_ a b limit wasBalanced wasPartitioned length pivot hint t48
 )
def ZrH (rf_:ZoA→Int→Int→Int→Option ZoA) (rec_:ZFd) (a:Int) (b:Int) (limit:Int) (wasBalanced:Bool) (wasPartitioned:Bool) (data:ZoA):ZAH:=
 chk (inK .i64 (b - a)) <|
 bif (decide ((b - a)≤12))then (
  (Zo8 data a b).bind fun t26=>
  some (.ret t26)
 )else (
  bif (limit == 0)then (
   (ZqD data a b).bind fun t33=>
   some (.ret t33)
  )else (
   bif (!wasBalanced)then (
    (ZpQ data a b).bind fun t40=>
    chk (inK .i64 (limit - 1)) <|
    ZpF rf_ rec_ a b (limit - 1) wasBalanced wasPartitioned (b - a) t40
   )else (
    ZpF rf_ rec_ a b limit wasBalanced wasPartitioned (b - a) data
   )
  )
 )
def Zox (rf_:ZoA→Int→Int→Int→Option ZoA):Nat→Int→Int→Int→Bool→Bool→ZoA→ZAH
 |0,_,_,_,_,_,_=>none
 |n_+1,a,b,limit,wasBalanced,wasPartitioned,data=>ZrH rf_ (Zox rf_ n_) a b limit wasBalanced wasPartitioned data
def ZtZ (rf_:ZoA→Int→Int→Int→Option ZoA) (n:Nat) (s:(Int×Int×Int×Bool×Bool×ZoA)):ZAH:=Zox rf_ n s.1 s.2.1 s.2.2.1 s.2.2.2.1 s.2.2.2.2.1 s.2.2.2.2.2
def Zt0 (rf_:ZoA→Int→Int→Int→Option ZoA) (rec_:(Int×Int×Int×Bool×Bool×ZoA)→ZAH) (s:(Int×Int×Int×Bool×Bool×ZoA)):ZAH:=ZrH rf_ (fun a b limit wasBalanced wasPartitioned data=>rec_ (a,b,limit,wasBalanced,wasPartitioned,data)) s.1 s.2.1 s.2.2.1 s.2.2.2.1 s.2.2.2.2.1 s.2.2.2.2.2
theorem ZwO (rf_:ZoA→Int→Int→Int→Option ZoA):∀n s,ZtZ rf_ (n+1) s=Zt0 rf_ (ZtZ rf_ n) s:=fun _ _=>rfl
def ZqT (rf_:ZoA→Int→Int→Int→Option ZoA) (data:ZoA) (a:Int) (b:Int) (limit:Int):Option ZoA:=
 (Zox rf_ big a b limit true true data).bind fun
  | .ret q_=>some q_
  | .brk _=>none
def Zon:Nat→ZoA→Int→Int→Int→Option ZoA
 |0,_,_,_,_=>none
 |n_+1,data,a,b,limit=>(ZqT (Zon n_) data a b limit).bind fun r=>chk (decide (r.length=data.length)&&true) (some r)
def Zsu (x_:ZoA):Option ZoA:=
 (Zvp (IntKind.wrap .u64 (x_.length:Int))).bind fun q=>
 (Zon big x_ 0 (x_.length:Int) q).bind fun t7=>
 some t7
def Zqx (x_:ZoA):Option ZoA:=
 (Zsu x_).bind fun r=>chk (decide (r.length=x_.length)&&true) (some r)
def Zwj (l:ZoA) (k:Int):Option (Nat×Nat×ZoA):=
 (Zqx l).bind fun t7=>
 chk (Zci 0 (if (t7.length:Int) < k then (t7.length:Int)else k) (t7.length:Int)) <|
 some (0,(((if (t7.length:Int) < k then (t7.length:Int)else k)).toNat - 0),t7)
def ZtT (l:ZoA) (k:Int):Option (Nat×Nat×ZoA):=
 (Zwj l k).bind fun r=>chk (decide (r.2.2.length=l.length)&&true) (some r)
def ZxC (a:Zqz) (b:Zqz):Option Int:=
 (Zw3 a.Score b.Score).bind fun q=>
 (Zrj a.Table b.Table).bind fun q_1=>
 (Zwv ([q,q_1]:Zop)).bind fun q_2=>
 some q_2
def ZsE (data:ZvQ):Option ZvQ:=
 some data
def ZsF (rec_:ZGr) (a:Int) (b:Int) (i:Int) (data:ZvQ):Option ZvQ:=
 chk (inK .i64 (i+1)) <|
 rec_ a b (i+1) data
def ZqA (rec_:ZGq) (a:Int) (b:Int) (i:Int) (j:Int) (t34:Bool) (data:ZvQ):ZDq:=
 bif t34 then (
  chk (inK .i64 (j - 1)) <|
  chk (inK .i64 (j - 1)) <|
  chk (inR (j - 1) (data.length:Int)) <|
  (data[((j - 1)).toNat]?).bind fun data_e=>
  chk (inR j (data.length:Int)) <|
  (data[(j).toNat]?).bind fun data_e_1=>
  chk (inR j (data.length:Int)) <|
  chk (inR (j - 1) ((data.set ((j).toNat) data_e).length:Int)) <|
  chk (inK .i64 (j - 1)) <|
  rec_ a b i (j - 1) ((data.set ((j).toNat) data_e).set (((j - 1)).toNat) data_e_1)
 )else (
  some (a,b,i,data)
 )
def Zvy (rec_:ZGq) (a:Int) (b:Int) (i:Int) (j:Int) (data:ZvQ):ZDq:=
 bif (decide (j > a))then (
  chk (inR j (data.length:Int)) <|
  (data[(j).toNat]?).bind fun data_e=>
  chk (inK .i64 (j - 1)) <|
  chk (inR (j - 1) (data.length:Int)) <|
  (data[((j - 1)).toNat]?).bind fun data_e_1=>
  (ZxC data_e data_e_1).bind fun q=>
  ZqA rec_ a b i j (decide (q < 0)) data
 )else (
  ZqA rec_ a b i j false data
 )
def Zpt:Nat→Int→Int→Int→Int→ZvQ→ZDq
 |0,_,_,_,_,_=>none
 |n_+1,a,b,i,j,data=>Zvy (Zpt n_) a b i j data
def Zvz (rec_:ZGr) (a:Int) (b:Int) (i:Int) (data:ZvQ):Option ZvQ:=
 bif (decide (i < b))then (
  (Zpt big a b i i data).bind fun(x0,x1,x2,x3)=>ZsF rec_ x0 x1 x2 x3
 )else (
  some data
 )
def Zpu:Nat→Int→Int→Int→ZvQ→Option ZvQ
 |0,_,_,_,_=>none
 |n_+1,a,b,i,data=>Zvz (Zpu n_) a b i data
def Ztl (data:ZvQ) (a:Int) (b:Int):Option ZvQ:=
 chk (inK .i64 (a+1)) <|
 (Zpu big a b (a+1) data).bind fun x0=>ZsE x0
def ZsV (data:ZvQ) (a:Int) (b:Int):Option ZvQ:=
 (Ztl data a b).bind fun r=>chk (decide (r.length=data.length)&&true) (some r)
def ZwD (rec_:Int→Int→Int→Bool→Bool→ZvQ→ZEB) (a:Int) (b:Int) (limit:Int) (wasBalanced:Bool) (wasPartitioned:Bool) (data:ZvQ):ZEB:=
 chk (inK .i64 (b - a)) <|
 bif (decide ((b - a)≤12))then (
  (ZsV data a b).bind fun t26=>
  some (.ret t26)
 )else (
  bif (limit == 0)then (
   none
  )else (
   bif (!wasBalanced)then (
    none
   )else (
    none
   )
  )
 )
def ZrG:Nat→Int→Int→Int→Bool→Bool→ZvQ→ZEB
 |0,_,_,_,_,_,_=>none
 |n_+1,a,b,limit,wasBalanced,wasPartitioned,data=>ZwD (ZrG n_) a b limit wasBalanced wasPartitioned data
def ZuL (data:ZvQ) (a:Int) (b:Int) (limit:Int):Option ZvQ:=
 (ZrG big a b limit true true data).bind fun
  | .ret q_=>some q_
  | .brk _=>none
def Zud (data:ZvQ) (a:Int) (b:Int) (limit:Int):Option ZvQ:=
 (ZuL data a b limit).bind fun r=>chk (decide (r.length=data.length)&&true) (some r)
def ZtN (x_:ZvQ):Option ZvQ:=
 (Zvp (IntKind.wrap .u64 (x_.length:Int))).bind fun q=>
 (Zud x_ 0 (x_.length:Int) q).bind fun t7=>
 some t7
def Zq8 (x_:ZvQ):Option ZvQ:=
 (ZtN x_).bind fun r=>chk (decide (r.length=x_.length)&&true) (some r)
def ZvI (l:ZvQ) (k:Int):Option (Nat×Nat×ZvQ):=
 (Zq8 l).bind fun t7=>
 chk (Zci 0 (if (t7.length:Int) < k then (t7.length:Int)else k) (t7.length:Int)) <|
 some (0,(((if (t7.length:Int) < k then (t7.length:Int)else k)).toNat - 0),t7)
def ZrR (l:ZvQ) (k:Int):Option (Nat×Nat×ZvQ):=
 (ZvI l k).bind fun r=>chk (decide (r.2.2.length=l.length)&&true) (some r)
def ZxM (a:ZoI) (b:ZoI):Option Int:=
 (Zw3 a.Score b.Score).bind fun q=>
 (Zxd a.Key b.Key).bind fun q_1=>
 (Zxd a.Value b.Value).bind fun q_2=>
 (Zwv ([q,q_1,q_2]:Zop)).bind fun q_3=>
 some q_3
def ZrN (data:ZvP):Option ZvP:=
 some data
def ZrO (rec_:ZGp) (a:Int) (b:Int) (i:Int) (data:ZvP):Option ZvP:=
 chk (inK .i64 (i+1)) <|
 rec_ a b (i+1) data
def ZpX (rec_:ZGo) (a:Int) (b:Int) (i:Int) (j:Int) (t34:Bool) (data:ZvP):ZDp:=
 bif t34 then (
  chk (inK .i64 (j - 1)) <|
  chk (inK .i64 (j - 1)) <|
  chk (inR (j - 1) (data.length:Int)) <|
  (data[((j - 1)).toNat]?).bind fun data_e=>
  chk (inR j (data.length:Int)) <|
  (data[(j).toNat]?).bind fun data_e_1=>
  chk (inR j (data.length:Int)) <|
  chk (inR (j - 1) ((data.set ((j).toNat) data_e).length:Int)) <|
  chk (inK .i64 (j - 1)) <|
  rec_ a b i (j - 1) ((data.set ((j).toNat) data_e).set (((j - 1)).toNat) data_e_1)
 )else (
  some (a,b,i,data)
 )
def ZuC (rec_:ZGo) (a:Int) (b:Int) (i:Int) (j:Int) (data:ZvP):ZDp:=
 bif (decide (j > a))then (
  chk (inR j (data.length:Int)) <|
  (data[(j).toNat]?).bind fun data_e=>
  chk (inK .i64 (j - 1)) <|
  chk (inR (j - 1) (data.length:Int)) <|
  (data[((j - 1)).toNat]?).bind fun data_e_1=>
  (ZxM data_e data_e_1).bind fun q=>
  ZpX rec_ a b i j (decide (q < 0)) data
 )else (
  ZpX rec_ a b i j false data
 )
def Zo2:Nat→Int→Int→Int→Int→ZvP→ZDp
 |0,_,_,_,_,_=>none
 |n_+1,a,b,i,j,data=>ZuC (Zo2 n_) a b i j data
def ZuD (rec_:ZGp) (a:Int) (b:Int) (i:Int) (data:ZvP):Option ZvP:=
 bif (decide (i < b))then (
  (Zo2 big a b i i data).bind fun(x0,x1,x2,x3)=>ZrO rec_ x0 x1 x2 x3
 )else (
  some data
 )
def Zo3:Nat→Int→Int→Int→ZvP→Option ZvP
 |0,_,_,_,_=>none
 |n_+1,a,b,i,data=>ZuD (Zo3 n_) a b i data
def Zse (data:ZvP) (a:Int) (b:Int):Option ZvP:=
 chk (inK .i64 (a+1)) <|
 (Zo3 big a b (a+1) data).bind fun x0=>ZrN x0
def ZrZ (data:ZvP) (a:Int) (b:Int):Option ZvP:=
 (Zse data a b).bind fun r=>chk (decide (r.length=data.length)&&true) (some r)
def ZvF (rec_:Int→Int→Int→Bool→Bool→ZvP→ZEA) (a:Int) (b:Int) (limit:Int) (wasBalanced:Bool) (wasPartitioned:Bool) (data:ZvP):ZEA:=
 chk (inK .i64 (b - a)) <|
 bif (decide ((b - a)≤12))then (
  (ZrZ data a b).bind fun t26=>
  some (.ret t26)
 )else (
  bif (limit == 0)then (
   none
  )else (
   bif (!wasBalanced)then (
    none
   )else (
    none
   )
  )
 )
def ZqM:Nat→Int→Int→Int→Bool→Bool→ZvP→ZEA
 |0,_,_,_,_,_,_=>none
 |n_+1,a,b,limit,wasBalanced,wasPartitioned,data=>ZvF (ZqM n_) a b limit wasBalanced wasPartitioned data
def Ztq (data:ZvP) (a:Int) (b:Int) (limit:Int):Option ZvP:=
 (ZqM big a b limit true true data).bind fun
  | .ret q_=>some q_
  | .brk _=>none
def Zs6 (data:ZvP) (a:Int) (b:Int) (limit:Int):Option ZvP:=
 (Ztq data a b limit).bind fun r=>chk (decide (r.length=data.length)&&true) (some r)
def ZrP (x_:ZvP):Option ZvP:=
 (Zvp (IntKind.wrap .u64 (x_.length:Int))).bind fun q=>
 (Zs6 x_ 0 (x_.length:Int) q).bind fun t7=>
 some t7
def ZpN (x_:ZvP):Option ZvP:=
 (ZrP x_).bind fun r=>chk (decide (r.length=x_.length)&&true) (some r)
def ZtU (l:ZvP) (k:Int):Option (Nat×Nat×ZvP):=
 (ZpN l).bind fun t7=>
 chk (Zci 0 (if (t7.length:Int) < k then (t7.length:Int)else k) (t7.length:Int)) <|
 some (0,(((if (t7.length:Int) < k then (t7.length:Int)else k)).toNat - 0),t7)
def Zql (l:ZvP) (k:Int):Option (Nat×Nat×ZvP):=
 (ZtU l k).bind fun r=>chk (decide (r.2.2.length=l.length)&&true) (some r)
def Zpf (s:ZoA) (t4:Bool):Option ZoA:=
 bif t4 then (
  some ([]:ZoA)
 )else (
  chk (Zjq (([]:ZoA).length+s.length) 80) <|
  some (([]:ZoA)++s)
 )
def Zrz (s:ZoA):Option ZoA:=
 bif (List.isEmpty s)then agree (
  Zpf s true
 ) (
  Zpf s false
 )else (
  Zpf s false
 )
def ZyF (f:Zor):Option Zor:=
 chk (Zjq f.Num.Words.length 4) <|
 chk (Zjq f.Den.Words.length 4) <|
 some f
def ZxQ (h_:ZoL):Option ZoL:=
 (ZyF h_.Score).bind fun q=>
 some (ZoL.mk h_.Ref q)
def Zxk (out:ZoA):Option ZoA:=
 some out
def Zte (rec_:ZGl) (t11:Int) (i:Int) (out:ZoA):Option ZoA:=
 bif (decide (i < t11))then (
  chk (inR i (out.length:Int)) <|
  (out[(i).toNat]?).bind fun x_=>
  (ZxQ x_).bind fun q=>
  chk (inR i (out.length:Int)) <|
  chk (inK .i64 (i+1)) <|
  rec_ t11 (i+1) (out.set ((i).toNat) q)
 )else (
  some out
 )
def ZtS:Nat→Int→Int→ZoA→Option ZoA
 |0,_,_,_=>none
 |n_+1,t11,i,out=>Zte (ZtS n_) t11 i out
def Zw1 (n:Nat) (s:(Int×Int×ZoA)):Option ZoA:=ZtS n s.1 s.2.1 s.2.2
def Zu4 (rec_:ZGm) (s:(Int×Int×ZoA)):Option ZoA:=Zte (fun t11 i out=>rec_ (t11,i,out)) s.1 s.2.1 s.2.2
theorem Zym:∀n s,Zw1 (n+1) s=Zu4 (Zw1 n) s:=fun _ _=>rfl
def Zvh (l:ZoA):Option ZoA:=
 (Zrz l).bind fun out=>
 (ZtS big (out.length:Int) (0:Int) out).bind fun x0=>Zxk x0
def Zp7 (s:ZvQ) (t4:Bool):Option ZvQ:=
 bif t4 then (
  some ([]:ZvQ)
 )else (
  chk (Zjq (([]:ZvQ).length+s.length) 96) <|
  some (([]:ZvQ)++s)
 )
def Zsd (s:ZvQ):Option ZvQ:=
 bif (List.isEmpty s)then agree (
  Zp7 s true
 ) (
  Zp7 s false
 )else (
  Zp7 s false
 )
def Ztd (s:Zop) (t4:Bool):Option Zop:=
 bif t4 then (
  some ([]:Zop)
 )else (
  chk (Zjq (([]:Zop).length+s.length) 8) <|
  some (([]:Zop)++s)
 )
def ZvZ (s:Zop):Option Zop:=
 bif (List.isEmpty s)then agree (
  Ztd s true
 ) (
  Ztd s false
 )else (
  Ztd s false
 )
def Zy4 (m:Zqz):Option Zqz:=
 (ZvZ m.Align).bind fun q=>
 (ZyF m.Score).bind fun q_1=>
 some (Zqz.mk m.Table q q_1)
def Zw0 (out:ZvQ):Option ZvQ:=
 some out
def Zyc (rec_:Int→Int→ZvQ→Option ZvQ) (t11:Int) (i:Int) (out:ZvQ):Option ZvQ:=
 bif (decide (i < t11))then (
  chk (inR i (out.length:Int)) <|
  (out[(i).toNat]?).bind fun x_=>
  (Zy4 x_).bind fun q=>
  chk (inR i (out.length:Int)) <|
  chk (inK .i64 (i+1)) <|
  rec_ t11 (i+1) (out.set ((i).toNat) q)
 )else (
  some out
 )
def Zu3:Nat→Int→Int→ZvQ→Option ZvQ
 |0,_,_,_=>none
 |n_+1,t11,i,out=>Zyc (Zu3 n_) t11 i out
def ZsW (l:ZvQ):Option ZvQ:=
 (Zsd l).bind fun out=>
 (Zu3 big (out.length:Int) (0:Int) out).bind fun x0=>Zw0 x0
def Zo4 (s:ZvP) (t4:Bool):Option ZvP:=
 bif t4 then (
  some ([]:ZvP)
 )else (
  chk (Zjq (([]:ZvP).length+s.length) 112) <|
  some (([]:ZvP)++s)
 )
def Zqk (s:ZvP):Option ZvP:=
 bif (List.isEmpty s)then agree (
  Zo4 s true
 ) (
  Zo4 s false
 )else (
  Zo4 s false
 )
def Zy3 (c:ZoI):Option ZoI:=
 (ZyF c.Score).bind fun q=>
 some (ZoI.mk c.Key c.Value q c.Sign c.N)
def ZvB (out:ZvP):Option ZvP:=
 some out
def Zxq (rec_:Int→Int→ZvP→Option ZvP) (t11:Int) (i:Int) (out:ZvP):Option ZvP:=
 bif (decide (i < t11))then (
  chk (inR i (out.length:Int)) <|
  (out[(i).toNat]?).bind fun x_=>
  (Zy3 x_).bind fun q=>
  chk (inR i (out.length:Int)) <|
  chk (inK .i64 (i+1)) <|
  rec_ t11 (i+1) (out.set ((i).toNat) q)
 )else (
  some out
 )
def Ztm:Nat→Int→Int→ZvP→Option ZvP
 |0,_,_,_=>none
 |n_+1,t11,i,out=>Zxq (Ztm n_) t11 i out
def Zq9 (l:ZvP):Option ZvP:=
 (Zqk l).bind fun out=>
 (Ztm big (out.length:Int) (0:Int) out).bind fun x0=>ZvB x0
def Zqy (s:(List Zp0)) (t4:Bool):Option (List Zp0):=
 bif t4 then (
  some ([]:(List Zp0))
 )else (
  chk (Zjq (([]:(List Zp0)).length+s.length) 32) <|
  some (([]:(List Zp0))++s)
 )
def Zvc (s:(List Zp0)):Option (List Zp0):=
 bif (List.isEmpty s)then agree (
  Zqy s true
 ) (
  Zqy s false
 )else (
  Zqy s false
 )
def Zya (p:Zqn):Option Zqn:=
 (Zvc p.Steps).bind fun q=>
 some (Zqn.mk p.Start q)
def Zy2 (r_:Zr4):Option Zr4:=
 (Zya r_.Path).bind fun q=>
 (ZvZ r_.Report.Unused).bind fun q_1=>
 some (Zr4.mk q (Zsa.mk r_.Report.Rows r_.Report.Lost r_.Report.Most q_1))
def ZwZ (out:ZyB):Option ZyB:=
 some out
def Zyb (rec_:Int→Int→ZyB→Option ZyB) (t11:Int) (i:Int) (out:ZyB):Option ZyB:=
 bif (decide (i < t11))then (
  chk (inR i (out.length:Int)) <|
  (out[(i).toNat]?).bind fun x_=>
  (Zy2 x_).bind fun q=>
  chk (inR i (out.length:Int)) <|
  chk (inK .i64 (i+1)) <|
  rec_ t11 (i+1) (out.set ((i).toNat) q)
 )else (
  some out
 )
def Zu2:Nat→Int→Int→ZyB→Option ZyB
 |0,_,_,_=>none
 |n_+1,t11,i,out=>Zyb (Zu2 n_) t11 i out
def Zup (l:ZyB):Option ZyB:=
 (ZqE l).bind fun out=>
 (Zu2 big (out.length:Int) (0:Int) out).bind fun x0=>ZwZ x0
def ZpR (s:(List ZpB)) (t4:Bool):Option (List ZpB):=
 bif t4 then (
  some ([]:(List ZpB))
 )else (
  chk (Zjq (([]:(List ZpB)).length+s.length) 40) <|
  some (([]:(List ZpB))++s)
 )
def Zt1 (s:(List ZpB)):Option (List ZpB):=
 bif (List.isEmpty s)then agree (
  ZpR s true
 ) (
  ZpR s false
 )else (
  ZpR s false
 )
def ZqV (s:(List Zov)) (t4:Bool):Option (List Zov):=
 bif t4 then (
  some ([]:(List Zov))
 )else (
  chk (Zjq (([]:(List Zov)).length+s.length) 16) <|
  some (([]:(List Zov))++s)
 )
def ZvA (s:(List Zov)):Option (List Zov):=
 bif (List.isEmpty s)then agree (
  ZqV s true
 ) (
  ZqV s false
 )else (
  ZqV s false
 )
def Zy1 (f:Zr5):Option Zr5:=
 (Zya f.View.Path).bind fun q=>
 (Zt1 f.View.Filters).bind fun q_1=>
 (ZvA f.View.Columns).bind fun q_2=>
 some (Zr5.mk (Zt4.mk q q_1 q_2) f.Rows)
def Zw2 (out:ZyA):Option ZyA:=
 some out
def Zyd (rec_:Int→Int→ZyA→Option ZyA) (t11:Int) (i:Int) (out:ZyA):Option ZyA:=
 bif (decide (i < t11))then (
  chk (inR i (out.length:Int)) <|
  (out[(i).toNat]?).bind fun x_=>
  (Zy1 x_).bind fun q=>
  chk (inR i (out.length:Int)) <|
  chk (inK .i64 (i+1)) <|
  rec_ t11 (i+1) (out.set ((i).toNat) q)
 )else (
  some out
 )
def Zu5:Nat→Int→Int→ZyA→Option ZyA
 |0,_,_,_=>none
 |n_+1,t11,i,out=>Zyd (Zu5 n_) t11 i out
def Zuq (l:ZyA):Option ZyA:=
 (ZqF l).bind fun out=>
 (Zu5 big (out.length:Int) (0:Int) out).bind fun x0=>Zw2 x0
def Zyu (a:Zos):Option Zos:=
 (Zvh a.Hits).bind fun q=>
 (ZsW a.Matches).bind fun q_1=>
 (Zq9 a.Correlated).bind fun q_2=>
 (Zup a.Routes).bind fun q_3=>
 (Zuq a.Found).bind fun q_4=>
 some (Zos.mk q q_1 q_2 q_3 q_4)
def Zxv (q:Zpl) (t4:ZoA) (t4_1:ZvQ) (t4_2:ZvP) (t4_3:ZyB) (t4_4:ZyA) (out:ZoA) (out_1:ZvQ) (out_2:ZvP) (out_3:ZyB) (out_4:ZyA):ZED:=
 (ZtT out q.K).bind fun(q_off,q_len,t60)=>
 (ZrR out_1 q.K).bind fun(q_off_1,q_len_1,t66)=>
 (Zql out_2 q.K).bind fun(q_off_2,q_len_2,t72)=>
 (Zyu (Zos.mk ((t60.drop q_off).take q_len) ((t66.drop q_off_1).take q_len_1) ((t72.drop q_off_2).take q_len_2) out_3 out_4)).bind fun q_1=>
 some (q_1,0)
def Zwz (rec_:ZIj) (t18:ZA7) (t19:Int) (t20:Int) (q:Zpl) (t4:ZoA) (t4_1:ZvQ) (t4_2:ZvP) (t4_3:ZyB) (t4_4:ZyA) (out:ZoA) (out_1:ZvQ) (out_2:ZvP) (out_3:ZyB) (out_4:ZyA):ZDK:=
 chk (inK .i64 (t20+1)) <|
 rec_ t18 t19 (t20+1) q t4 t4_1 t4_2 t4_3 t4_4 out out_1 out_2 out_3 out_4
def ZwA (rec_:ZIj) (t18:ZA7) (t19:Int) (t20:Int) (q:Zpl) (x_:Zos) (t4:ZoA) (t4_1:ZvQ) (t4_2:ZvP) (t4_3:ZyB) (t4_4:ZyA) (out:ZoA) (out_1:ZvQ) (out_2:ZvP) (out_3:ZyB) (out_4:ZyA):ZDK:=
 bif ((out_4.length:Int) == 0)then (
  (ZqF x_.Found).bind fun q_1=>
  Zwz rec_ t18 t19 t20 q t4 t4_1 t4_2 t4_3 t4_4 out out_1 out_2 out_3 q_1
 )else (
  Zwz rec_ t18 t19 t20 q t4 t4_1 t4_2 t4_3 t4_4 out out_1 out_2 out_3 out_4
 )
def ZvE (rec_:ZIj) (t18:ZA7) (t19:Int) (t20:Int) (q:Zpl) (t4:ZoA) (t4_1:ZvQ) (t4_2:ZvP) (t4_3:ZyB) (t4_4:ZyA) (out:ZoA) (out_1:ZvQ) (out_2:ZvP) (out_3:ZyB) (out_4:ZyA):ZDK:=
 bif (decide (t20 < t19))then (
  (idx t18 t20).bind fun x_=>
  chk (Zjq (out.length+x_.Hits.length) 80) <|
  chk (Zjq (out_1.length+x_.Matches.length) 96) <|
  chk (Zjq (out_2.length+x_.Correlated.length) 112) <|
  bif ((out_3.length:Int) == 0)then (
   (ZqE x_.Routes).bind fun q_1=>
   ZwA rec_ t18 t19 t20 q x_ t4 t4_1 t4_2 t4_3 t4_4 (out++x_.Hits) (out_1++x_.Matches) (out_2++x_.Correlated) q_1 out_4
  )else (
   ZwA rec_ t18 t19 t20 q x_ t4 t4_1 t4_2 t4_3 t4_4 (out++x_.Hits) (out_1++x_.Matches) (out_2++x_.Correlated) out_3 out_4
  )
 )else (
  some (q,t4,t4_1,t4_2,t4_3,t4_4,out,out_1,out_2,out_3,out_4)
 )
def Zt2:Nat→ZA7→Int→Int→Zpl→ZoA→ZvQ→ZvP→ZyB→ZyA→ZoA→ZvQ→ZvP→ZyB→ZyA→ZDK
 |0,_,_,_,_,_,_,_,_,_,_,_,_,_,_=>none
 |n_+1,t18,t19,t20,q,t4,t4_1,t4_2,t4_3,t4_4,out,out_1,out_2,out_3,out_4=>ZvE (Zt2 n_) t18 t19 t20 q t4 t4_1 t4_2 t4_3 t4_4 out out_1 out_2 out_3 out_4
def Zx8 (n:Nat) (s:(ZA7×Int×Int×Zpl×ZoA×ZvQ×ZvP×ZyB×ZyA×ZoA×ZvQ×ZvP×ZyB×ZyA)):ZDK:=Zt2 n s.1 s.2.1 s.2.2.1 s.2.2.2.1 s.2.2.2.2.1 s.2.2.2.2.2.1 s.2.2.2.2.2.2.1 s.2.2.2.2.2.2.2.1 s.2.2.2.2.2.2.2.2.1 s.2.2.2.2.2.2.2.2.2.1 s.2.2.2.2.2.2.2.2.2.2.1 s.2.2.2.2.2.2.2.2.2.2.2.1 s.2.2.2.2.2.2.2.2.2.2.2.2.1 s.2.2.2.2.2.2.2.2.2.2.2.2.2
def Zw9 (rec_:(ZA7×Int×Int×Zpl×ZoA×ZvQ×ZvP×ZyB×ZyA×ZoA×ZvQ×ZvP×ZyB×ZyA)→ZDK) (s:(ZA7×Int×Int×Zpl×ZoA×ZvQ×ZvP×ZyB×ZyA×ZoA×ZvQ×ZvP×ZyB×ZyA)):ZDK:=ZvE (fun t18 t19 t20 q t4 t4_1 t4_2 t4_3 t4_4 out out_1 out_2 out_3 out_4=>rec_ (t18,t19,t20,q,t4,t4_1,t4_2,t4_3,t4_4,out,out_1,out_2,out_3,out_4)) s.1 s.2.1 s.2.2.1 s.2.2.2.1 s.2.2.2.2.1 s.2.2.2.2.2.1 s.2.2.2.2.2.2.1 s.2.2.2.2.2.2.2.1 s.2.2.2.2.2.2.2.2.1 s.2.2.2.2.2.2.2.2.2.1 s.2.2.2.2.2.2.2.2.2.2.1 s.2.2.2.2.2.2.2.2.2.2.2.1 s.2.2.2.2.2.2.2.2.2.2.2.2.1 s.2.2.2.2.2.2.2.2.2.2.2.2.2
theorem Zzw:∀n s,Zx8 (n+1) s=Zw9 (Zx8 n) s:=fun _ _=>rfl
def ZwB (l:ZA7) (t16:Bool) (q:Zpl) (t4:ZoA) (t4_1:ZvQ) (t4_2:ZvP) (t4_3:ZyB) (t4_4:ZyA):ZED:=
 bif t16 then (
  some ((Zos.mk ([]:ZoA) ([]:ZvQ) ([]:ZvP) ([]:ZyB) ([]:ZyA)),2)
 )else (
  (Zt2 big l (l.length:Int) (0:Int) q t4 t4_1 t4_2 t4_3 t4_4 ([]:ZoA) ([]:ZvQ) ([]:ZvP) ([]:ZyB) ([]:ZyA)).bind fun(x0,x1,x2,x3,x4,x5,x6,x7,x8,x9,x10)=>Zxv x0 x1 x2 x3 x4 x5 x6 x7 x8 x9 x10
 )
def Zxz (q:Zpl) (l:ZA7):ZED:=
 bif (decide (q.K < 0))then (
  ZwB l true q ([]:ZoA) ([]:ZvQ) ([]:ZvP) ([]:ZyB) ([]:ZyA)
 )else (
  ZwB l (decide (q.K > 1024)) q ([]:ZoA) ([]:ZvQ) ([]:ZvP) ([]:ZyB) ([]:ZyA)
 )
def Zp9 (t24:Bool) (f:Zor):Option Bool:=
 bif t24 then (
  some false
 )else (
  bif ((f.Num.Words.length:Int) == 0)then (
   (Zpx f.Den.Words ([1]:Zop)).bind fun q=>
   some (q == 0)
  )else (
   (ZsQ f.Num.Words f.Den.Words).bind fun q_1=>
   (Zpx q_1 ([1]:Zop)).bind fun q_2=>
   some (q_2 == 0)
  )
 )
def Zr7 (f:Zor):Option Bool:=
 (Zqa f.Num).bind fun q=>
 bif (!q)then (
  Zp9 true f
 )else (
  (Zqa f.Den).bind fun q_1=>
  bif (!q_1)then (
   Zp9 true f
  )else (
   bif f.Den.Neg then (
    Zp9 true f
   )else (
    Zp9 ((f.Den.Words.length:Int) == 0) f
   )
  )
 )
def ZuS (out:Zop):Option Zop:=
 (Zo0 out).bind fun q=>
 some q
def ZuT (rec_:ZGt) (a:Zop) (b:Zop) (i:Int) (c:Int) (out:Zop):Option Zop:=
 chk (inK .i64 (i+(b.length:Int))) <|
 chk (inR (i+(b.length:Int)) (out.length:Int)) <|
 chk (inK .i64 (i+1)) <|
 rec_ a b (i+1) (out.set (((i+(b.length:Int))).toNat) (IntKind.wrap .u32 c))
def Zsh (rec_:Zop→Zop→Int→Int→Int→Zop→ZE9) (a:Zop) (b:Zop) (i:Int) (c:Int) (j:Int) (out:Zop):ZE9:=
 bif (decide (j < (b.length:Int)))then (
  (idx a i).bind fun a_e=>
  (idx b j).bind fun b_e=>
  chk (inK .i64 (i+j)) <|
  chk (inR (i+j) (out.length:Int)) <|
  (out[((i+j)).toNat]?).bind fun out_e=>
  chk (inK .i64 (i+j)) <|
  chk (inR (i+j) (out.length:Int)) <|
  chk (decide (0≤(32:Int))) <|
  chk (inK .i64 (j+1)) <|
  rec_ a b i (shrK .u64 (IntKind.wrap .u64 (c+(IntKind.wrap .u64 ((IntKind.wrap .u64 ((IntKind.wrap .u64 a_e)*(IntKind.wrap .u64 b_e)))+(IntKind.wrap .u64 out_e))))) 32) (j+1) (out.set (((i+j)).toNat) (IntKind.wrap .u32 (IntKind.wrap .u64 (c+(IntKind.wrap .u64 ((IntKind.wrap .u64 ((IntKind.wrap .u64 a_e)*(IntKind.wrap .u64 b_e)))+(IntKind.wrap .u64 out_e)))))))
 )else (
  some (a,b,i,c,out)
 )
def Zs7:Nat→Zop→Zop→Int→Int→Int→Zop→ZE9
 |0,_,_,_,_,_,_=>none
 |n_+1,a,b,i,c,j,out=>Zsh (Zs7 n_) a b i c j out
def Zv8 (n:Nat) (s:(Zop×Zop×Int×Int×Int×Zop)):ZE9:=Zs7 n s.1 s.2.1 s.2.2.1 s.2.2.2.1 s.2.2.2.2.1 s.2.2.2.2.2
def Zt7 (rec_:(Zop×Zop×Int×Int×Int×Zop)→ZE9) (s:(Zop×Zop×Int×Int×Int×Zop)):ZE9:=Zsh (fun a b i c j out=>rec_ (a,b,i,c,j,out)) s.1 s.2.1 s.2.2.1 s.2.2.2.1 s.2.2.2.2.1 s.2.2.2.2.2
theorem ZxY:∀n s,Zv8 (n+1) s=Zt7 (Zv8 n) s:=fun _ _=>rfl
def Zsi (rec_:ZGt) (a:Zop) (b:Zop) (i:Int) (out:Zop):Option Zop:=
 bif (decide (i < (a.length:Int)))then (
  (Zs7 big a b i (0:Int) (0:Int) out).bind fun(x0,x1,x2,x3,x4)=>ZuT rec_ x0 x1 x2 x3 x4
 )else (
  some out
 )
def ZrC:Nat→Zop→Zop→Int→Zop→Option Zop
 |0,_,_,_,_=>none
 |n_+1,a,b,i,out=>Zsi (ZrC n_) a b i out
def Zv9 (n:Nat) (s:(Zop×Zop×Int×Zop)):Option Zop:=ZrC n s.1 s.2.1 s.2.2.1 s.2.2.2
def Zt8 (rec_:(Zop×Zop×Int×Zop)→Option Zop) (s:(Zop×Zop×Int×Zop)):Option Zop:=Zsi (fun a b i out=>rec_ (a,b,i,out)) s.1 s.2.1 s.2.2.1 s.2.2.2
theorem ZxZ:∀n s,Zv9 (n+1) s=Zt8 (Zv9 n) s:=fun _ _=>rfl
def Zun (a:Zop) (b:Zop):Option Zop:=
 chk (inK .i64 ((a.length:Int)+(b.length:Int))) <|
 chk (mkOk ((a.length:Int)+(b.length:Int)) ((a.length:Int)+(b.length:Int)) 4) <|
 (ZrC big a b (0:Int) (List.replicate (((a.length:Int)+(b.length:Int))).toNat (0:Int))).bind fun x0=>ZuS x0
def Zqb (a:Zoq) (b:Zoq):Option Zoq:=
 (Zun a.Words b.Words).bind fun q=>
 (ZoT (!(a.Neg == b.Neg)) q).bind fun q_1=>
 some q_1
def Ztp (a:Zoq):Option Zoq:=
 (ZoT (!a.Neg) a.Words).bind fun q=>
 some q
def Zu1 (c:Int) (out:Zop):Option Zop:=
 chk (Zjq (out.length+([(IntKind.wrap .u32 c)]:Zop).length) 4) <|
 some (out++([(IntKind.wrap .u32 c)]:Zop))
def ZrE (rec_:ZDt) (a:Zop) (b:Zop) (c:Int) (i:Int) (out:Zop):ZwJ:=
 chk (Zjq (out.length+([(IntKind.wrap .u32 c)]:Zop).length) 4) <|
 chk (decide (0≤(32:Int))) <|
 chk (inK .i64 (i+1)) <|
 rec_ a b (shrK .u64 c 32) (i+1) (out++([(IntKind.wrap .u32 c)]:Zop))
def ZrF (rec_:ZDt) (a:Zop) (b:Zop) (c:Int) (i:Int) (out:Zop):ZwJ:=
 bif (decide (i < (b.length:Int)))then (
  (idx b i).bind fun b_e=>
  ZrE rec_ a b (IntKind.wrap .u64 (c+(IntKind.wrap .u64 b_e))) i out
 )else (
  ZrE rec_ a b c i out
 )
def ZqI (rec_:ZDt) (a:Zop) (b:Zop) (c:Int) (i:Int) (t17:Bool) (out:Zop):ZwJ:=
 bif t17 then (
  bif (decide (i < (a.length:Int)))then (
   (idx a i).bind fun a_e=>
   ZrF rec_ a b (IntKind.wrap .u64 (c+(IntKind.wrap .u64 a_e))) i out
  )else (
   ZrF rec_ a b c i out
  )
 )else (
  some (c,out)
 )
def Zsk (rec_:ZDt) (a:Zop) (b:Zop) (c:Int) (i:Int) (out:Zop):ZwJ:=
 bif (decide (i < (a.length:Int)))then (
  ZqI rec_ a b c i true out
 )else (
  ZqI rec_ a b c i (decide (i < (b.length:Int))) out
 )
def ZpS:Nat→Zop→Zop→Int→Int→Zop→ZwJ
 |0,_,_,_,_,_=>none
 |n_+1,a,b,c,i,out=>Zsk (ZpS n_) a b c i out
def Zwd (n:Nat) (s:(Zop×Zop×Int×Int×Zop)):ZwJ:=ZpS n s.1 s.2.1 s.2.2.1 s.2.2.2.1 s.2.2.2.2
def Zuc (rec_:(Zop×Zop×Int×Int×Zop)→ZwJ) (s:(Zop×Zop×Int×Int×Zop)):ZwJ:=Zsk (fun a b c i out=>rec_ (a,b,c,i,out)) s.1 s.2.1 s.2.2.1 s.2.2.2.1 s.2.2.2.2
theorem Zx1:∀n s,Zwd (n+1) s=Zuc (Zwd n) s:=fun _ _=>rfl
def ZsR (a:Zop) (b:Zop):Option Zop:=
 (ZpS big a b (0:Int) (0:Int) ([]:Zop)).bind fun(x0,x1)=>Zu1 x0 x1
def ZtQ (a:Zoq) (b:Zoq):Option Zoq:=
 bif (a.Neg == b.Neg)then (
  (ZsR a.Words b.Words).bind fun q=>
  (ZoT a.Neg q).bind fun q_1=>
  some q_1
 )else (
  (Zpx a.Words b.Words).bind fun q_2=>
  bif (decide (q_2≥0))then (
   (ZqK a.Words b.Words).bind fun q_3=>
   (ZoT a.Neg q_3).bind fun q_4=>
   some q_4
  )else (
   (ZqK b.Words a.Words).bind fun q_5=>
   (ZoT b.Neg q_5).bind fun q_6=>
   some q_6
  )
 )
def Ztc (t13:Bool) (a:Zor) (b:Zor):Option Int:=
 bif t13 then (
  some (0:Int)
 )else (
  (Zqb a.Num b.Den).bind fun q=>
  (Zqb b.Num a.Den).bind fun q_1=>
  (Ztp q_1).bind fun q_2=>
  (ZtQ q q_2).bind fun x_=>
  bif ((x_.Words.length:Int) == 0)then (
   some (0:Int)
  )else (
   bif x_.Neg then (
    some (-1:Int)
   )else (
    some (1:Int)
   )
  )
 )
def Zuo (a:Zor) (b:Zor):Option Int:=
 (Zr7 a).bind fun q=>
 bif (!q)then (
  Ztc true a b
 )else (
  (Zr7 b).bind fun q_1=>
  Ztc (!q_1) a b
 )
def Zrb (a:Zor) (b:Zor):Option Bool:=
 (Zuo a b).bind fun q=>
 some (decide (q < 0))
def ZtC:Option Bool:=
 some true
def Zra (rec_:Zop→Int→Int→Zoq→Zy0) (t22:Zop) (t23:Int) (i:Int) (b:Zoq):Zy0:=
 bif (decide (i < t23))then (
  (idx t22 i).bind fun w_=>
  (idx b.Words i).bind fun Word=>
  bif (Word != w_)then (
   some (.ret false)
  )else (
   chk (inK .i64 (i+1)) <|
   rec_ t22 t23 (i+1) b
  )
 )else (
  some (.brk ())
 )
def ZrT:Nat→Zop→Int→Int→Zoq→Zy0
 |0,_,_,_,_=>none
 |n_+1,t22,t23,i,b=>Zra (ZrT n_) t22 t23 i b
def Zvm (n:Nat) (s:(Zop×Int×Int×Zoq)):Zy0:=ZrT n s.1 s.2.1 s.2.2.1 s.2.2.2
def ZsY (rec_:(Zop×Int×Int×Zoq)→Zy0) (s:(Zop×Int×Int×Zoq)):Zy0:=Zra (fun t22 t23 i b=>rec_ (t22,t23,i,b)) s.1 s.2.1 s.2.2.1 s.2.2.2
theorem Zxp:∀n s,Zvm (n+1) s=ZsY (Zvm n) s:=fun _ _=>rfl
def ZrU (t20:Bool) (a:Zoq) (b:Zoq):Option Bool:=
 bif t20 then (
  some false
 )else (
  (ZrT big a.Words (a.Words.length:Int) (0:Int) b).bind fun
   | .ret q_=>some q_
   | .brk ()=>ZtC
 )
def Zrl (a:Zoq) (b:Zoq):Option Bool:=
 bif (!(a.Neg == b.Neg))then (
  ZrU true a b
 )else (
  ZrU ((a.Words.length:Int) != (b.Words.length:Int)) a b
 )
def ZsK (t4:Bool):Option Bool:=
 some t4
def Zpk (a:Zor) (b:Zor):Option Bool:=
 (Zrl a.Num b.Num).bind fun q=>
 bif q then (
  (Zrl a.Den b.Den).bind fun q_1=>
  ZsK q_1
 )else (
  ZsK false
 )
def Zvo:Option Bool:=
 (Zro).bind fun q=>
 some q
def Zpr (rec_:Tf_2) (t166:Zop) (t167:Int) (i:Int) (t199:Bool) (a:Zos) (in_:(List (Int×Bool))):Zy0:=
 bif t199 then (
  some (.ret false)
 )else (
  chk (inK .i64 (i+1)) <|
  rec_ t166 t167 (i+1) a in_
 )
def ZqQ (rec_:Tf_2) (t166:Zop) (t167:Int) (i:Int) (a:Zos) (in_:(List (Int×Bool))):Zy0:=
 bif (decide (i < t167))then (
  (idx t166 i).bind fun s=>
  bif (decide ((a.Hits.length:Int) > 0))then (
   bif (!((Zhr (k:=(.int .i64)) (v:= .bool) (car:=Zww) in_ i).getD false))then (
    chk (inK .i64 ((a.Hits.length:Int) - 1)) <|
    (idx a.Hits ((a.Hits.length:Int) - 1)).bind fun Hit=>
    chk (decide ((6:Int)≠0)) <|
    chk (inK .i64 (1+(IntKind.wrap .i64 (Int.tmod s 6)))) <|
    (Zpc (1+(IntKind.wrap .i64 (Int.tmod s 6)))).bind fun q=>
    (Zrb Hit.Score q).bind fun q_1=>
    Zpr rec_ t166 t167 i q_1 a in_
   )else (
    Zpr rec_ t166 t167 i false a in_
   )
  )else (
   Zpr rec_ t166 t167 i false a in_
  )
 )else (
  some (.brk ())
 )
def Zpo:Nat→Zop→Int→Int→Zos→(List (Int×Bool))→Zy0
 |0,_,_,_,_,_=>none
 |n_+1,t166,t167,i,a,in_=>ZqQ (Zpo n_) t166 t167 i a in_
def ZuI (n:Nat) (s:(Zop×Int×Int×Zos×(List (Int×Bool)))):Zy0:=Zpo n s.1 s.2.1 s.2.2.1 s.2.2.2.1 s.2.2.2.2
def Zsl (rec_:(Zop×Int×Int×Zos×(List (Int×Bool)))→Zy0) (s:(Zop×Int×Int×Zos×(List (Int×Bool)))):Zy0:=ZqQ (fun t166 t167 i a in_=>rec_ (t166,t167,i,a,in_)) s.1 s.2.1 s.2.2.1 s.2.2.2.1 s.2.2.2.2
theorem Zxf:∀n s,ZuI (n+1) s=Zsl (ZuI n) s:=fun _ _=>rfl
def ZsZ (scores:Zop) (a:Zos) (in_:(List (Int×Bool))):Option Bool:=
 (Zpo big scores (scores.length:Int) (0:Int) a in_).bind fun
  | .ret q_=>some q_
  | .brk ()=>Zvo
def ZoN (rec_:Tf_1) (scores:Zop) (t98:ZoA) (t99:Int) (i:Int) (t160:Bool) (a:Zos) (in_:(List (Int×Bool))) (h_:ZoL):ZEF:=
 bif t160 then (
  some (.ret false)
 )else (
  chk (inK .i64 (i+1)) <|
  rec_ scores t98 t99 (i+1) a (setB (k:=(.int .i64)) (v:= .bool) (car:=Zww) in_ h_.Ref.Table true)
 )
def ZqR (rec_:Tf_1) (scores:Zop) (t98:ZoA) (t99:Int) (i:Int) (a:Zos) (in_:(List (Int×Bool))):ZEF:=
 bif (decide (i < t99))then (
  (idx t98 i).bind fun h_=>
  bif (decide (i > 0))then (
   chk (inK .i64 (i - 1)) <|
   (idx a.Hits (i - 1)).bind fun Hit=>
   (Zrb Hit.Score h_.Score).bind fun q=>
   bif q then (
    ZoN rec_ scores t98 t99 i true a in_ h_
   )else (
    chk (inK .i64 (i - 1)) <|
    (idx a.Hits (i - 1)).bind fun Hit_1=>
    (Zpk Hit_1.Score h_.Score).bind fun q_1=>
    bif q_1 then (
     chk (inK .i64 (i - 1)) <|
     (idx a.Hits (i - 1)).bind fun Hit_2=>
     bif (decide (Hit_2.Ref.Table≥h_.Ref.Table))then (
      ZoN rec_ scores t98 t99 i true a in_ h_
     )else (
      (idx scores h_.Ref.Table).bind fun score=>
      chk (decide ((6:Int)≠0)) <|
      chk (inK .i64 (1+(IntKind.wrap .i64 (Int.tmod score 6)))) <|
      (Zpc (1+(IntKind.wrap .i64 (Int.tmod score 6)))).bind fun q_2=>
      (Zpk h_.Score q_2).bind fun q_3=>
      ZoN rec_ scores t98 t99 i (!q_3) a in_ h_
     )
    )else (
     (idx scores h_.Ref.Table).bind fun score_1=>
     chk (decide ((6:Int)≠0)) <|
     chk (inK .i64 (1+(IntKind.wrap .i64 (Int.tmod score_1 6)))) <|
     (Zpc (1+(IntKind.wrap .i64 (Int.tmod score_1 6)))).bind fun q_4=>
     (Zpk h_.Score q_4).bind fun q_5=>
     ZoN rec_ scores t98 t99 i (!q_5) a in_ h_
    )
   )
  )else (
   (idx scores h_.Ref.Table).bind fun score_2=>
   chk (decide ((6:Int)≠0)) <|
   chk (inK .i64 (1+(IntKind.wrap .i64 (Int.tmod score_2 6)))) <|
   (Zpc (1+(IntKind.wrap .i64 (Int.tmod score_2 6)))).bind fun q_6=>
   (Zpk h_.Score q_6).bind fun q_7=>
   ZoN rec_ scores t98 t99 i (!q_7) a in_ h_
  )
 )else (
  some (.brk (scores,a,in_))
 )
def Zpp:Nat→Zop→ZoA→Int→Int→Zos→(List (Int×Bool))→ZEF
 |0,_,_,_,_,_,_=>none
 |n_+1,scores,t98,t99,i,a,in_=>ZqR (Zpp n_) scores t98 t99 i a in_
def ZuJ (n:Nat) (s:(Zop×ZoA×Int×Int×Zos×(List (Int×Bool)))):ZEF:=Zpp n s.1 s.2.1 s.2.2.1 s.2.2.2.1 s.2.2.2.2.1 s.2.2.2.2.2
def Zsm (rec_:(Zop×ZoA×Int×Int×Zos×(List (Int×Bool)))→ZEF) (s:(Zop×ZoA×Int×Int×Zos×(List (Int×Bool)))):ZEF:=ZqR (fun scores t98 t99 i a in_=>rec_ (scores,t98,t99,i,a,in_)) s.1 s.2.1 s.2.2.1 s.2.2.2.1 s.2.2.2.2.1 s.2.2.2.2.2
theorem Zxg:∀n s,ZuJ (n+1) s=Zsm (ZuJ n) s:=fun _ _=>rfl
def Zrc (scores:Zop) (t95:Bool) (a:Zos):Option Bool:=
 bif t95 then (
  some false
 )else (
  (Zpp big scores a.Hits (a.Hits.length:Int) (0:Int) a ([]:(List (Int×Bool)))).bind fun
   | .ret q_=>some q_
   | .brk (x0,x1,x2)=>ZsZ x0 x1 x2
 )
def Zs0 (scores:Zop) (k:Int) (parts:ZA7) (parts_lo:Nat):Option Bool:=
 (Zvf k 70).bind fun n=>
 (Zxz (Zpl.mk 0 0 0 n (Zr3.mk 0 ([]:Str) ([]:(List ZqJ)))) parts).bind fun(a,e)=>
 bif (e != 0)then (
  Zrc scores true a
 )else (
  Zrc scores ((a.Hits.length:Int) != (if (scores.length:Int) < n then (scores.length:Int)else n)) a
 )
def Zqd (rec_:Tf_3) (scores:Zop) (cuts:Zop) (k:Int) (i:Int) (s:Int) (p:Int) (t32:Zop) (t33:Int) (i_1:Int) (parts:ZA7) (parts_lo:Nat):ZBE:=
 chk (inR p (parts.length:Int)) <|
 (parts[(p).toNat]?).bind fun part=>
 chk (decide ((p).toNat < parts_lo)) <|
 chk (decide ((6:Int)≠0)) <|
 chk (inK .i64 (1+(IntKind.wrap .i64 (Int.tmod s 6)))) <|
 (Zpc (1+(IntKind.wrap .i64 (Int.tmod s 6)))).bind fun q=>
 chk (Zjq (part.Hits.length+([(ZoL.mk (Zov.mk i 0) q)]:ZoA).length) 80) <|
 chk (inR p (parts.length:Int)) <|
 chk (decide ((p).toNat=(p).toNat∧(p).toNat < parts_lo)) <|
 (parts[(p).toNat]?).bind fun el=>
 chk (inK .i64 (i_1+1)) <|
 rec_ scores cuts k t32 t33 (i_1+1) (parts.set ((p).toNat) (Zos.mk (part.Hits++([(ZoL.mk (Zov.mk i 0) q)]:ZoA)) el.Matches el.Correlated el.Routes el.Found)) parts_lo
def ZqS (rec_:Tf_3) (scores:Zop) (cuts:Zop) (k:Int) (t32:Zop) (t33:Int) (i:Int) (parts:ZA7) (parts_lo:Nat):ZBE:=
 bif (decide (i < t33))then (
  (idx t32 i).bind fun s=>
  bif (decide ((cuts.length:Int) > 0))then (
   chk (decide ((cuts.length:Int)≠0)) <|
   (idx cuts (Int.tmod i (cuts.length:Int))).bind fun cut_=>
   chk (inK .i64 (i+(IntKind.wrap .i64 cut_))) <|
   chk (decide ((parts.length:Int)≠0)) <|
   Zqd rec_ scores cuts k i s (Int.tmod (i+(IntKind.wrap .i64 cut_)) (parts.length:Int)) t32 t33 i parts parts_lo
  )else (
   Zqd rec_ scores cuts k i s (0:Int) t32 t33 i parts parts_lo
  )
 )else (
  some (scores,k,parts,parts_lo)
 )
def Zpq:Nat→Zop→Zop→Int→Zop→Int→Int→ZA7→Nat→ZBE
 |0,_,_,_,_,_,_,_,_=>none
 |n_+1,scores,cuts,k,t32,t33,i,parts,parts_lo=>ZqS (Zpq n_) scores cuts k t32 t33 i parts parts_lo
def ZuK (n:Nat) (s:(Zop×Zop×Int×Zop×Int×Int×ZA7×Nat)):ZBE:=Zpq n s.1 s.2.1 s.2.2.1 s.2.2.2.1 s.2.2.2.2.1 s.2.2.2.2.2.1 s.2.2.2.2.2.2.1 s.2.2.2.2.2.2.2
def Zsn (rec_:(Zop×Zop×Int×Zop×Int×Int×ZA7×Nat)→ZBE) (s:(Zop×Zop×Int×Zop×Int×Int×ZA7×Nat)):ZBE:=ZqS (fun scores cuts k t32 t33 i parts parts_lo=>rec_ (scores,cuts,k,t32,t33,i,parts,parts_lo)) s.1 s.2.1 s.2.2.1 s.2.2.2.1 s.2.2.2.2.1 s.2.2.2.2.2.1 s.2.2.2.2.2.2.1 s.2.2.2.2.2.2.2
theorem Zxh:∀n s,ZuK (n+1) s=Zsn (ZuK n) s:=fun _ _=>rfl
def Zps (scores:Zop) (cuts:Zop) (k:Int) (t26:Bool):Option Bool:=
 bif t26 then (
  (Zro).bind fun q=>
  some q
 )else (
  chk (inK .i64 ((cuts.length:Int)+1)) <|
  chk (mkOk ((cuts.length:Int)+1) ((cuts.length:Int)+1) 120) <|
  (Zpq big scores cuts k scores (scores.length:Int) (0:Int) (List.replicate (((cuts.length:Int)+1)).toNat (Zos.mk ([]:ZoA) ([]:ZvQ) ([]:ZvP) ([]:ZyB) ([]:ZyA))) ((((cuts.length:Int)+1)).toNat)).bind fun(x0,x1,x2,x3)=>Zs0 x0 x1 x2 x3
 )
def Zsc (scores:Zop) (cuts:Zop) (k:Int):Option Bool:=
 bif (decide ((scores.length:Int) > 60))then (
  Zps scores cuts k true
 )else (
  Zps scores cuts k (decide ((cuts.length:Int) > 8))
 )
end
end Go.Proofs
