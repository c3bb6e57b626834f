/- Printed by wip/tools/tgen.py: specs. -/
import Derived.Test.YtbjnddlpdlfknaaGreatDoorE4
import Derived.Lib.Bytealg
import Derived.Lib.ItoaNum
import Derived.Lib.SlTrimSet
import Derived.Shelf.Strconv.Itoa3
set_option linter.unusedVariables false
set_option linter.unusedSimpArgs false
set_option linter.unusedSectionVars false
namespace Go.Proofs
open Go Eng
set_option maxRecDepth 100000
noncomputable section
structure ZnE where
 Null:Bool
 Text:Str
 deriving DecidableEq,Inhabited
structure ZnL where
 Name:Str
 Cells:(List ZnE)
 deriving DecidableEq,Inhabited
structure ZnI where
 Neg:Bool
 Words:(List Int)
 deriving DecidableEq,Inhabited
structure ZnB where
 Num:ZnI
 Den:ZnI
 deriving DecidableEq,Inhabited
structure ZnA where
 Key:Str
 Hash:Int
 Count:Int
 Sum:ZnB
 deriving DecidableEq,Inhabited
structure ZnF where
 K:Int
 All:Bool
 Entries:(List ZnA)
 deriving DecidableEq,Inhabited
structure ZoC where
 word:Str
 canonical:(Option Nat)
 value:(Option Nat)
 deriving DecidableEq,Inhabited
structure ZnD where
 l:(List Int)
 at_:Int
 deriving DecidableEq,Inhabited
structure ZnG where
 e0:ZnB
 e1:ZnB
 deriving DecidableEq,Inhabited
structure ZrU where
 K:Int
 All:Bool
 Entries:(List ZnA)
 deriving DecidableEq,Inhabited
def ZtY:Nat→Type
 |0=>ZnE
 |1=>ZnL
 |2=>ZnI
 |3=>ZnB
 |4=>ZnA
 |5=>ZnF
 |6=>ZoC
 |7=>ZnD
 |8=>ZnG
 |9=>ZrU
 |_=>Unit
def ZDf:Nat→Nat
 |0=>2
 |1=>2
 |2=>2
 |3=>4
 |4=>7
 |5=>3
 |6=>3
 |7=>2
 |8=>8
 |9=>3
 |_=>0
def ZwA:List (Lf ZtY):=[⟨.sl (.int .u32),([1]:List Int)⟩]
def ZtJ:List (Lf ZtY):=(Lib.pow10Tab.map fun n=>⟨.int .u64,n⟩)
def Zrj (t:(List Int)):Option Bool:=
 some (decide ((t.length:Int)≤500))
def ZsV (w_:(List Int)):Option (List Int):=
 some w_
def ZrA (rec_:(List Int)→Option (List Int)) (w_:(List Int)) (t14:Bool):Option (List Int):=
 bif t14 then (
  chk (inK .i64 ((w_.length:Int) - 1)) <|
  chk (Zb9 0 ((w_.length:Int) - 1) (w_.length:Int)) <|
  rec_ (w_.take (((w_.length:Int) - 1)).toNat)
 )else (
  some w_
 )
def ZqY (rec_:(List Int)→Option (List Int)) (w_:(List Int)):Option (List Int):=
 bif (decide ((w_.length:Int) > 0))then (
  chk (inK .i64 ((w_.length:Int) - 1)) <|
  (idx w_ ((w_.length:Int) - 1)).bind fun w__e=>
  ZrA rec_ w_ (w__e == 0)
 )else (
  ZrA rec_ w_ false
 )
def ZoH:Nat→(List Int)→Option (List Int)
 |0,_=>none
 |n_+1,w_=>ZqY (ZoH n_) w_
def ZtS (n:Nat) (s:(List Int)):Option (List Int):=ZoH n s
def ZtT (rec_:(List Int)→Option (List Int)) (s:(List Int)):Option (List Int):=ZqY (fun w_=>rec_ w_) s
theorem Zvi:∀n s,ZtS (n+1) s=ZtT (ZtS n) s:=fun _ _=>rfl
def Zn5 (w_:(List Int)):Option (List Int):=
 (ZoH big w_).bind fun x0=>ZsV x0
def Zp5 (n:Int):Option (List Int):=
 chk (decide (0≤(32:Int))) <|
 (Zn5 ([(IntKind.wrap .u32 n),(IntKind.wrap .u32 (shrK .u64 n 32))]:(List Int))).bind fun q=>
 some q
def ZrZ (t4:Bool) (t4_1:(List Int)):Option ZnI:=
 some (ZnI.mk t4 t4_1)
def Zod (neg:Bool) (w_:(List Int)):Option ZnI:=
 bif neg then (
  chk (ZiZ w_.length 4) <|
  ZrZ (decide ((w_.length:Int) > 0)) w_
 )else (
  chk (ZiZ w_.length 4) <|
  ZrZ false w_
 )
def ZqJ (n:Int):Option ZnI:=
 bif (decide (n < 0))then (
  (Zp5 (IntKind.wrap .u64 (0 - (IntKind.wrap .u64 n)))).bind fun q=>
  (Zod true q).bind fun q_1=>
  some q_1
 )else (
  (Zp5 (IntKind.wrap .u64 n)).bind fun q_2=>
  (Zod false q_2).bind fun q_3=>
  some q_3
 )
def ZoB (t2:Bool):Option Bool:=
 some t2
def Zqs (a:ZnI):Option Bool:=
 bif (decide ((a.Words.length:Int)≤256))then (
  bif ((a.Words.length:Int) == 0)then (
   bif (!a.Neg)then (
    ZoB true
   )else (
    bif (decide ((a.Words.length:Int) > 0))then (
     chk (inK .i64 ((a.Words.length:Int) - 1)) <|
     (idx a.Words ((a.Words.length:Int) - 1)).bind fun Word=>
     ZoB (Word != 0)
    )else (
     ZoB false
    )
   )
  )else (
   bif (decide ((a.Words.length:Int) > 0))then (
    chk (inK .i64 ((a.Words.length:Int) - 1)) <|
    (idx a.Words ((a.Words.length:Int) - 1)).bind fun Word_1=>
    ZoB (Word_1 != 0)
   )else (
    ZoB false
   )
  )
 )else (
  ZoB false
 )
def Zu9:Option Bool:=
 some true
def Zr1 (rec_:(List ZnI)→Int→Int→Option (Out Unit Bool)) (t5:(List ZnI)) (t6:Int) (t7:Int):Option (Out Unit Bool):=
 bif (decide (t7 < t6))then (
  (idx t5 t7).bind fun a=>
  (Zqs a).bind fun q=>
  bif (!q)then (
   some (.ret false)
  )else (
   chk (inK .i64 (t7+1)) <|
   rec_ t5 t6 (t7+1)
  )
 )else (
  some (.brk ())
 )
def ZsH:Nat→(List ZnI)→Int→Int→Option (Out Unit Bool)
 |0,_,_,_=>none
 |n_+1,t5,t6,t7=>Zr1 (ZsH n_) t5 t6 t7
def Zux (n:Nat) (s:((List ZnI)×Int×Int)):Option (Out Unit Bool):=ZsH n s.1 s.2.1 s.2.2
def Ztp (rec_:((List ZnI)×Int×Int)→Option (Out Unit Bool)) (s:((List ZnI)×Int×Int)):Option (Out Unit Bool):=Zr1 (fun t5 t6 t7=>rec_ (t5,t6,t7)) s.1 s.2.1 s.2.2
theorem ZvM:∀n s,Zux (n+1) s=Ztp (Zux n) s:=fun _ _=>rfl
def Zsb (l:(List ZnI)):Option Bool:=
 (ZsH big l (l.length:Int) (0:Int)).bind fun
  | .ret q_=>some q_
  | .brk ()=>Zu9
def Zs3 (x_:Int):Option Bool:=
 some (x_ != x_)
def Zsc (x_:Int) (y:Int):Option Int:=
 (Zs3 x_).bind fun xNaN=>
 (Zs3 y).bind fun yNaN=>
 bif xNaN then (
  bif yNaN then (
   some (0:Int)
  )else (
   some (-1:Int)
  )
 )else (
  bif yNaN then (
   some (1:Int)
  )else (
   bif (decide (x_ < y))then (
    some (-1:Int)
   )else (
    bif (decide (x_ > y))then (
     some (1:Int)
    )else (
     some (0:Int)
    )
   )
  )
 )
def ZsI (x_:Int):Option Bool:=
 some (x_ != x_)
def Zr3 (x_:Int) (y:Int):Option Int:=
 (ZsI x_).bind fun xNaN=>
 (ZsI y).bind fun yNaN=>
 bif xNaN then (
  bif yNaN then (
   some (0:Int)
  )else (
   some (-1:Int)
  )
 )else (
  bif yNaN then (
   some (1:Int)
  )else (
   bif (decide (x_ < y))then (
    some (-1:Int)
   )else (
    bif (decide (x_ > y))then (
     some (1:Int)
    )else (
     some (0:Int)
    )
   )
  )
 )
def Zrg:Option Int:=
 some (0:Int)
def ZpD (rec_:(List Int)→(List Int)→Int→Option (Out Unit Int)) (w_:(List Int)) (v_:(List Int)) (i:Int):Option (Out Unit Int):=
 bif (decide (i≥0))then (
  (idx w_ i).bind fun w__e=>
  (idx v_ i).bind fun v__e=>
  (Zr3 w__e v__e).bind fun c=>
  bif (c != 0)then (
   some (.ret c)
  )else (
   chk (inK .i64 (i - 1)) <|
   rec_ w_ v_ (i - 1)
  )
 )else (
  some (.brk ())
 )
def Zp2:Nat→(List Int)→(List Int)→Int→Option (Out Unit Int)
 |0,_,_,_=>none
 |n_+1,w_,v_,i=>ZpD (Zp2 n_) w_ v_ i
def Zss (n:Nat) (s:((List Int)×(List Int)×Int)):Option (Out Unit Int):=Zp2 n s.1 s.2.1 s.2.2
def ZqR (rec_:((List Int)×(List Int)×Int)→Option (Out Unit Int)) (s:((List Int)×(List Int)×Int)):Option (Out Unit Int):=ZpD (fun w_ v_ i=>rec_ (w_,v_,i)) s.1 s.2.1 s.2.2
theorem Zuf:∀n s,Zss (n+1) s=ZqR (Zss n) s:=fun _ _=>rfl
def Zoo (w_:(List Int)) (v_:(List Int)):Option Int:=
 (Zsc (w_.length:Int) (v_.length:Int)).bind fun c=>
 bif (c != 0)then (
  some c
 )else (
  chk (inK .i64 ((w_.length:Int) - 1)) <|
  (Zp2 big w_ v_ ((w_.length:Int) - 1)).bind fun
   | .ret q_=>some q_
   | .brk ()=>Zrg
 )
def ZnM (s:(List Int)) (t4:Bool):Option (List Int):=
 bif t4 then (
  some ([]:(List Int))
 )else (
  chk (ZiZ (([]:(List Int)).length+s.length) 4) <|
  some (([]:(List Int))++s)
 )
def Zok (s:(List Int)):Option (List Int):=
 bif (List.isEmpty s)then agree (
  ZnM s true
 ) (
  ZnM s false
 )else (
  ZnM s false
 )
def ZqS (hi:Int) (lo:Int) (y:Int) (t15:Bool):Option (Int×Int):=
 bif t15 then (
  none
 )else (
  chk (decide (0≤(32:Int))) <|
  chk (decide ((IntKind.wrap .u64 y)≠0)) <|
  chk (decide ((IntKind.wrap .u64 y)≠0)) <|
  some ((IntKind.wrap .u32 (IntKind.wrap .u64 (Int.tdiv (orK .u64 (shlK .u64 (IntKind.wrap .u64 hi) 32) (IntKind.wrap .u64 lo)) (IntKind.wrap .u64 y)))),(IntKind.wrap .u32 (Int.tmod (orK .u64 (shlK .u64 (IntKind.wrap .u64 hi) 32) (IntKind.wrap .u64 lo)) (IntKind.wrap .u64 y))))
 )
def Zr7 (hi:Int) (lo:Int) (y:Int):Option (Int×Int):=
 bif (y != 0)then (
  ZqS hi lo y (decide (y≤hi))
 )else (
  ZqS hi lo y false
 )
def ZrR (rest:Int) (out:(List Int)):Option ((List Int)×Int):=
 (Zn5 out).bind fun q=>
 some (q,rest)
def ZpZ (rec_:(List Int)→Int→Int→Int→(List Int)→Option (Int×(List Int))) (w_:(List Int)) (d:Int) (rest:Int) (i:Int) (out:(List Int)):Option (Int×(List Int)):=
 bif (decide (i≥0))then (
  (idx w_ i).bind fun w__e=>
  (Zr7 rest w__e d).bind fun(q,rest_1)=>
  chk (inR i (out.length:Int)) <|
  chk (inK .i64 (i - 1)) <|
  rec_ w_ d rest_1 (i - 1) (out.set ((i).toNat) q)
 )else (
  some (rest,out)
 )
def ZqA:Nat→(List Int)→Int→Int→Int→(List Int)→Option (Int×(List Int))
 |0,_,_,_,_,_=>none
 |n_+1,w_,d,rest,i,out=>ZpZ (ZqA n_) w_ d rest i out
def ZsS (n:Nat) (s:((List Int)×Int×Int×Int×(List Int))):Option (Int×(List Int)):=ZqA n s.1 s.2.1 s.2.2.1 s.2.2.2.1 s.2.2.2.2
def Zrd (rec_:((List Int)×Int×Int×Int×(List Int))→Option (Int×(List Int))) (s:((List Int)×Int×Int×Int×(List Int))):Option (Int×(List Int)):=ZpZ (fun w_ d rest i out=>rec_ (w_,d,rest,i,out)) s.1 s.2.1 s.2.2.1 s.2.2.2.1 s.2.2.2.2
theorem ZuL:∀n s,ZsS (n+1) s=Zrd (ZsS n) s:=fun _ _=>rfl
def Zqk (w_:(List Int)) (d:Int):Option ((List Int)×Int):=
 chk (mkOk (w_.length:Int) (w_.length:Int) 4) <|
 chk (inK .i64 ((w_.length:Int) - 1)) <|
 (ZqA big w_ d (0:Int) ((w_.length:Int) - 1) (List.replicate ((w_.length:Int)).toNat (0:Int))).bind fun(x0,x1)=>ZrR x0 x1
def Zp6 (x_:Int) (n:Int):Option Int:=
 (idx ([0,1,2,2,3,3,3,3,4,4,4,4,4,4,4,4,5,5,5,5,5,5,5,5,5,5,5,5,5,5,5,5,6,6,6,6,6,6,6,6,6,6,6,6,6,6,6,6,6,6,6,6,6,6,6,6,6,6,6,6,6,6,6,6,7,7,7,7,7,7,7,7,7,7,7,7,7,7,7,7,7,7,7,7,7,7,7,7,7,7,7,7,7,7,7,7,7,7,7,7,7,7,7,7,7,7,7,7,7,7,7,7,7,7,7,7,7,7,7,7,7,7,7,7,7,7,7,7,8,8,8,8,8,8,8,8,8,8,8,8,8,8,8,8,8,8,8,8,8,8,8,8,8,8,8,8,8,8,8,8,8,8,8,8,8,8,8,8,8,8,8,8,8,8,8,8,8,8,8,8,8,8,8,8,8,8,8,8,8,8,8,8,8,8,8,8,8,8,8,8,8,8,8,8,8,8,8,8,8,8,8,8,8,8,8,8,8,8,8,8,8,8,8,8,8,8,8,8,8,8,8,8,8,8,8,8,8,8,8,8,8,8,8,8,8,8,8,8,8,8,8,8,8,8,8,8]:Str) (IntKind.wrap .u8 x_)).bind fun c=>
 chk (inK .i64 (n+(IntKind.wrap .i64 ((c.toNat:Nat):Int)))) <|
 some (n+(IntKind.wrap .i64 ((c.toNat:Nat):Int)))
def ZrX (x_:Int) (n:Int):Option Int:=
 bif (decide (x_≥256))then (
  chk (decide (0≤(8:Int))) <|
  chk (inK .i64 (n+8)) <|
  Zp6 (shrK .u32 x_ 8) (n+8)
 )else (
  Zp6 x_ n
 )
def Zr6 (x_:Int):Option Int:=
 bif (decide (x_≥65536))then (
  chk (decide (0≤(16:Int))) <|
  ZrX (shrK .u32 x_ 16) (16:Int)
 )else (
  ZrX x_ (0:Int)
 )
def Zpi (x_:Int):Option Int:=
 (Zr6 x_).bind fun q=>
 chk (inK .i64 (32 - q)) <|
 some (32 - q)
def Zre (out:(List Int)):Option (List Int):=
 some out
def ZpC (rec_:Int→(List Int)→Int→Int→(List Int)→Option (List Int)) (n:Int) (t13:(List Int)) (t14:Int) (i:Int) (out:(List Int)):Option (List Int):=
 bif (decide (i < t14))then (
  (idx t13 i).bind fun d=>
  chk (decide (0≤n)) <|
  chk (inR i (out.length:Int)) <|
  (out[(i).toNat]?).bind fun out_e=>
  chk (inR i (out.length:Int)) <|
  chk (inK .i64 (i+1)) <|
  chk (decide (0≤(32:Int))) <|
  chk (inR (i+1) ((out.set ((i).toNat) (orK .u32 out_e (IntKind.wrap .u32 (shlK .u64 (IntKind.wrap .u64 d) n)))).length:Int)) <|
  chk (inK .i64 (i+1)) <|
  rec_ n t13 t14 (i+1) ((out.set ((i).toNat) (orK .u32 out_e (IntKind.wrap .u32 (shlK .u64 (IntKind.wrap .u64 d) n)))).set (((i+1)).toNat) (IntKind.wrap .u32 (shrK .u64 (shlK .u64 (IntKind.wrap .u64 d) n) 32)))
 )else (
  some out
 )
def Zp0:Nat→Int→(List Int)→Int→Int→(List Int)→Option (List Int)
 |0,_,_,_,_,_=>none
 |n_+1,n,t13,t14,i,out=>ZpC (Zp0 n_) n t13 t14 i out
def Zsr (n:Nat) (s:(Int×(List Int)×Int×Int×(List Int))):Option (List Int):=Zp0 n s.1 s.2.1 s.2.2.1 s.2.2.2.1 s.2.2.2.2
def ZqQ (rec_:(Int×(List Int)×Int×Int×(List Int))→Option (List Int)) (s:(Int×(List Int)×Int×Int×(List Int))):Option (List Int):=ZpC (fun n t13 t14 i out=>rec_ (n,t13,t14,i,out)) s.1 s.2.1 s.2.2.1 s.2.2.2.1 s.2.2.2.2
theorem Zue:∀n s,Zsr (n+1) s=ZqQ (Zsr n) s:=fun _ _=>rfl
def ZoF (w_:(List Int)) (n:Int):Option (List Int):=
 chk (inK .i64 ((w_.length:Int)+1)) <|
 chk (mkOk ((w_.length:Int)+1) ((w_.length:Int)+1) 4) <|
 (Zp0 big n w_ (w_.length:Int) (0:Int) (List.replicate (((w_.length:Int)+1)).toNat (0:Int))).bind fun x0=>Zre x0
def Zqo (x_:Int) (y:Int) (borrow:Int):Option (Int×Int):=
 chk (decide (0≤(31:Int))) <|
 some ((IntKind.wrap .u32 ((IntKind.wrap .u32 (x_ - y)) - borrow)),(shrK .u32 (orK .u32 (andK .u32 (xorK .u32 (if IntKind.signed .u32 then -1 else IntKind.max .u32) x_) y) (andK .u32 (xorK .u32 (if IntKind.signed .u32 then -1 else IntKind.max .u32) (xorK .u32 x_ y)) (IntKind.wrap .u32 ((IntKind.wrap .u32 (x_ - y)) - borrow)))) 31))
def Zq2 (x_:Int) (y:Int) (carry:Int):Option (Int×Int):=
 chk (decide (0≤(32:Int))) <|
 some ((IntKind.wrap .u32 (IntKind.wrap .u64 ((IntKind.wrap .u64 ((IntKind.wrap .u64 x_)+(IntKind.wrap .u64 y)))+(IntKind.wrap .u64 carry)))),(IntKind.wrap .u32 (shrK .u64 (IntKind.wrap .u64 ((IntKind.wrap .u64 ((IntKind.wrap .u64 x_)+(IntKind.wrap .u64 y)))+(IntKind.wrap .u64 carry))) 32)))
def Zsk (u_off:Nat) (u_len:Nat) (n:Int) (guess:Int) (add:Int) (u:(List Int)):Option (Int×(List Int)):=
 chk (inR n (u_len:Int)) <|
 (u[(u_off+(n).toNat)]?).bind fun u_e=>
 chk (inR n (u_len:Int)) <|
 some ((IntKind.wrap .u32 (IntKind.wrap .u64 (guess - 1))),(u.set (u_off+(n).toNat) (IntKind.wrap .u32 (u_e+add))))
def ZrB (rec_:Nat→Nat→Int→Int→Int→(List Int)→Int→Int→(List Int)→Option (Nat×Nat×Int×Int×Int×(List Int))) (u_off:Nat) (u_len:Nat) (n:Int) (guess:Int) (add:Int) (t130:(List Int)) (t131:Int) (i:Int) (u:(List Int)):Option (Nat×Nat×Int×Int×Int×(List Int)):=
 bif (decide (i < t131))then (
  (idx t130 i).bind fun x_=>
  chk (inR i (u_len:Int)) <|
  (u[(u_off+(i).toNat)]?).bind fun u_e=>
  (Zq2 u_e x_ add).bind fun(q,add_1)=>
  chk (inR i (u_len:Int)) <|
  chk (inK .i64 (i+1)) <|
  rec_ u_off u_len n guess add_1 t130 t131 (i+1) (u.set (u_off+(i).toNat) q)
 )else (
  some (u_off,u_len,n,guess,add,u)
 )
def Zrh:Nat→Nat→Nat→Int→Int→Int→(List Int)→Int→Int→(List Int)→Option (Nat×Nat×Int×Int×Int×(List Int))
 |0,_,_,_,_,_,_,_,_,_=>none
 |n_+1,u_off,u_len,n,guess,add,t130,t131,i,u=>ZrB (Zrh n_) u_off u_len n guess add t130 t131 i u
def Zug (n:Nat) (s:(Nat×Nat×Int×Int×Int×(List Int)×Int×Int×(List Int))):Option (Nat×Nat×Int×Int×Int×(List Int)):=Zrh n s.1 s.2.1 s.2.2.1 s.2.2.2.1 s.2.2.2.2.1 s.2.2.2.2.2.1 s.2.2.2.2.2.2.1 s.2.2.2.2.2.2.2.1 s.2.2.2.2.2.2.2.2
def ZsW (rec_:(Nat×Nat×Int×Int×Int×(List Int)×Int×Int×(List Int))→Option (Nat×Nat×Int×Int×Int×(List Int))) (s:(Nat×Nat×Int×Int×Int×(List Int)×Int×Int×(List Int))):Option (Nat×Nat×Int×Int×Int×(List Int)):=ZrB (fun u_off u_len n guess add t130 t131 i u=>rec_ (u_off,u_len,n,guess,add,t130,t131,i,u)) s.1 s.2.1 s.2.2.1 s.2.2.2.1 s.2.2.2.2.1 s.2.2.2.2.2.1 s.2.2.2.2.2.2.1 s.2.2.2.2.2.2.2.1 s.2.2.2.2.2.2.2.2
theorem ZvD:∀n s,Zug (n+1) s=ZsW (Zug n) s:=fun _ _=>rfl
def ZtH (u_off:Nat) (u_len:Nat) (d:(List Int)) (n:Int) (guess:Int) (borrow:Int) (carry:Int) (u:(List Int)):Option (Int×(List Int)):=
 chk (inR n (u_len:Int)) <|
 (u[(u_off+(n).toNat)]?).bind fun u_e=>
 (Zqo u_e (IntKind.wrap .u32 carry) borrow).bind fun(q,borrow_1)=>
 chk (inR n (u_len:Int)) <|
 bif (borrow_1 == 0)then (
  some ((IntKind.wrap .u32 guess),(u.set (u_off+(n).toNat) q))
 )else (
  (Zrh big u_off u_len n guess (0:Int) d (d.length:Int) (0:Int) (u.set (u_off+(n).toNat) q)).bind fun(x0,x1,x2,x3,x4,x5)=>Zsk x0 x1 x2 x3 x4 x5
 )
def ZrC (rec_:Nat→Nat→(List Int)→Int→Int→Int→Int→(List Int)→Int→Int→(List Int)→Option (Nat×Nat×(List Int)×Int×Int×Int×Int×(List Int))) (u_off:Nat) (u_len:Nat) (d:(List Int)) (n:Int) (guess:Int) (borrow:Int) (carry:Int) (t82:(List Int)) (t83:Int) (i:Int) (u:(List Int)):Option (Nat×Nat×(List Int)×Int×Int×Int×Int×(List Int)):=
 bif (decide (i < t83))then (
  (idx t82 i).bind fun x_=>
  chk (inR i (u_len:Int)) <|
  (u[(u_off+(i).toNat)]?).bind fun u_e=>
  (Zqo u_e (IntKind.wrap .u32 (IntKind.wrap .u64 (carry+(IntKind.wrap .u64 (guess*(IntKind.wrap .u64 x_)))))) borrow).bind fun(q,borrow_1)=>
  chk (inR i (u_len:Int)) <|
  chk (decide (0≤(32:Int))) <|
  chk (inK .i64 (i+1)) <|
  rec_ u_off u_len d n guess borrow_1 (shrK .u64 (IntKind.wrap .u64 (carry+(IntKind.wrap .u64 (guess*(IntKind.wrap .u64 x_))))) 32) t82 t83 (i+1) (u.set (u_off+(i).toNat) q)
 )else (
  some (u_off,u_len,d,n,guess,borrow,carry,u)
 )
def Zsj:Nat→Nat→Nat→(List Int)→Int→Int→Int→Int→(List Int)→Int→Int→(List Int)→Option (Nat×Nat×(List Int)×Int×Int×Int×Int×(List Int))
 |0,_,_,_,_,_,_,_,_,_,_,_=>none
 |n_+1,u_off,u_len,d,n,guess,borrow,carry,t82,t83,i,u=>ZrC (Zsj n_) u_off u_len d n guess borrow carry t82 t83 i u
def Zuh (n:Nat) (s:(Nat×Nat×(List Int)×Int×Int×Int×Int×(List Int)×Int×Int×(List Int))):Option (Nat×Nat×(List Int)×Int×Int×Int×Int×(List Int)):=Zsj n s.1 s.2.1 s.2.2.1 s.2.2.2.1 s.2.2.2.2.1 s.2.2.2.2.2.1 s.2.2.2.2.2.2.1 s.2.2.2.2.2.2.2.1 s.2.2.2.2.2.2.2.2.1 s.2.2.2.2.2.2.2.2.2.1 s.2.2.2.2.2.2.2.2.2.2
def ZsX (rec_:(Nat×Nat×(List Int)×Int×Int×Int×Int×(List Int)×Int×Int×(List Int))→Option (Nat×Nat×(List Int)×Int×Int×Int×Int×(List Int))) (s:(Nat×Nat×(List Int)×Int×Int×Int×Int×(List Int)×Int×Int×(List Int))):Option (Nat×Nat×(List Int)×Int×Int×Int×Int×(List Int)):=ZrC (fun u_off u_len d n guess borrow carry t82 t83 i u=>rec_ (u_off,u_len,d,n,guess,borrow,carry,t82,t83,i,u)) s.1 s.2.1 s.2.2.1 s.2.2.2.1 s.2.2.2.2.1 s.2.2.2.2.2.1 s.2.2.2.2.2.2.1 s.2.2.2.2.2.2.2.1 s.2.2.2.2.2.2.2.2.1 s.2.2.2.2.2.2.2.2.2.1 s.2.2.2.2.2.2.2.2.2.2
theorem ZvE:∀n s,Zuh (n+1) s=ZsX (Zuh n) s:=fun _ _=>rfl
def Zsl (u_off:Nat) (u_len:Nat) (d:(List Int)) (n:Int) (guess:Int) (u:(List Int)):Option (Int×(List Int)):=
 (Zsj big u_off u_len d n guess (0:Int) (0:Int) d (d.length:Int) (0:Int) u).bind fun(x0,x1,x2,x3,x4,x5,x6,x7)=>ZtH x0 x1 x2 x3 x4 x5 x6 x7
def Zri (rec_:Nat→Nat→(List Int)→Int→Int→Int→(List Int)→Option (Nat×Nat×(List Int)×Int×Int×(List Int))) (u_off:Nat) (u_len:Nat) (d:(List Int)) (n:Int) (guess:Int) (rest:Int) (t71:Bool) (u:(List Int)):Option (Nat×Nat×(List Int)×Int×Int×(List Int)):=
 bif t71 then (
  chk (inK .i64 (n - 1)) <|
  (idx d (n - 1)).bind fun d_e=>
  rec_ u_off u_len d n (IntKind.wrap .u64 (guess - 1)) (IntKind.wrap .u64 (rest+(IntKind.wrap .u64 d_e))) u
 )else (
  some (u_off,u_len,d,n,guess,u)
 )
def ZsY (rec_:Nat→Nat→(List Int)→Int→Int→Int→(List Int)→Option (Nat×Nat×(List Int)×Int×Int×(List Int))) (u_off:Nat) (u_len:Nat) (d:(List Int)) (n:Int) (guess:Int) (rest:Int) (u:(List Int)):Option (Nat×Nat×(List Int)×Int×Int×(List Int)):=
 bif (decide (rest < 4294967296))then (
  chk (inK .i64 (n - 2)) <|
  (idx d (n - 2)).bind fun d_e=>
  chk (decide (0≤(32:Int))) <|
  chk (inK .i64 (n - 2)) <|
  chk (inR (n - 2) (u_len:Int)) <|
  (u[(u_off+((n - 2)).toNat)]?).bind fun u_e=>
  Zri rec_ u_off u_len d n guess rest (decide ((IntKind.wrap .u64 (guess*(IntKind.wrap .u64 d_e))) > (orK .u64 (shlK .u64 rest 32) (IntKind.wrap .u64 u_e)))) u
 )else (
  Zri rec_ u_off u_len d n guess rest false u
 )
def Zqq:Nat→Nat→Nat→(List Int)→Int→Int→Int→(List Int)→Option (Nat×Nat×(List Int)×Int×Int×(List Int))
 |0,_,_,_,_,_,_,_=>none
 |n_+1,u_off,u_len,d,n,guess,rest,u=>ZsY (Zqq n_) u_off u_len d n guess rest u
def Zui (n:Nat) (s:(Nat×Nat×(List Int)×Int×Int×Int×(List Int))):Option (Nat×Nat×(List Int)×Int×Int×(List Int)):=Zqq n s.1 s.2.1 s.2.2.1 s.2.2.2.1 s.2.2.2.2.1 s.2.2.2.2.2.1 s.2.2.2.2.2.2
def Zuj (rec_:(Nat×Nat×(List Int)×Int×Int×Int×(List Int))→Option (Nat×Nat×(List Int)×Int×Int×(List Int))) (s:(Nat×Nat×(List Int)×Int×Int×Int×(List Int))):Option (Nat×Nat×(List Int)×Int×Int×(List Int)):=ZsY (fun u_off u_len d n guess rest u=>rec_ (u_off,u_len,d,n,guess,rest,u)) s.1 s.2.1 s.2.2.1 s.2.2.2.1 s.2.2.2.2.1 s.2.2.2.2.2.1 s.2.2.2.2.2.2
theorem ZvF:∀n s,Zui (n+1) s=Zuj (Zui n) s:=fun _ _=>rfl
def ZtC (u:(List Int)) (u_off:Nat) (u_len:Nat) (d:(List Int)):Option (Int×(List Int)):=
 chk (inR (d.length:Int) (u_len:Int)) <|
 (u[(u_off+((d.length:Int)).toNat)]?).bind fun u_e=>
 chk (decide (0≤(32:Int))) <|
 chk (inK .i64 ((d.length:Int) - 1)) <|
 chk (inR ((d.length:Int) - 1) (u_len:Int)) <|
 (u[(u_off+(((d.length:Int) - 1)).toNat)]?).bind fun u_e_1=>
 chk (inK .i64 ((d.length:Int) - 1)) <|
 (idx d ((d.length:Int) - 1)).bind fun d_e=>
 chk (decide ((IntKind.wrap .u64 d_e)≠0)) <|
 chk (inK .i64 ((d.length:Int) - 1)) <|
 (idx d ((d.length:Int) - 1)).bind fun d_e_1=>
 (Zqq big u_off u_len d (d.length:Int) (if (4294967295:Int) < (IntKind.wrap .u64 (Int.tdiv (orK .u64 (shlK .u64 (IntKind.wrap .u64 u_e) 32) (IntKind.wrap .u64 u_e_1)) (IntKind.wrap .u64 d_e)))then (4294967295:Int)else (IntKind.wrap .u64 (Int.tdiv (orK .u64 (shlK .u64 (IntKind.wrap .u64 u_e) 32) (IntKind.wrap .u64 u_e_1)) (IntKind.wrap .u64 d_e)))) (IntKind.wrap .u64 ((orK .u64 (shlK .u64 (IntKind.wrap .u64 u_e) 32) (IntKind.wrap .u64 u_e_1)) - (IntKind.wrap .u64 ((if (4294967295:Int) < (IntKind.wrap .u64 (Int.tdiv (orK .u64 (shlK .u64 (IntKind.wrap .u64 u_e) 32) (IntKind.wrap .u64 u_e_1)) (IntKind.wrap .u64 d_e)))then (4294967295:Int)else (IntKind.wrap .u64 (Int.tdiv (orK .u64 (shlK .u64 (IntKind.wrap .u64 u_e) 32) (IntKind.wrap .u64 u_e_1)) (IntKind.wrap .u64 d_e))))*(IntKind.wrap .u64 d_e_1))))) u).bind fun(x0,x1,x2,x3,x4,x5)=>Zsl x0 x1 x2 x3 x4 x5
def ZsG (u:(List Int)) (u_off:Nat) (u_len:Nat) (d:(List Int)):Option (Int×(List Int)):=
 (ZtC u u_off u_len d).bind fun r=>chk (decide (r.2.length=u.length)&&true) (some r)
def Zsi (w_off:Nat) (w_len:Nat) (w_:(List Int)):Option (Nat×Nat×(List Int)):=
 some (w_off,w_len,w_)
def ZqZ (rec_:Nat→Nat→(List Int)→Option (Nat×Nat×(List Int))) (w_off:Nat) (w_len:Nat) (t14:Bool) (w_:(List Int)):Option (Nat×Nat×(List Int)):=
 bif t14 then (
  chk (inK .i64 (((w_len:Nat):Int) - 1)) <|
  chk (Zb9 0 (((w_len:Nat):Int) - 1) (w_len:Int)) <|
  rec_ (w_off+0) (((((w_len:Nat):Int) - 1)).toNat - 0) w_
 )else (
  some (w_off,w_len,w_)
 )
def ZrT (rec_:Nat→Nat→(List Int)→Option (Nat×Nat×(List Int))) (w_off:Nat) (w_len:Nat) (w_:(List Int)):Option (Nat×Nat×(List Int)):=
 bif (decide (((w_len:Nat):Int) > 0))then (
  chk (inK .i64 (((w_len:Nat):Int) - 1)) <|
  chk (inR (((w_len:Nat):Int) - 1) (w_len:Int)) <|
  (w_[(w_off+((((w_len:Nat):Int) - 1)).toNat)]?).bind fun w__e=>
  ZqZ rec_ w_off w_len (w__e == 0) w_
 )else (
  ZqZ rec_ w_off w_len false w_
 )
def Zp3:Nat→Nat→Nat→(List Int)→Option (Nat×Nat×(List Int))
 |0,_,_,_=>none
 |n_+1,w_off,w_len,w_=>ZrT (Zp3 n_) w_off w_len w_
def Ztu (n:Nat) (s:(Nat×Nat×(List Int))):Option (Nat×Nat×(List Int)):=Zp3 n s.1 s.2.1 s.2.2
def Ztv (rec_:(Nat×Nat×(List Int))→Option (Nat×Nat×(List Int))) (s:(Nat×Nat×(List Int))):Option (Nat×Nat×(List Int)):=ZrT (fun w_off w_len w_=>rec_ (w_off,w_len,w_)) s.1 s.2.1 s.2.2
theorem Zu6:∀n s,Ztu (n+1) s=Ztv (Ztu n) s:=fun _ _=>rfl
def ZrY (w_:(List Int)) (w_off:Nat) (w_len:Nat):Option (Nat×Nat×(List Int)):=
 (Zp3 big w_off w_len w_).bind fun(x0,x1,x2)=>Zsi x0 x1 x2
def Zrk (w_:(List Int)) (w_off:Nat) (w_len:Nat):Option (Nat×Nat×(List Int)):=
 (ZrY w_ w_off w_len).bind fun r=>chk (decide (r.2.2.length=w_.length)&&true) (some r)
def ZpH (w_:(List Int)) (i:Int):Option Int:=
 bif (decide (i < (w_.length:Int)))then (
  (idx w_ i).bind fun w__e=>
  some w__e
 )else (
  some (0:Int)
 )
def ZsU (w_:(List Int)) (w_off:Nat) (w_len:Nat) (i:Int):Option (Int×(List Int)):=
 bif (decide (i < ((w_len:Nat):Int)))then (
  chk (inR i (w_len:Int)) <|
  (w_[(w_off+(i).toNat)]?).bind fun w__e=>
  some (w__e,w_)
 )else (
  some (0,w_)
 )
def ZqX (w_:(List Int)) (w_off:Nat) (w_len:Nat) (i:Int):Option (Int×(List Int)):=
 (ZsU w_ w_off w_len i).bind fun r=>chk (decide (r.2.length=w_.length)&&true) (some r)
def Zr9 (rest_off:Nat) (rest_len:Nat) (q:(List Int)) (rest:(List Int)):Option ((List Int)×(List Int)):=
 (Zn5 q).bind fun q_1=>
 (Zn5 ((rest.drop rest_off).take rest_len)).bind fun q_2=>
 some (q_1,q_2)
def Zqe (rec_:Int→Nat→Nat→Int→Int→(List Int)→(List Int)→Option (Nat×Nat×(List Int)×(List Int))) (shift:Int) (rest_off:Nat) (rest_len:Nat) (t86:Int) (i:Int) (q:(List Int)) (rest:(List Int)):Option (Nat×Nat×(List Int)×(List Int)):=
 bif (decide (i < t86))then (
  chk (inK .i64 (i+1)) <|
  (ZqX rest rest_off rest_len (i+1)).bind fun(q_1,t90)=>
  chk (decide (0≤(32:Int))) <|
  chk (inR i (rest_len:Int)) <|
  (t90[(rest_off+(i).toNat)]?).bind fun t90_e=>
  chk (decide (0≤shift)) <|
  chk (inR i (rest_len:Int)) <|
  chk (inK .i64 (i+1)) <|
  rec_ shift rest_off rest_len t86 (i+1) q (t90.set (rest_off+(i).toNat) (IntKind.wrap .u32 (shrK .u64 (orK .u64 (shlK .u64 (IntKind.wrap .u64 q_1) 32) (IntKind.wrap .u64 t90_e)) shift)))
 )else (
  some (rest_off,rest_len,q,rest)
 )
def ZpJ:Nat→Int→Nat→Nat→Int→Int→(List Int)→(List Int)→Option (Nat×Nat×(List Int)×(List Int))
 |0,_,_,_,_,_,_,_=>none
 |n_+1,shift,rest_off,rest_len,t86,i,q,rest=>Zqe (ZpJ n_) shift rest_off rest_len t86 i q rest
def Ztj (n:Nat) (s:(Int×Nat×Nat×Int×Int×(List Int)×(List Int))):Option (Nat×Nat×(List Int)×(List Int)):=ZpJ n s.1 s.2.1 s.2.2.1 s.2.2.2.1 s.2.2.2.2.1 s.2.2.2.2.2.1 s.2.2.2.2.2.2
def Zru (rec_:(Int×Nat×Nat×Int×Int×(List Int)×(List Int))→Option (Nat×Nat×(List Int)×(List Int))) (s:(Int×Nat×Nat×Int×Int×(List Int)×(List Int))):Option (Nat×Nat×(List Int)×(List Int)):=Zqe (fun shift rest_off rest_len t86 i q rest=>rec_ (shift,rest_off,rest_len,t86,i,q,rest)) s.1 s.2.1 s.2.2.1 s.2.2.2.1 s.2.2.2.2.1 s.2.2.2.2.2.1 s.2.2.2.2.2.2
theorem ZuT:∀n s,Ztj (n+1) s=Zru (Ztj n) s:=fun _ _=>rfl
def Zsa (n:Int) (shift:Int) (u:(List Int)) (q:(List Int)):Option ((List Int)×(List Int)):=
 chk (Zb9 0 n (u.length:Int)) <|
 (Zrk u 0 ((n).toNat - 0)).bind fun(rest_off,rest_len,t83)=>
 (ZpJ big shift rest_off rest_len ((rest_len:Nat):Int) (0:Int) q t83).bind fun(x0,x1,x2,x3)=>Zr9 x0 x1 x2 x3
def Zqf (rec_:Int→Int→(List Int)→Int→(List Int)→(List Int)→Option (Int×Int×(List Int)×(List Int))) (n:Int) (shift:Int) (d:(List Int)) (j:Int) (u:(List Int)) (q:(List Int)):Option (Int×Int×(List Int)×(List Int)):=
 bif (decide (j≥0))then (
  chk (inK .i64 (j+n)) <|
  chk (inK .i64 ((j+n)+1)) <|
  chk (Zb9 j ((j+n)+1) (u.length:Int)) <|
  (ZsG u ((j).toNat) ((((j+n)+1)).toNat - (j).toNat) d).bind fun(q_1,t77)=>
  chk (inR j (q.length:Int)) <|
  chk (inK .i64 (j - 1)) <|
  rec_ n shift d (j - 1) t77 (q.set ((j).toNat) q_1)
 )else (
  some (n,shift,u,q)
 )
def ZpK:Nat→Int→Int→(List Int)→Int→(List Int)→(List Int)→Option (Int×Int×(List Int)×(List Int))
 |0,_,_,_,_,_,_=>none
 |n_+1,n,shift,d,j,u,q=>Zqf (ZpK n_) n shift d j u q
def Ztk (n:Nat) (s:(Int×Int×(List Int)×Int×(List Int)×(List Int))):Option (Int×Int×(List Int)×(List Int)):=ZpK n s.1 s.2.1 s.2.2.1 s.2.2.2.1 s.2.2.2.2.1 s.2.2.2.2.2
def Zrv (rec_:(Int×Int×(List Int)×Int×(List Int)×(List Int))→Option (Int×Int×(List Int)×(List Int))) (s:(Int×Int×(List Int)×Int×(List Int)×(List Int))):Option (Int×Int×(List Int)×(List Int)):=Zqf (fun n shift d j u q=>rec_ (n,shift,d,j,u,q)) s.1 s.2.1 s.2.2.1 s.2.2.2.1 s.2.2.2.2.1 s.2.2.2.2.2
theorem ZuU:∀n s,Ztk (n+1) s=Zrv (Ztk n) s:=fun _ _=>rfl
def Zo7 (w_:(List Int)) (v_:(List Int)):Option ((List Int)×(List Int)):=
 (Zoo w_ v_).bind fun q=>
 bif (decide (q < 0))then (
  (Zok w_).bind fun q_1=>
  some (([]:(List Int)),q_1)
 )else (
  bif ((v_.length:Int) == 1)then (
   (idx v_ 0).bind fun v__e=>
   (Zqk w_ v__e).bind fun(q_2,r_)=>
   (Zn5 ([r_]:(List Int))).bind fun q_3=>
   some (q_2,q_3)
  )else (
   chk (inK .i64 ((v_.length:Int) - 1)) <|
   (idx v_ ((v_.length:Int) - 1)).bind fun v__e_1=>
   (Zpi v__e_1).bind fun shift=>
   (ZoF w_ shift).bind fun u=>
   (ZoF v_ shift).bind fun q_4=>
   chk (Zb9 0 (v_.length:Int) (q_4.length:Int)) <|
   chk (inK .i64 ((w_.length:Int) - (v_.length:Int))) <|
   chk (inK .i64 (((w_.length:Int) - (v_.length:Int))+1)) <|
   chk (mkOk (((w_.length:Int) - (v_.length:Int))+1) (((w_.length:Int) - (v_.length:Int))+1) 4) <|
   chk (inK .i64 (((List.replicate ((((w_.length:Int) - (v_.length:Int))+1)).toNat (0:Int)).length:Int) - 1)) <|
   (ZpK big (v_.length:Int) shift ((q_4.drop 0).take (((v_.length:Int)).toNat - 0)) (((List.replicate ((((w_.length:Int) - (v_.length:Int))+1)).toNat (0:Int)).length:Int) - 1) u (List.replicate ((((w_.length:Int) - (v_.length:Int))+1)).toNat (0:Int))).bind fun(x0,x1,x2,x3)=>Zsa x0 x1 x2 x3
  )
 )
def Zrw (w_:(List Int)):Option (List Int):=
 some w_
def ZoT (rec_:(List Int)→(List Int)→Option (List Int)) (w_:(List Int)) (v_:(List Int)):Option (List Int):=
 bif (decide ((v_.length:Int) > 0))then (
  (Zo7 w_ v_).bind fun(q,r_)=>
  rec_ v_ r_
 )else (
  some w_
 )
def Zov:Nat→(List Int)→(List Int)→Option (List Int)
 |0,_,_=>none
 |n_+1,w_,v_=>ZoT (Zov n_) w_ v_
def Zpd (w_:(List Int)) (v_:(List Int)):Option (List Int):=
 (Zov big w_ v_).bind fun x0=>Zrw x0
def ZoU (num:ZnI) (den:ZnI):Option ZnB:=
 (Zpd num.Words den.Words).bind fun g=>
 (Zo7 num.Words g).bind fun(x_,q)=>
 (Zo7 den.Words g).bind fun(y,q_1)=>
 (Zod (!(num.Neg == den.Neg)) x_).bind fun q_2=>
 (Zod false y).bind fun q_3=>
 some (ZnB.mk q_2 q_3)
def ZsZ (num:ZnI) (den:ZnI):Option (ZnB×Int):=
 (Zsb ([num,den]:(List ZnI))).bind fun q=>
 bif (!q)then (
  some ((ZnB.mk (ZnI.mk false ([]:(List Int))) (ZnI.mk false ([]:(List Int)))),1)
 )else (
  bif ((den.Words.length:Int) == 0)then (
   some ((ZnB.mk (ZnI.mk false ([]:(List Int))) (ZnI.mk false ([]:(List Int)))),8)
  )else (
   (ZoU num den).bind fun q_1=>
   some (q_1,0)
  )
 )
def Ztf (num:Int) (den:Int):Option (ZnB×Int):=
 (ZqJ num).bind fun q=>
 (ZqJ den).bind fun q_1=>
 (ZsZ q q_1).bind fun(q_2,q_3)=>
 some (q_2,q_3)
def Zt4:Option ZnB:=
 (Ztf 0 1).bind fun(f,q)=>
 some f
def ZuC:Option (List (Int×ZoC)):=
 some (setB (k:=(.int .i64)) (v:=(.st 6)) (car:=ZtY) (setB (k:=(.int .i64)) (v:=(.st 6)) (car:=ZtY) (setB (k:=(.int .i64)) (v:=(.st 6)) (car:=ZtY) (setB (k:=(.int .i64)) (v:=(.st 6)) (car:=ZtY) (setB (k:=(.int .i64)) (v:=(.st 6)) (car:=ZtY) ([]:(List (Int×ZoC))) 1 (ZoC.mk ([116,101,120,116]:Str) (none:Option Nat) (some 183:Option Nat))) 2 (ZoC.mk ([98,111,111,108]:Str) (some 184:Option Nat) (some 185:Option Nat))) 3 (ZoC.mk ([105,110,116,101,103,101,114]:Str) (some 186:Option Nat) (some 187:Option Nat))) 4 (ZoC.mk ([100,101,99,105,109,97,108]:Str) (some 188:Option Nat) (some 187:Option Nat))) 5 (ZoC.mk ([100,97,116,101]:Str) (some 189:Option Nat) (some 190:Option Nat)))
def Zvf (s cs:Str):Option Str:=
 chk (cs.all fun b=>decide (b.toNat < 128)) <| chk (decide (cs.length < 4294967281)) <| some (Lib.trimS s cs)
def Zwa (s:Str):Option Str:=
 (Zvf s ([32]:Str)).bind fun q=>
 some q
def ZpG (t4:Bool):Option Bool:=
 some t4
def ZoY (s:Str) (prefix_:Str):Option Bool:=
 bif (decide ((s.length:Int)≥(prefix_.length:Int)))then (
  chk (Zb9 0 (prefix_.length:Int) (s.length:Int)) <|
  ZpG ((s.take ((prefix_.length:Int)).toNat) == prefix_)
 )else (
  ZpG false
 )
def Zqa (s:Str) (prefix_:Str):Option (Str×Bool):=
 (ZoY s prefix_).bind fun q=>
 bif (!q)then (
  some (s,false)
 )else (
  chk (Zb9 (prefix_.length:Int) (s.length:Int) (s.length:Int)) <|
  some ((s.drop ((prefix_.length:Int)).toNat),true)
 )
def ZtE (s:Str) (prefix_:Str):Option (Str×Bool):=
 (Zqa s prefix_).bind fun(after,found)=>
 some (after,found)
def ZpW (s:Str) (prefix_:Str):Option Str:=
 (ZoY s prefix_).bind fun q=>
 bif q then (
  chk (Zb9 (prefix_.length:Int) (s.length:Int) (s.length:Int)) <|
  some (s.drop ((prefix_.length:Int)).toNat)
 )else (
  some s
 )
def Ztl (s:Str) (prefix_:Str):Option Str:=
 (ZpW s prefix_).bind fun q=>
 some q
def Zp9 (s:Str) (c:Int):Option Int:=
 some (Lib.indexByte s c.toNat.toUInt8)
def Zqp (s:Str) (substr:Str) (n:Int) (t16:Bool):Option Int:=
 bif t16 then (
  some (0:Int)
 )else (
  bif (n == 1)then (
   (idx substr 0).bind fun c=>
   (Zp9 s ((c.toNat:Nat):Int)).bind fun q=>
   some q
  )else (
   bif (decide (n≥(s.length:Int)))then (
    some (-1:Int)
   )else (
    none
   )
  )
 )
def ZqW (s:Str) (substr:Str):Option Int:=
 bif ((substr.length:Int) == 0)then (
  Zqp s substr (substr.length:Int) true
 )else (
  Zqp s substr (substr.length:Int) (substr == s)
 )
def Zrs (s:Str) (sep:Str):Option (Str×Str×Bool):=
 (ZqW s sep).bind fun i=>
 bif (decide (i≥0))then (
  chk (Zb9 0 i (s.length:Int)) <|
  chk (inK .i64 (i+(sep.length:Int))) <|
  chk (Zb9 (i+(sep.length:Int)) (s.length:Int) (s.length:Int)) <|
  some ((s.take (i).toNat),(s.drop ((i+(sep.length:Int))).toNat),true)
 )else (
  some (s,([]:Str),false)
 )
def ZuH (s:Str) (sep:Str):Option (Str×Str×Bool):=
 (Zrs s sep).bind fun(before,after,found)=>
 some (before,after,found)
def Zr0 (t4:Bool):Option Bool:=
 some t4
def Zte (s:Str) (most:Int):Option Bool:=
 bif (decide ((s.length:Int)≥1))then (
  bif (decide ((s.length:Int)≤most))then (
   (Zvf s ([48,49,50,51,52,53,54,55,56,57]:Str)).bind fun q=>
   Zr0 (q == ([]:Str))
  )else (
   Zr0 false
  )
 )else (
  Zr0 false
 )
def ZrP (out:(List Int)):Option (List Int):=
 (Zn5 out).bind fun q=>
 some q
def ZrQ (rec_:(List Int)→(List Int)→Int→Int→(List Int)→Option (List Int)) (v_:(List Int)) (i:Int) (carry:Int) (t17:(List Int)) (t18:Int) (i_1:Int) (out:(List Int)):Option (List Int):=
 chk (inK .i64 (i+(v_.length:Int))) <|
 chk (inR (i+(v_.length:Int)) (out.length:Int)) <|
 chk (inK .i64 (i_1+1)) <|
 rec_ v_ t17 t18 (i_1+1) (out.set (((i+(v_.length:Int))).toNat) (IntKind.wrap .u32 carry))
def ZpX (rec_:(List Int)→Int→Int→Int→(List Int)→Int→Int→(List Int)→Int→Int→(List Int)→Option ((List Int)×Int×Int×(List Int)×Int×Int×(List Int))) (v_:(List Int)) (i:Int) (x_:Int) (carry:Int) (t17:(List Int)) (t18:Int) (i_1:Int) (t24:(List Int)) (t25:Int) (j:Int) (out:(List Int)):Option ((List Int)×Int×Int×(List Int)×Int×Int×(List Int)):=
 bif (decide (j < t25))then (
  (idx t24 j).bind fun y=>
  chk (inK .i64 (i+j)) <|
  chk (inR (i+j) (out.length:Int)) <|
  (out[((i+j)).toNat]?).bind fun out_e=>
  chk (inK .i64 (i+j)) <|
  chk (inR (i+j) (out.length:Int)) <|
  chk (decide (0≤(32:Int))) <|
  chk (inK .i64 (j+1)) <|
  rec_ v_ i x_ (shrK .u64 (IntKind.wrap .u64 (carry+(IntKind.wrap .u64 ((IntKind.wrap .u64 ((IntKind.wrap .u64 x_)*(IntKind.wrap .u64 y)))+(IntKind.wrap .u64 out_e))))) 32) t17 t18 i_1 t24 t25 (j+1) (out.set (((i+j)).toNat) (IntKind.wrap .u32 (IntKind.wrap .u64 (carry+(IntKind.wrap .u64 ((IntKind.wrap .u64 ((IntKind.wrap .u64 x_)*(IntKind.wrap .u64 y)))+(IntKind.wrap .u64 out_e)))))))
 )else (
  some (v_,i,carry,t17,t18,i_1,out)
 )
def Zqz:Nat→(List Int)→Int→Int→Int→(List Int)→Int→Int→(List Int)→Int→Int→(List Int)→Option ((List Int)×Int×Int×(List Int)×Int×Int×(List Int))
 |0,_,_,_,_,_,_,_,_,_,_,_=>none
 |n_+1,v_,i,x_,carry,t17,t18,i_1,t24,t25,j,out=>ZpX (Zqz n_) v_ i x_ carry t17 t18 i_1 t24 t25 j out
def ZsQ (n:Nat) (s:((List Int)×Int×Int×Int×(List Int)×Int×Int×(List Int)×Int×Int×(List Int))):Option ((List Int)×Int×Int×(List Int)×Int×Int×(List Int)):=Zqz n s.1 s.2.1 s.2.2.1 s.2.2.2.1 s.2.2.2.2.1 s.2.2.2.2.2.1 s.2.2.2.2.2.2.1 s.2.2.2.2.2.2.2.1 s.2.2.2.2.2.2.2.2.1 s.2.2.2.2.2.2.2.2.2.1 s.2.2.2.2.2.2.2.2.2.2
def Zrb (rec_:((List Int)×Int×Int×Int×(List Int)×Int×Int×(List Int)×Int×Int×(List Int))→Option ((List Int)×Int×Int×(List Int)×Int×Int×(List Int))) (s:((List Int)×Int×Int×Int×(List Int)×Int×Int×(List Int)×Int×Int×(List Int))):Option ((List Int)×Int×Int×(List Int)×Int×Int×(List Int)):=ZpX (fun v_ i x_ carry t17 t18 i_1 t24 t25 j out=>rec_ (v_,i,x_,carry,t17,t18,i_1,t24,t25,j,out)) s.1 s.2.1 s.2.2.1 s.2.2.2.1 s.2.2.2.2.1 s.2.2.2.2.2.1 s.2.2.2.2.2.2.1 s.2.2.2.2.2.2.2.1 s.2.2.2.2.2.2.2.2.1 s.2.2.2.2.2.2.2.2.2.1 s.2.2.2.2.2.2.2.2.2.2
theorem ZuJ:∀n s,ZsQ (n+1) s=Zrb (ZsQ n) s:=fun _ _=>rfl
def ZpY (rec_:(List Int)→(List Int)→Int→Int→(List Int)→Option (List Int)) (v_:(List Int)) (t17:(List Int)) (t18:Int) (i:Int) (out:(List Int)):Option (List Int):=
 bif (decide (i < t18))then (
  (idx t17 i).bind fun x_=>
  (Zqz big v_ i x_ (0:Int) t17 t18 i v_ (v_.length:Int) (0:Int) out).bind fun(x0,x1,x2,x3,x4,x5,x6)=>ZrQ rec_ x0 x1 x2 x3 x4 x5 x6
 )else (
  some out
 )
def Zpv:Nat→(List Int)→(List Int)→Int→Int→(List Int)→Option (List Int)
 |0,_,_,_,_,_=>none
 |n_+1,v_,t17,t18,i,out=>ZpY (Zpv n_) v_ t17 t18 i out
def ZsR (n:Nat) (s:((List Int)×(List Int)×Int×Int×(List Int))):Option (List Int):=Zpv n s.1 s.2.1 s.2.2.1 s.2.2.2.1 s.2.2.2.2
def Zrc (rec_:((List Int)×(List Int)×Int×Int×(List Int))→Option (List Int)) (s:((List Int)×(List Int)×Int×Int×(List Int))):Option (List Int):=ZpY (fun v_ t17 t18 i out=>rec_ (v_,t17,t18,i,out)) s.1 s.2.1 s.2.2.1 s.2.2.2.1 s.2.2.2.2
theorem ZuK:∀n s,ZsR (n+1) s=Zrc (ZsR n) s:=fun _ _=>rfl
def ZoS (w_:(List Int)) (v_:(List Int)):Option (List Int):=
 chk (inK .i64 ((w_.length:Int)+(v_.length:Int))) <|
 chk (mkOk ((w_.length:Int)+(v_.length:Int)) ((w_.length:Int)+(v_.length:Int)) 4) <|
 (Zpv big v_ w_ (w_.length:Int) (0:Int) (List.replicate (((w_.length:Int)+(v_.length:Int))).toNat (0:Int))).bind fun x0=>ZrP x0
def Zr8 (carry:Int) (out:(List Int)):Option (List Int):=
 chk (ZiZ (out.length+([carry]:(List Int)).length) 4) <|
 (Zn5 (out++([carry]:(List Int)))).bind fun q=>
 some q
def Zqd (rec_:(List Int)→(List Int)→Int→Int→Int→(List Int)→Option (Int×(List Int))) (w_:(List Int)) (v_:(List Int)) (carry:Int) (t20:Int) (i:Int) (out:(List Int)):Option (Int×(List Int)):=
 bif (decide (i < t20))then (
  (ZpH w_ i).bind fun q=>
  (ZpH v_ i).bind fun q_1=>
  (Zq2 q q_1 carry).bind fun(d,carry_1)=>
  chk (ZiZ (out.length+([d]:(List Int)).length) 4) <|
  chk (inK .i64 (i+1)) <|
  rec_ w_ v_ carry_1 t20 (i+1) (out++([d]:(List Int)))
 )else (
  some (carry,out)
 )
def ZqI:Nat→(List Int)→(List Int)→Int→Int→Int→(List Int)→Option (Int×(List Int))
 |0,_,_,_,_,_,_=>none
 |n_+1,w_,v_,carry,t20,i,out=>Zqd (ZqI n_) w_ v_ carry t20 i out
def Zti (n:Nat) (s:((List Int)×(List Int)×Int×Int×Int×(List Int))):Option (Int×(List Int)):=ZqI n s.1 s.2.1 s.2.2.1 s.2.2.2.1 s.2.2.2.2.1 s.2.2.2.2.2
def Zrt (rec_:((List Int)×(List Int)×Int×Int×Int×(List Int))→Option (Int×(List Int))) (s:((List Int)×(List Int)×Int×Int×Int×(List Int))):Option (Int×(List Int)):=Zqd (fun w_ v_ carry t20 i out=>rec_ (w_,v_,carry,t20,i,out)) s.1 s.2.1 s.2.2.1 s.2.2.2.1 s.2.2.2.2.1 s.2.2.2.2.2
theorem ZuS:∀n s,Zti (n+1) s=Zrt (Zti n) s:=fun _ _=>rfl
def ZpI (w_:(List Int)) (v_:(List Int)):Option (List Int):=
 chk (inK .i64 ((if (v_.length:Int) > (w_.length:Int)then (v_.length:Int)else (w_.length:Int))+1)) <|
 chk (mkOk 0 ((if (v_.length:Int) > (w_.length:Int)then (v_.length:Int)else (w_.length:Int))+1) 4) <|
 (ZqI big w_ v_ (0:Int) (if (v_.length:Int) > (w_.length:Int)then (v_.length:Int)else (w_.length:Int)) (0:Int) (List.replicate ((0:Int)).toNat (0:Int))).bind fun(x0,x1)=>Zr8 x0 x1
def ZrD (neg:Bool) (num:(List Int)) (den:(List Int)) (t2:Bool) (t2_1:Bool) (t2_2:(List Int)) (t2_3:(List Int)):Option (ZnB×Bool):=
 (Zod neg num).bind fun q=>
 (Zod false den).bind fun q_1=>
 (ZoU q q_1).bind fun q_2=>
 some (q_2,true)
def Zvt (rec_:Bool→(List Int)→(List Int)→(List Int)→Int→Int→Bool→Bool→(List Int)→(List Int)→Option (Bool×(List Int)×(List Int)×Bool×Bool×(List Int)×(List Int))) (neg:Bool) (num:(List Int)) (ten:(List Int)) (den:(List Int)) (t63:Int) (t64:Int) (t2:Bool) (t2_1:Bool) (t2_2:(List Int)) (t2_3:(List Int)):Option (Bool×(List Int)×(List Int)×Bool×Bool×(List Int)×(List Int)):=
 bif (decide (t64 < t63))then (
  (ZoS den ten).bind fun den_1=>
  chk (inK .i64 (t64+1)) <|
  rec_ neg num ten den_1 t63 (t64+1) t2 t2_1 t2_2 t2_3
 )else (
  some (neg,num,den,t2,t2_1,t2_2,t2_3)
 )
def Zs0:Nat→Bool→(List Int)→(List Int)→(List Int)→Int→Int→Bool→Bool→(List Int)→(List Int)→Option (Bool×(List Int)×(List Int)×Bool×Bool×(List Int)×(List Int))
 |0,_,_,_,_,_,_,_,_,_,_=>none
 |n_+1,neg,num,ten,den,t63,t64,t2,t2_1,t2_2,t2_3=>Zvt (Zs0 n_) neg num ten den t63 t64 t2 t2_1 t2_2 t2_3
def Zuk (neg:Bool) (back:Str) (num:(List Int)) (ten:(List Int)) (t2:Bool) (t2_1:Bool) (den:(List Int)) (t2_2:(List Int)) (t2_3:(List Int)):Option (ZnB×Bool):=
 (Zs0 big neg num ten den (back.length:Int) (0:Int) t2 t2_1 t2_2 t2_3).bind fun(x0,x1,x2,x3,x4,x5,x6)=>ZrD x0 x1 x2 x3 x4 x5 x6
def Zvu (rec_:Bool→Str→(List Int)→(List Int)→Int→Int→Bool→Bool→(List Int)→(List Int)→(List Int)→(List Int)→Option (Bool×Str×(List Int)×(List Int)×Bool×Bool×(List Int)×(List Int)×(List Int))) (neg:Bool) (back:Str) (num:(List Int)) (ten:(List Int)) (t48:Int) (t49:Int) (t2:Bool) (t2_1:Bool) (den:(List Int)) (t47:(List Int)) (t2_2:(List Int)) (t2_3:(List Int)):Option (Bool×Str×(List Int)×(List Int)×Bool×Bool×(List Int)×(List Int)×(List Int)):=
 bif (decide (t49 < t48))then (
  chk (inR t49 (t47.length:Int)) <|
  (t47[(t49).toNat]?).bind fun d=>
  (ZoS num ten).bind fun q=>
  (Zp5 (IntKind.wrap .u64 (IntKind.wrap .u8 (d - 48)))).bind fun q_1=>
  (ZpI q q_1).bind fun num_1=>
  chk (inK .i64 (t49+1)) <|
  rec_ neg back num_1 ten t48 (t49+1) t2 t2_1 den t47 t2_2 t2_3
 )else (
  some (neg,back,num,ten,t2,t2_1,den,t2_2,t2_3)
 )
def Zs1:Nat→Bool→Str→(List Int)→(List Int)→Int→Int→Bool→Bool→(List Int)→(List Int)→(List Int)→(List Int)→Option (Bool×Str×(List Int)×(List Int)×Bool×Bool×(List Int)×(List Int)×(List Int))
 |0,_,_,_,_,_,_,_,_,_,_,_,_=>none
 |n_+1,neg,back,num,ten,t48,t49,t2,t2_1,den,t47,t2_2,t2_3=>Zvu (Zs1 n_) neg back num ten t48 t49 t2 t2_1 den t47 t2_2 t2_3
def ZrE (neg:Bool) (front:Str) (back:Str) (t39:Bool) (t2:Bool) (t2_1:Bool) (t2_2:(List Int)) (t2_3:(List Int)):Option (ZnB×Bool):=
 bif t39 then (
  some ((ZnB.mk (ZnI.mk false ([]:(List Int))) (ZnI.mk false ([]:(List Int)))),false)
 )else (
  (Zok ([1]:List Int)).bind fun den=>
  chk (decide (front.length+back.length≤Zq)) <|
  chk (decide ((front++back).length≤281474976710656)) <|
  (Zs1 big neg back ([]:(List Int)) ([10]:(List Int)) (((front++back).map fun b=>((b.toNat:Nat):Int)).length:Int) (0:Int) t2 t2_1 den ((front++back).map fun b=>((b.toNat:Nat):Int)) t2_2 t2_3).bind fun(x0,x1,x2,x3,x4,x5,x6,x7,x8)=>Zuk x0 x1 x2 x3 x4 x5 x6 x7 x8
 )
def Zs2 (body:Str) (neg:Bool) (t2:Bool) (t2_1:Bool) (t2_2:(List Int)) (t2_3:(List Int)):Option (ZnB×Bool):=
 (ZuH body ([46]:Str)).bind fun(front,back,point)=>
 (Zte front 15).bind fun q=>
 bif (!q)then (
  ZrE neg front back true t2 t2_1 t2_2 t2_3
 )else (
  bif point then (
   (Zte back 9).bind fun q_1=>
   ZrE neg front back (!q_1) t2 t2_1 t2_2 t2_3
  )else (
   ZrE neg front back false t2 t2_1 t2_2 t2_3
  )
 )
def ZqK (text:Str):Option (ZnB×Bool):=
 (ZtE text ([45]:Str)).bind fun(body,neg)=>
 bif (!neg)then (
  (Ztl text ([43]:Str)).bind fun body_1=>
  Zs2 body_1 neg false false ([]:(List Int)) ([]:(List Int))
 )else (
  Zs2 body neg false false ([]:(List Int)) ([]:(List Int))
 )
def ZtN (s cs:Str):Option Str:=
 chk (cs.all fun b=>decide (b.toNat < 128)) <| chk (decide (cs.length < 4294967281)) <| some (Lib.trimLeftS s cs)
def ZuP (s cs:Str):Option Str:=
 chk (cs.all fun b=>decide (b.toNat < 128)) <| chk (decide (cs.length < 4294967281)) <| some (Lib.trimRightS s cs)
def Zva (zero:Str):Option Str:=
 some zero
def ZvZ (rec_:Str→(List Str)→Int→Int→Option (Out Str Str)) (zero:Str) (t6:(List Str)) (t7:Int) (t8:Int):Option (Out Str Str):=
 bif (decide (t8 < t7))then (
  (idx t6 t8).bind fun val=>
  bif (!(val == zero))then (
   some (.ret val)
  )else (
   chk (inK .i64 (t8+1)) <|
   rec_ zero t6 t7 (t8+1)
  )
 )else (
  some (.brk zero)
 )
def ZtW:Nat→Str→(List Str)→Int→Int→Option (Out Str Str)
 |0,_,_,_,_=>none
 |n_+1,zero,t6,t7,t8=>ZvZ (ZtW n_) zero t6 t7 t8
def ZuV (vals:(List Str)):Option Str:=
 (ZtW big ([]:Str) vals (vals.length:Int) (0:Int)).bind fun
  | .ret q_=>some q_
  | .brk x0=>Zva x0
def ZtK (out:Str):Option (Str×Bool):=
 some (out,true)
def ZtL (out:Str) (t43:Bool):Option (Str×Bool):=
 bif t43 then (
  chk (decide (([45]:Str).length+out.length≤Zq)) <|
  ZtK (([45]:Str)++out)
 )else (
  ZtK out
 )
def ZtM (t:Str) (out:Str):Option (Str×Bool):=
 (idx t 0).bind fun c=>
 bif (((c.toNat:Nat):Int) == 45)then (
  ZtL out (!(out == ([48]:Str)))
 )else (
  ZtL out false
 )
def ZsM (t:Str):Option (Str×Bool):=
 (ZqK t).bind fun(q,ok)=>
 bif (!ok)then (
  some (([]:Str),false)
 )else (
  (ZtN t ([43,45]:Str)).bind fun q_1=>
  (ZuH q_1 ([46]:Str)).bind fun(front,back,q_2)=>
  (ZtN front ([48]:Str)).bind fun front_1=>
  (ZuP back ([48]:Str)).bind fun back_1=>
  (ZuV ([front_1,([48]:Str)]:(List Str))).bind fun out=>
  bif (!(back_1 == ([]:Str)))then (
   chk (decide (([46]:Str).length+back_1.length≤Zq)) <|
   chk (decide (out.length+(([46]:Str)++back_1).length≤Zq)) <|
   ZtM t (out++(([46]:Str)++back_1))
  )else (
   ZtM t out
  )
 )
def Zr4 (n:Int) (s:Str):Option (Str×Bool):=
 (ZuC).bind fun q=>
 bif (!(Zg3 (k:=(.int .i64)) (v:=(.st 6)) (car:=ZtY) q n).isSome)then (
  some (([]:Str),false)
 )else (
  bif (Option.isNone (((Zg3 (k:=(.int .i64)) (v:=(.st 6)) (car:=ZtY) q n).getD (ZoC.mk ([]:Str) (none:Option Nat) (none:Option Nat))).canonical))then (
   some (s,true)
  )else (
   (Zwa s).bind fun q_1=>
   chk (decide (((Zg3 (k:=(.int .i64)) (v:=(.st 6)) (car:=ZtY) q n).getD (ZoC.mk ([]:Str) (none:Option Nat) (none:Option Nat))).canonical=some 188)) <|
   (ZsM q_1).bind fun(q_2,q_3)=>
   some (q_2,q_3)
  )
 )
def ZuD (n:Int) (s:Str):Option (ZnB×Bool):=
 (Zr4 n s).bind fun(t,ok)=>
 bif (!ok)then (
  some ((ZnB.mk (ZnI.mk false ([]:(List Int))) (ZnI.mk false ([]:(List Int)))),false)
 )else (
  (ZuC).bind fun q=>
  chk (decide (((Zg3 (k:=(.int .i64)) (v:=(.st 6)) (car:=ZtY) q n).getD (ZoC.mk ([]:Str) (none:Option Nat) (none:Option Nat))).value=some 187)) <|
  (ZqK t).bind fun(q_1,q_2)=>
  some (q_1,q_2)
 )
def Zpk (c:ZnE):Option (ZnB×Bool):=
 bif c.Null then (
  (Zt4).bind fun q=>
  some (q,false)
 )else (
  (ZuD 4 c.Text).bind fun(q_1,q_2)=>
  some (q_1,q_2)
 )
def Zut (h_:Int):Option Int:=
 some h_
def ZsF (rec_:Str→Int→Int→Int→Option Int) (s:Str) (h_:Int) (t6:Int) (i:Int):Option Int:=
 bif (decide (i < t6))then (
  (idx s i).bind fun c=>
  chk (inK .i64 (i+1)) <|
  rec_ s (IntKind.wrap .u64 ((xorK .u64 h_ (IntKind.wrap .u64 ((c.toNat:Nat):Int)))*1099511628211)) t6 (i+1)
 )else (
  some h_
 )
def ZtB:Nat→Str→Int→Int→Int→Option Int
 |0,_,_,_,_=>none
 |n_+1,s,h_,t6,i=>ZsF (ZtB n_) s h_ t6 i
def Zu8 (n:Nat) (s:(Str×Int×Int×Int)):Option Int:=ZtB n s.1 s.2.1 s.2.2.1 s.2.2.2
def ZtQ (rec_:(Str×Int×Int×Int)→Option Int) (s:(Str×Int×Int×Int)):Option Int:=ZsF (fun s h_ t6 i=>rec_ (s,h_,t6,i)) s.1 s.2.1 s.2.2.1 s.2.2.2
theorem Zwc:∀n s,Zu8 (n+1) s=ZtQ (Zu8 n) s:=fun _ _=>rfl
def Zsh (s:Str):Option Int:=
 (ZtB big s (14695981039346656037:Int) (s.length:Int) (0:Int)).bind fun x0=>Zut x0
def Zqr (t2:Bool):Option Bool:=
 some t2
def ZpF (f:ZnB):Option Bool:=
 (Zsb ([f.Num,f.Den]:(List ZnI))).bind fun q=>
 bif q then (
  bif (decide ((f.Den.Words.length:Int) > 0))then (
   bif (!f.Den.Neg)then (
    (Zpd f.Num.Words f.Den.Words).bind fun q_1=>
    (Zoo q_1 ([1]:List Int)).bind fun q_2=>
    Zqr (q_2 == 0)
   )else (
    Zqr false
   )
  )else (
   Zqr false
  )
 )else (
  Zqr false
 )
def Zn6 (a:ZnI) (b:ZnI):Option ZnI:=
 (ZoS a.Words b.Words).bind fun q=>
 (Zod (!(a.Neg == b.Neg)) q).bind fun q_1=>
 some q_1
def ZrS (out:(List Int)):Option (List Int):=
 (Zn5 out).bind fun q=>
 some q
def Zp1 (rec_:(List Int)→(List Int)→Int→Int→Int→(List Int)→Option (List Int)) (w_:(List Int)) (v_:(List Int)) (borrow:Int) (t12:Int) (i:Int) (out:(List Int)):Option (List Int):=
 bif (decide (i < t12))then (
  (idx w_ i).bind fun w__e=>
  (ZpH v_ i).bind fun q=>
  (Zqo w__e q borrow).bind fun(q_1,borrow_1)=>
  chk (inR i (out.length:Int)) <|
  chk (inK .i64 (i+1)) <|
  rec_ w_ v_ borrow_1 t12 (i+1) (out.set ((i).toNat) q_1)
 )else (
  some out
 )
def ZqB:Nat→(List Int)→(List Int)→Int→Int→Int→(List Int)→Option (List Int)
 |0,_,_,_,_,_,_=>none
 |n_+1,w_,v_,borrow,t12,i,out=>Zp1 (ZqB n_) w_ v_ borrow t12 i out
def ZsT (n:Nat) (s:((List Int)×(List Int)×Int×Int×Int×(List Int))):Option (List Int):=ZqB n s.1 s.2.1 s.2.2.1 s.2.2.2.1 s.2.2.2.2.1 s.2.2.2.2.2
def Zrf (rec_:((List Int)×(List Int)×Int×Int×Int×(List Int))→Option (List Int)) (s:((List Int)×(List Int)×Int×Int×Int×(List Int))):Option (List Int):=Zp1 (fun w_ v_ borrow t12 i out=>rec_ (w_,v_,borrow,t12,i,out)) s.1 s.2.1 s.2.2.1 s.2.2.2.1 s.2.2.2.2.1 s.2.2.2.2.2
theorem ZuM:∀n s,ZsT (n+1) s=Zrf (ZsT n) s:=fun _ _=>rfl
def Zpp (w_:(List Int)) (v_:(List Int)):Option (List Int):=
 chk (mkOk (w_.length:Int) (w_.length:Int) 4) <|
 (ZqB big w_ v_ (0:Int) (w_.length:Int) (0:Int) (List.replicate ((w_.length:Int)).toNat (0:Int))).bind fun x0=>ZrS x0
def Zsy (a:ZnI) (b:ZnI):Option ZnI:=
 bif (a.Neg == b.Neg)then (
  (ZpI a.Words b.Words).bind fun q=>
  (Zod a.Neg q).bind fun q_1=>
  some q_1
 )else (
  (Zoo a.Words b.Words).bind fun q_2=>
  bif (decide (q_2≥0))then (
   (Zpp a.Words b.Words).bind fun q_3=>
   (Zod a.Neg q_3).bind fun q_4=>
   some q_4
  )else (
   (Zpp b.Words a.Words).bind fun q_5=>
   (Zod b.Neg q_5).bind fun q_6=>
   some q_6
  )
 )
def ZtU (a:ZnB) (b:ZnB):Option (ZnI×ZnI):=
 (Zn6 a.Num b.Den).bind fun q=>
 (Zn6 b.Num a.Den).bind fun q_1=>
 (Zsy q q_1).bind fun num=>
 (Zn6 a.Den b.Den).bind fun den=>
 some (num,den)
def Zpl (t18:Bool) (a:ZnB) (b:ZnB) (t6:Bool) (t6_1:Bool) (t6_2:(List Int)) (t6_3:(List Int)):Option (ZnB×Int):=
 bif t18 then (
  some ((ZnB.mk (ZnI.mk false ([]:(List Int))) (ZnI.mk false ([]:(List Int)))),1)
 )else (
  (ZtU a b).bind fun(num,den)=>
  bif ((den.Words.length:Int) == 0)then (
   some ((ZnB.mk (ZnI.mk false ([]:(List Int))) (ZnI.mk false ([]:(List Int)))),8)
  )else (
   (ZoU num den).bind fun f=>
   bif (decide ((if (f.Den.Words.length:Int) > (f.Num.Words.length:Int)then (f.Den.Words.length:Int)else (f.Num.Words.length:Int)) > 256))then (
    some ((ZnB.mk (ZnI.mk false ([]:(List Int))) (ZnI.mk false ([]:(List Int)))),3)
   )else (
    some (f,0)
   )
  )
 )
def Zp4 (a:ZnB) (b:ZnB):Option (ZnB×Int):=
 (ZpF a).bind fun q=>
 bif (!q)then (
  Zpl true a b false false ([]:(List Int)) ([]:(List Int))
 )else (
  (ZpF b).bind fun q_1=>
  Zpl (!q_1) a b false false ([]:(List Int)) ([]:(List Int))
 )
def Ztx (a:ZnB) (b:ZnB):Option (ZnB×Int):=
 (Zp4 a b).bind fun(q,q_1)=>
 some (q,q_1)
def Zt3 (f:ZnB) (a1:Int):Option ZnB:=
 some f
def ZvL (a:ZnB) (b:ZnB):Option ZnB:=
 (Ztx a b).bind fun(q,q_1)=>
 (Zt3 q q_1).bind fun q_2=>
 some q_2
def Ztm (x_:Int) (n:Int):Option Int:=
 (idx ([0,1,2,2,3,3,3,3,4,4,4,4,4,4,4,4,5,5,5,5,5,5,5,5,5,5,5,5,5,5,5,5,6,6,6,6,6,6,6,6,6,6,6,6,6,6,6,6,6,6,6,6,6,6,6,6,6,6,6,6,6,6,6,6,7,7,7,7,7,7,7,7,7,7,7,7,7,7,7,7,7,7,7,7,7,7,7,7,7,7,7,7,7,7,7,7,7,7,7,7,7,7,7,7,7,7,7,7,7,7,7,7,7,7,7,7,7,7,7,7,7,7,7,7,7,7,7,7,8,8,8,8,8,8,8,8,8,8,8,8,8,8,8,8,8,8,8,8,8,8,8,8,8,8,8,8,8,8,8,8,8,8,8,8,8,8,8,8,8,8,8,8,8,8,8,8,8,8,8,8,8,8,8,8,8,8,8,8,8,8,8,8,8,8,8,8,8,8,8,8,8,8,8,8,8,8,8,8,8,8,8,8,8,8,8,8,8,8,8,8,8,8,8,8,8,8,8,8,8,8,8,8,8,8,8,8,8,8,8,8,8,8,8,8,8,8,8,8,8,8,8,8,8,8,8,8]:Str) (IntKind.wrap .u8 x_)).bind fun c=>
 chk (inK .i64 (n+(IntKind.wrap .i64 ((c.toNat:Nat):Int)))) <|
 some (n+(IntKind.wrap .i64 ((c.toNat:Nat):Int)))
def Ztn (x_:Int) (n:Int):Option Int:=
 bif (decide (x_≥256))then (
  chk (decide (0≤(8:Int))) <|
  chk (inK .i64 (n+8)) <|
  Ztm (shrK .u64 x_ 8) (n+8)
 )else (
  Ztm x_ n
 )
def Zto (x_:Int) (n:Int):Option Int:=
 bif (decide (x_≥65536))then (
  chk (decide (0≤(16:Int))) <|
  chk (inK .i64 (n+16)) <|
  Ztn (shrK .u64 x_ 16) (n+16)
 )else (
  Ztn x_ n
 )
def Zt5 (x_:Int):Option Int:=
 bif (decide (x_≥4294967296))then (
  chk (decide (0≤(32:Int))) <|
  Zto (shrK .u64 x_ 32) (32:Int)
 )else (
  Zto x_ (0:Int)
 )
def ZtR (x_:Int):Option Int:=
 (Zt5 x_).bind fun q=>
 some q
def ZrF (x_:Int):Option Bool:=
 some (x_ != x_)
def Zr2 (x_:Int) (y:Int):Option Int:=
 (ZrF x_).bind fun xNaN=>
 (ZrF y).bind fun yNaN=>
 bif xNaN then (
  bif yNaN then (
   some (0:Int)
  )else (
   some (-1:Int)
  )
 )else (
  bif yNaN then (
   some (1:Int)
  )else (
   bif (decide (x_ < y))then (
    some (-1:Int)
   )else (
    bif (decide (x_ > y))then (
     some (1:Int)
    )else (
     some (0:Int)
    )
   )
  )
 )
def ZoZ (a b:Str):Option Int:=
 some (Lib.compareBytes a b)
def Zs9 (a:Str) (b:Str):Option Int:=
 (ZoZ a b).bind fun q=>
 some q
def ZuW (zero:Int):Option Int:=
 some zero
def Zqt (rec_:Int→(List Int)→Int→Int→Option (Out Int Int)) (zero:Int) (t6:(List Int)) (t7:Int) (t8:Int):Option (Out Int Int):=
 bif (decide (t8 < t7))then (
  (idx t6 t8).bind fun val=>
  bif (val != zero)then (
   some (.ret val)
  )else (
   chk (inK .i64 (t8+1)) <|
   rec_ zero t6 t7 (t8+1)
  )
 )else (
  some (.brk zero)
 )
def Zs4:Nat→Int→(List Int)→Int→Int→Option (Out Int Int)
 |0,_,_,_,_=>none
 |n_+1,zero,t6,t7,t8=>Zqt (Zs4 n_) zero t6 t7 t8
def Zul (vals:(List Int)):Option Int:=
 (Zs4 big (0:Int) vals (vals.length:Int) (0:Int)).bind fun
  | .ret q_=>some q_
  | .brk x0=>ZuW x0
def Zqy (a:ZnA) (b:ZnA):Option Int:=
 (Zr2 a.Hash b.Hash).bind fun q=>
 (Zs9 a.Key b.Key).bind fun q_1=>
 (Zul ([q,q_1]:(List Int))).bind fun q_2=>
 some q_2
def Zoy (data:(List ZnA)):Option (List ZnA):=
 some data
def Zoz (rec_:Int→Int→Int→(List ZnA)→Option (List ZnA)) (a:Int) (b:Int) (i:Int) (data:(List ZnA)):Option (List ZnA):=
 chk (inK .i64 (i+1)) <|
 rec_ a b (i+1) data
def Zn2 (rec_:Int→Int→Int→Int→(List ZnA)→Option (Int×Int×Int×(List ZnA))) (a:Int) (b:Int) (i:Int) (j:Int) (t34:Bool) (data:(List ZnA)):Option (Int×Int×Int×(List ZnA)):=
 bif t34 then (
  chk (inK .i64 (j - 1)) <|
  chk (inK .i64 (j - 1)) <|
  chk (inR (j - 1) (data.length:Int)) <|
  (data[((j - 1)).toNat]?).bind fun data_e=>
  chk (inR j (data.length:Int)) <|
  (data[(j).toNat]?).bind fun data_e_1=>
  chk (inR j (data.length:Int)) <|
  chk (inR (j - 1) ((data.set ((j).toNat) data_e).length:Int)) <|
  chk (inK .i64 (j - 1)) <|
  rec_ a b i (j - 1) ((data.set ((j).toNat) data_e).set (((j - 1)).toNat) data_e_1)
 )else (
  some (a,b,i,data)
 )
def Zop (rec_:Int→Int→Int→Int→(List ZnA)→Option (Int×Int×Int×(List ZnA))) (a:Int) (b:Int) (i:Int) (j:Int) (data:(List ZnA)):Option (Int×Int×Int×(List ZnA)):=
 bif (decide (j > a))then (
  chk (inR j (data.length:Int)) <|
  (data[(j).toNat]?).bind fun data_e=>
  chk (inK .i64 (j - 1)) <|
  chk (inR (j - 1) (data.length:Int)) <|
  (data[((j - 1)).toNat]?).bind fun data_e_1=>
  (Zqy data_e data_e_1).bind fun q=>
  Zn2 rec_ a b i j (decide (q < 0)) data
 )else (
  Zn2 rec_ a b i j false data
 )
def ZnQ:Nat→Int→Int→Int→Int→(List ZnA)→Option (Int×Int×Int×(List ZnA))
 |0,_,_,_,_,_=>none
 |n_+1,a,b,i,j,data=>Zop (ZnQ n_) a b i j data
def Zo8 (n:Nat) (s:(Int×Int×Int×Int×(List ZnA))):Option (Int×Int×Int×(List ZnA)):=ZnQ n s.1 s.2.1 s.2.2.1 s.2.2.2.1 s.2.2.2.2
def Zo9 (rec_:(Int×Int×Int×Int×(List ZnA))→Option (Int×Int×Int×(List ZnA))) (s:(Int×Int×Int×Int×(List ZnA))):Option (Int×Int×Int×(List ZnA)):=Zop (fun a b i j data=>rec_ (a,b,i,j,data)) s.1 s.2.1 s.2.2.1 s.2.2.2.1 s.2.2.2.2
theorem Zra:∀n s,Zo8 (n+1) s=Zo9 (Zo8 n) s:=fun _ _=>rfl
def Zoq (rec_:Int→Int→Int→(List ZnA)→Option (List ZnA)) (a:Int) (b:Int) (i:Int) (data:(List ZnA)):Option (List ZnA):=
 bif (decide (i < b))then (
  (ZnQ big a b i i data).bind fun(x0,x1,x2,x3)=>Zoz rec_ x0 x1 x2 x3
 )else (
  some data
 )
def ZnU:Nat→Int→Int→Int→(List ZnA)→Option (List ZnA)
 |0,_,_,_,_=>none
 |n_+1,a,b,i,data=>Zoq (ZnU n_) a b i data
def Zoc (data:(List ZnA)) (a:Int) (b:Int):Option (List ZnA):=
 chk (inK .i64 (a+1)) <|
 (ZnU big a b (a+1) data).bind fun x0=>Zoy x0
def Zn9 (data:(List ZnA)) (a:Int) (b:Int):Option (List ZnA):=
 (Zoc data a b).bind fun r=>chk (decide (r.length=data.length)&&true) (some r)
def ZoG (rec_:Int→Int→Int→Bool→Bool→(List ZnA)→Option (Out Unit (List ZnA))) (a:Int) (b:Int) (limit:Int) (wasBalanced:Bool) (wasPartitioned:Bool) (data:(List ZnA)):Option (Out Unit (List ZnA)):=
 chk (inK .i64 (b - a)) <|
 bif (decide ((b - a)≤12))then (
  (Zn9 data a b).bind fun t26=>
  some (.ret t26)
 )else (
  bif (limit == 0)then (
   none
  )else (
   bif (!wasBalanced)then (
    none
   )else (
    none
   )
  )
 )
def ZoM:Nat→Int→Int→Int→Bool→Bool→(List ZnA)→Option (Out Unit (List ZnA))
 |0,_,_,_,_,_,_=>none
 |n_+1,a,b,limit,wasBalanced,wasPartitioned,data=>ZoG (ZoM n_) a b limit wasBalanced wasPartitioned data
def Zo6 (data:(List ZnA)) (a:Int) (b:Int) (limit:Int):Option (List ZnA):=
 (ZoM big a b limit true true data).bind fun
  | .ret q_=>some q_
  | .brk _=>none
def Zon (data:(List ZnA)) (a:Int) (b:Int) (limit:Int):Option (List ZnA):=
 (Zo6 data a b limit).bind fun r=>chk (decide (r.length=data.length)&&true) (some r)
def Zou (x_:(List ZnA)):Option (List ZnA):=
 (ZtR (IntKind.wrap .u64 (x_.length:Int))).bind fun q=>
 (Zon x_ 0 (x_.length:Int) q).bind fun t7=>
 some t7
def Zn0 (x_:(List ZnA)):Option (List ZnA):=
 (Zou x_).bind fun r=>chk (decide (r.length=x_.length)&&true) (some r)
def Zus (out:(List ZnA)):Option (List ZnA):=
 (Zn0 out).bind fun t82=>
 some t82
def Zsp (rec_:(List ZnE)→Int→Int→ZnL→(List (Str×Int))→(List ZnA)→Option (List ZnA)) (t15:(List ZnE)) (t16:Int) (i:Int) (value:ZnL) (at_:(List (Str×Int))) (out:(List ZnA)):Option (List ZnA):=
 chk (inK .i64 (i+1)) <|
 rec_ t15 t16 (i+1) value at_ out
def Zsq (rec_:(List ZnE)→Int→Int→ZnL→(List (Str×Int))→(List ZnA)→Option (List ZnA)) (n:Int) (t15:(List ZnE)) (t16:Int) (i:Int) (value:ZnL) (at_:(List (Str×Int))) (out:(List ZnA)) (v_:ZnB):Option (List ZnA):=
 chk (inR n (out.length:Int)) <|
 (out[(n).toNat]?).bind fun out_e=>
 chk (inK .i64 (out_e.Count+1)) <|
 chk (inR n (out.length:Int)) <|
 (out[(n).toNat]?).bind fun el=>
 chk (inR n ((out.set ((n).toNat) (ZnA.mk el.Key el.Hash (out_e.Count+1) el.Sum)).length:Int)) <|
 ((out.set ((n).toNat) (ZnA.mk el.Key el.Hash (out_e.Count+1) el.Sum))[(n).toNat]?).bind fun Sum_e=>
 (ZvL Sum_e.Sum v_).bind fun q=>
 chk (inR n ((out.set ((n).toNat) (ZnA.mk el.Key el.Hash (out_e.Count+1) el.Sum)).length:Int)) <|
 ((out.set ((n).toNat) (ZnA.mk el.Key el.Hash (out_e.Count+1) el.Sum))[(n).toNat]?).bind fun el_1=>
 Zsp rec_ t15 t16 i value at_ ((out.set ((n).toNat) (ZnA.mk el.Key el.Hash (out_e.Count+1) el.Sum)).set ((n).toNat) (ZnA.mk el_1.Key el_1.Hash el_1.Count q))
def ZqP (rec_:(List ZnE)→Int→Int→ZnL→(List (Str×Int))→(List ZnA)→Option (List ZnA)) (t15:(List ZnE)) (t16:Int) (i:Int) (t36:Bool) (value:ZnL) (at_:(List (Str×Int))) (out:(List ZnA)) (k:ZnE) (v_:ZnB):Option (List ZnA):=
 bif t36 then (
  Zsp rec_ t15 t16 i value at_ out
 )else (
  bif (!(Zg3 (k:= .str) (v:=(.int .i64)) (car:=ZtY) at_ k.Text).isSome)then (
   (Zsh k.Text).bind fun q=>
   (Zt4).bind fun q_1=>
   chk (ZiZ (out.length+([(ZnA.mk k.Text q 0 q_1)]:(List ZnA)).length) 96) <|
   Zsq rec_ (out.length:Int) t15 t16 i value (setB (k:= .str) (v:=(.int .i64)) (car:=ZtY) at_ k.Text (out.length:Int)) (out++([(ZnA.mk k.Text q 0 q_1)]:(List ZnA))) v_
  )else (
   Zsq rec_ ((Zg3 (k:= .str) (v:=(.int .i64)) (car:=ZtY) at_ k.Text).getD (0:Int)) t15 t16 i value at_ out v_
  )
 )
def ZsE (rec_:(List ZnE)→Int→Int→ZnL→(List (Str×Int))→(List ZnA)→Option (List ZnA)) (t15:(List ZnE)) (t16:Int) (i:Int) (value:ZnL) (at_:(List (Str×Int))) (out:(List ZnA)):Option (List ZnA):=
 bif (decide (i < t16))then (
  (idx t15 i).bind fun k=>
  (idx value.Cells i).bind fun Cell=>
  (Zpk Cell).bind fun(v_,ok)=>
  bif k.Null then (
   ZqP rec_ t15 t16 i true value at_ out k v_
  )else (
   ZqP rec_ t15 t16 i (!ok) value at_ out k v_
  )
 )else (
  some out
 )
def Zp7:Nat→(List ZnE)→Int→Int→ZnL→(List (Str×Int))→(List ZnA)→Option (List ZnA)
 |0,_,_,_,_,_,_=>none
 |n_+1,t15,t16,i,value,at_,out=>ZsE (Zp7 n_) t15 t16 i value at_ out
def Zu7 (n:Nat) (s:((List ZnE)×Int×Int×ZnL×(List (Str×Int))×(List ZnA))):Option (List ZnA):=Zp7 n s.1 s.2.1 s.2.2.1 s.2.2.2.1 s.2.2.2.2.1 s.2.2.2.2.2
def ZtO (rec_:((List ZnE)×Int×Int×ZnL×(List (Str×Int))×(List ZnA))→Option (List ZnA)) (s:((List ZnE)×Int×Int×ZnL×(List (Str×Int))×(List ZnA))):Option (List ZnA):=ZsE (fun t15 t16 i value at_ out=>rec_ (t15,t16,i,value,at_,out)) s.1 s.2.1 s.2.2.1 s.2.2.2.1 s.2.2.2.2.1 s.2.2.2.2.2
theorem Zwb:∀n s,Zu7 (n+1) s=ZtO (Zu7 n) s:=fun _ _=>rfl
def ZtP (key:ZnL) (value:ZnL):Option (List ZnA):=
 (Zp7 big key.Cells (key.Cells.length:Int) (0:Int) value ([]:(List (Str×Int))) ([]:(List ZnA))).bind fun x0=>Zus x0
def Ztz (k:Int) (t17:Bool) (key:ZnL) (value:ZnL) (t6:Int) (t6_1:Bool) (t6_2:(List ZnA)):Option (ZnF×Int):=
 bif t17 then (
  some ((ZnF.mk 0 false ([]:(List ZnA))),1)
 )else (
  (ZtP key value).bind fun l=>
  chk (Zb9 0 (if (l.length:Int) < k then (l.length:Int)else k) (l.length:Int)) <|
  some ((ZnF.mk k (decide ((l.length:Int)≤k)) ((l.drop 0).take (((if (l.length:Int) < k then (l.length:Int)else k)).toNat - 0))),0)
 )
def ZtA (k:Int) (t9:Bool) (key:ZnL) (value:ZnL) (t6:Int) (t6_1:Bool) (t6_2:(List ZnA)):Option (ZnF×Int):=
 bif t9 then (
  some ((ZnF.mk 0 false ([]:(List ZnA))),2)
 )else (
  bif ((key.Cells.length:Int) != (value.Cells.length:Int))then (
   Ztz k true key value t6 t6_1 t6_2
  )else (
   Ztz k (decide ((key.Cells.length:Int) > 4096)) key value t6 t6_1 t6_2
  )
 )
def Zrz (key:ZnL) (value:ZnL) (k:Int):Option (ZnF×Int):=
 bif (decide (k < 1))then (
  ZtA k true key value (0:Int) false ([]:(List ZnA))
 )else (
  ZtA k (decide (k > 256)) key value (0:Int) false ([]:(List ZnA))
 )
def Zt1:Option Bool:=
 some true
def Zqm (rec_:(List ZnA)→Int→Int→ZnF→Option (Out Unit Bool)) (t35:(List ZnA)) (t36:Int) (i:Int) (t73:Bool) (s:ZnF):Option (Out Unit Bool):=
 bif t73 then (
  some (.ret false)
 )else (
  chk (inK .i64 (i+1)) <|
  rec_ t35 t36 (i+1) s
 )
def Zsf (rec_:(List ZnA)→Int→Int→ZnF→Option (Out Unit Bool)) (t35:(List ZnA)) (t36:Int) (i:Int) (s:ZnF):Option (Out Unit Bool):=
 bif (decide (i < t36))then (
  (idx t35 i).bind fun e=>
  (Zsh e.Key).bind fun q=>
  bif (e.Hash != q)then (
   Zqm rec_ t35 t36 i true s
  )else (
   bif (decide (e.Count < 1))then (
    Zqm rec_ t35 t36 i true s
   )else (
    (ZpF e.Sum).bind fun q_1=>
    bif (!q_1)then (
     Zqm rec_ t35 t36 i true s
    )else (
     bif (decide (i > 0))then (
      chk (inK .i64 (i - 1)) <|
      (idx s.Entries (i - 1)).bind fun Entrie=>
      (Zqy Entrie e).bind fun q_2=>
      Zqm rec_ t35 t36 i (decide (q_2≥0)) s
     )else (
      Zqm rec_ t35 t36 i false s
     )
    )
   )
  )
 )else (
  some (.brk ())
 )
def Zq0:Nat→(List ZnA)→Int→Int→ZnF→Option (Out Unit Bool)
 |0,_,_,_,_=>none
 |n_+1,t35,t36,i,s=>Zsf (Zq0 n_) t35 t36 i s
def ZuQ (n:Nat) (s:((List ZnA)×Int×Int×ZnF)):Option (Out Unit Bool):=Zq0 n s.1 s.2.1 s.2.2.1 s.2.2.2
def ZtF (rec_:((List ZnA)×Int×Int×ZnF)→Option (Out Unit Bool)) (s:((List ZnA)×Int×Int×ZnF)):Option (Out Unit Bool):=Zsf (fun t35 t36 i s=>rec_ (t35,t36,i,s)) s.1 s.2.1 s.2.2.1 s.2.2.2
theorem ZvX:∀n s,ZuQ (n+1) s=ZtF (ZuQ n) s:=fun _ _=>rfl
def Zqn (t33:Bool) (s:ZnF):Option Bool:=
 bif t33 then (
  some false
 )else (
  (Zq0 big s.Entries (s.Entries.length:Int) (0:Int) s).bind fun
   | .ret q_=>some q_
   | .brk ()=>Zt1
 )
def Zsx (s:ZnF):Option Bool:=
 bif (decide (s.K < 1))then (
  Zqn true s
 )else (
  bif (decide (s.K > 256))then (
   Zqn true s
  )else (
   bif (decide ((s.Entries.length:Int) > s.K))then (
    Zqn true s
   )else (
    bif (!s.All)then (
     Zqn (decide ((s.Entries.length:Int) < s.K)) s
    )else (
     Zqn false s
    )
   )
  )
 )
def Zth (w_:(List Int)):Option (List Int):=
 some w_
def Zrp (rec_:(List Int)→Option (List Int)) (w_:(List Int)) (t14:Bool):Option (List Int):=
 bif t14 then (
  chk (inK .i64 ((w_.length:Int) - 1)) <|
  chk (Zb9 0 ((w_.length:Int) - 1) (w_.length:Int)) <|
  rec_ (w_.take (((w_.length:Int) - 1)).toNat)
 )else (
  some w_
 )
def ZsB (rec_:(List Int)→Option (List Int)) (w_:(List Int)):Option (List Int):=
 bif (decide ((w_.length:Int) > 0))then (
  chk (inK .i64 ((w_.length:Int) - 1)) <|
  (idx w_ ((w_.length:Int) - 1)).bind fun w__e=>
  Zrp rec_ w_ (w__e == 0)
 )else (
  Zrp rec_ w_ false
 )
def Zor:Nat→(List Int)→Option (List Int)
 |0,_=>none
 |n_+1,w_=>ZsB (Zor n_) w_
def Zn8 (w_:(List Int)):Option (List Int):=
 (Zor big w_).bind fun x0=>Zth x0
def Zqx (t4:ZnI):Option ZnI:=
 some t4
def ZoA (neg:Bool) (w_:(List Int)):Option ZnI:=
 (Zn8 w_).bind fun w__1=>
 bif neg then (
  Zqx (ZnI.mk (decide ((w__1.length:Int) > 0)) w__1)
 )else (
  Zqx (ZnI.mk false w__1)
 )
def Zpz (n:Int) (u:Int) (t2:Bool) (t2_1:(List Int)):Option ZnI:=
 chk (decide (0≤(32:Int))) <|
 (ZoA (decide (n < 0)) ([(IntKind.wrap .u32 u),(IntKind.wrap .u32 (shrK .u64 u 32))]:(List Int))).bind fun q=>
 some q
def Zos (n:Int):Option ZnI:=
 bif (decide (n < 0))then (
  Zpz n (IntKind.wrap .u64 (0 - (IntKind.wrap .u64 n))) false ([]:(List Int))
 )else (
  Zpz n (IntKind.wrap .u64 n) false ([]:(List Int))
 )
def Zoa (t2:Bool):Option Bool:=
 some t2
def Zo4 (a:ZnI):Option Bool:=
 bif (decide ((a.Words.length:Int)≤256))then (
  bif ((a.Words.length:Int) == 0)then (
   bif (!a.Neg)then (
    Zoa true
   )else (
    bif (decide ((a.Words.length:Int) > 0))then (
     chk (inK .i64 ((a.Words.length:Int) - 1)) <|
     (idx a.Words ((a.Words.length:Int) - 1)).bind fun Word=>
     Zoa (Word != 0)
    )else (
     Zoa false
    )
   )
  )else (
   bif (decide ((a.Words.length:Int) > 0))then (
    chk (inK .i64 ((a.Words.length:Int) - 1)) <|
    (idx a.Words ((a.Words.length:Int) - 1)).bind fun Word_1=>
    Zoa (Word_1 != 0)
   )else (
    Zoa false
   )
  )
 )else (
  Zoa false
 )
def Zrq (out:(List Int)):Option (List Int):=
 (Zn8 out).bind fun q=>
 some q
def Zpg (rec_:(List Int)→Int→Int→(List Int)→Option (List Int)) (a:(List Int)) (t9:Int) (i:Int) (out:(List Int)):Option (List Int):=
 chk (inK .i64 (i+1)) <|
 rec_ a t9 (i+1) out
def ZpM (rec_:(List Int)→Int→Int→(List Int)→Option (List Int)) (a:(List Int)) (t9:Int) (i:Int) (out:(List Int)):Option (List Int):=
 bif (decide (i < t9))then (
  chk (inR i (out.length:Int)) <|
  (out[(i).toNat]?).bind fun out_e=>
  chk (decide (0≤(1:Int))) <|
  chk (inR i (out.length:Int)) <|
  chk (inK .i64 (i+1)) <|
  bif (decide ((i+1) < (a.length:Int)))then (
   chk (inR i ((out.set ((i).toNat) (shrK .u32 out_e 1)).length:Int)) <|
   ((out.set ((i).toNat) (shrK .u32 out_e 1))[(i).toNat]?).bind fun e_e=>
   chk (inK .i64 (i+1)) <|
   (idx a (i+1)).bind fun a_e=>
   chk (decide (0≤(31:Int))) <|
   chk (inR i ((out.set ((i).toNat) (shrK .u32 out_e 1)).length:Int)) <|
   Zpg rec_ a t9 i ((out.set ((i).toNat) (shrK .u32 out_e 1)).set ((i).toNat) (orK .u32 e_e (shlK .u32 a_e 31)))
  )else (
   Zpg rec_ a t9 i (out.set ((i).toNat) (shrK .u32 out_e 1))
  )
 )else (
  some out
 )
def Zpf:Nat→(List Int)→Int→Int→(List Int)→Option (List Int)
 |0,_,_,_,_=>none
 |n_+1,a,t9,i,out=>ZpM (Zpf n_) a t9 i out
def ZsC (n:Nat) (s:((List Int)×Int×Int×(List Int))):Option (List Int):=Zpf n s.1 s.2.1 s.2.2.1 s.2.2.2
def ZqU (rec_:((List Int)×Int×Int×(List Int))→Option (List Int)) (s:((List Int)×Int×Int×(List Int))):Option (List Int):=ZpM (fun a t9 i out=>rec_ (a,t9,i,out)) s.1 s.2.1 s.2.2.1 s.2.2.2
theorem Zuq:∀n s,ZsC (n+1) s=ZqU (ZsC n) s:=fun _ _=>rfl
def Zox (a:(List Int)):Option (List Int):=
 chk (ZiZ (([]:(List Int)).length+a.length) 4) <|
 (Zpf big a ((([]:(List Int))++a).length:Int) (0:Int) (([]:(List Int))++a)).bind fun x0=>Zrq x0
def ZrO:Option Int:=
 some (0:Int)
def ZpT (rec_:(List Int)→(List Int)→Int→Option (Out Unit Int)) (a:(List Int)) (b:(List Int)) (i:Int):Option (Out Unit Int):=
 bif (decide (i≥0))then (
  (idx a i).bind fun a_e=>
  (idx b i).bind fun b_e=>
  bif (decide (a_e < b_e))then (
   some (.ret (-1:Int))
  )else (
   (idx a i).bind fun a_e_1=>
   (idx b i).bind fun b_e_1=>
   bif (decide (a_e_1 > b_e_1))then (
    some (.ret (1:Int))
   )else (
    chk (inK .i64 (i - 1)) <|
    rec_ a b (i - 1)
   )
  )
 )else (
  some (.brk ())
 )
def Zqw:Nat→(List Int)→(List Int)→Int→Option (Out Unit Int)
 |0,_,_,_=>none
 |n_+1,a,b,i=>ZpT (Zqw n_) a b i
def ZsP (n:Nat) (s:((List Int)×(List Int)×Int)):Option (Out Unit Int):=Zqw n s.1 s.2.1 s.2.2
def Zq8 (rec_:((List Int)×(List Int)×Int)→Option (Out Unit Int)) (s:((List Int)×(List Int)×Int)):Option (Out Unit Int):=ZpT (fun a b i=>rec_ (a,b,i)) s.1 s.2.1 s.2.2
theorem ZuG:∀n s,ZsP (n+1) s=Zq8 (ZsP n) s:=fun _ _=>rfl
def Zpo (a:(List Int)) (b:(List Int)):Option Int:=
 bif ((a.length:Int) != (b.length:Int))then (
  bif (decide ((a.length:Int) < (b.length:Int)))then (
   some (-1:Int)
  )else (
   some (1:Int)
  )
 )else (
  chk (inK .i64 ((a.length:Int) - 1)) <|
  (Zqw big a b ((a.length:Int) - 1)).bind fun
   | .ret q_=>some q_
   | .brk ()=>ZrO
 )
def ZrH (out:(List Int)):Option (List Int):=
 (Zn8 out).bind fun q=>
 some q
def Zpr (rec_:(List Int)→(List Int)→Int→Int→(List Int)→Option (List Int)) (a:(List Int)) (b:(List Int)) (c:Int) (i:Int) (out:(List Int)):Option (List Int):=
 chk (ZiZ (out.length+([(IntKind.wrap .u32 c)]:(List Int)).length) 4) <|
 chk (decide (0≤(32:Int))) <|
 chk (inK .i64 (i+1)) <|
 rec_ a b (shrK .i64 c 32) (i+1) (out++([(IntKind.wrap .u32 c)]:(List Int)))
def ZpR (rec_:(List Int)→(List Int)→Int→Int→(List Int)→Option (List Int)) (a:(List Int)) (b:(List Int)) (c:Int) (i:Int) (out:(List Int)):Option (List Int):=
 bif (decide (i < (a.length:Int)))then (
  (idx a i).bind fun a_e=>
  chk (inK .i64 (c+(IntKind.wrap .i64 a_e))) <|
  bif (decide (i < (b.length:Int)))then (
   (idx b i).bind fun b_e=>
   chk (inK .i64 ((c+(IntKind.wrap .i64 a_e)) - (IntKind.wrap .i64 b_e))) <|
   Zpr rec_ a b ((c+(IntKind.wrap .i64 a_e)) - (IntKind.wrap .i64 b_e)) i out
  )else (
   Zpr rec_ a b (c+(IntKind.wrap .i64 a_e)) i out
  )
 )else (
  some out
 )
def Zpq:Nat→(List Int)→(List Int)→Int→Int→(List Int)→Option (List Int)
 |0,_,_,_,_,_=>none
 |n_+1,a,b,c,i,out=>ZpR (Zpq n_) a b c i out
def ZsN (n:Nat) (s:((List Int)×(List Int)×Int×Int×(List Int))):Option (List Int):=Zpq n s.1 s.2.1 s.2.2.1 s.2.2.2.1 s.2.2.2.2
def Zq4 (rec_:((List Int)×(List Int)×Int×Int×(List Int))→Option (List Int)) (s:((List Int)×(List Int)×Int×Int×(List Int))):Option (List Int):=ZpR (fun a b c i out=>rec_ (a,b,c,i,out)) s.1 s.2.1 s.2.2.1 s.2.2.2.1 s.2.2.2.2
theorem ZuE:∀n s,ZsN (n+1) s=Zq4 (ZsN n) s:=fun _ _=>rfl
def Zpm (a:(List Int)) (b:(List Int)):Option (List Int):=
 (Zpq big a b (0:Int) (0:Int) ([]:(List Int))).bind fun x0=>ZrH x0
def Zq3 (d:Int) (out:(List Int)):Option (List Int):=
 chk (ZiZ (out.length+([d]:(List Int)).length) 4) <|
 (Zn8 (out++([d]:(List Int)))).bind fun q=>
 some q
def Zpy (rec_:(List Int)→Int→Int→(List Int)→Option (Int×(List Int))) (a:(List Int)) (d:Int) (i:Int) (out:(List Int)):Option (Int×(List Int)):=
 bif (decide (i < (a.length:Int)))then (
  (idx a i).bind fun a_e=>
  chk (decide (0≤(1:Int))) <|
  chk (ZiZ (out.length+([(orK .u32 (shlK .u32 a_e 1) d)]:(List Int)).length) 4) <|
  (idx a i).bind fun a_e_1=>
  chk (decide (0≤(31:Int))) <|
  chk (inK .i64 (i+1)) <|
  rec_ a (shrK .u32 a_e_1 31) (i+1) (out++([(orK .u32 (shlK .u32 a_e 1) d)]:(List Int)))
 )else (
  some (d,out)
 )
def ZpQ:Nat→(List Int)→Int→Int→(List Int)→Option (Int×(List Int))
 |0,_,_,_,_=>none
 |n_+1,a,d,i,out=>Zpy (ZpQ n_) a d i out
def Zsn (n:Nat) (s:((List Int)×Int×Int×(List Int))):Option (Int×(List Int)):=ZpQ n s.1 s.2.1 s.2.2.1 s.2.2.2
def ZqN (rec_:((List Int)×Int×Int×(List Int))→Option (Int×(List Int))) (s:((List Int)×Int×Int×(List Int))):Option (Int×(List Int)):=Zpy (fun a d i out=>rec_ (a,d,i,out)) s.1 s.2.1 s.2.2.1 s.2.2.2
theorem Zuc:∀n s,Zsn (n+1) s=ZqN (Zsn n) s:=fun _ _=>rfl
def ZoV (a:(List Int)) (d:Int):Option (List Int):=
 (ZpQ big a d (0:Int) ([]:(List Int))).bind fun(x0,x1)=>Zq3 x0 x1
def ZrI (a:(List Int)):Option (List Int):=
 some a
def Zo1 (rec_:(List Int)→Int→Option (List Int)) (a:(List Int)) (k:Int):Option (List Int):=
 bif (decide (k > 0))then (
  (ZoV a 0).bind fun a_1=>
  chk (inK .i64 (k - 1)) <|
  rec_ a_1 (k - 1)
 )else (
  some a
 )
def ZoP:Nat→(List Int)→Int→Option (List Int)
 |0,_,_=>none
 |n_+1,a,k=>Zo1 (ZoP n_) a k
def ZrJ (a:(List Int)) (k:Int):Option (List Int):=
 (ZoP big a k).bind fun x0=>ZrI x0
def Zqu (rec_:(List Int)→(List Int)→Int→Option ((List Int)×Int)) (a:(List Int)) (b:(List Int)) (k:Int):Option ((List Int)×Int):=
 (Zpm b a).bind fun b_1=>
 rec_ a b_1 k
def ZrK (rec_:(List Int)→(List Int)→Int→Option ((List Int)×Int)) (a:(List Int)) (b:(List Int)) (k:Int):Option ((List Int)×Int):=
 (Zpo a b).bind fun q=>
 bif (decide (q > 0))then (
  Zqu rec_ b a k
 )else (
  Zqu rec_ a b k
 )
def Zq5 (rec_:(List Int)→(List Int)→Int→Option ((List Int)×(List Int)×Int)) (a:(List Int)) (b:(List Int)) (k:Int):Option ((List Int)×(List Int)×Int):=
 (idx b 0).bind fun b_e=>
 bif ((andK .u32 b_e 1) == 0)then (
  (Zox b).bind fun b_1=>
  rec_ a b_1 k
 )else (
  some (a,b,k)
 )
def Zoi:Nat→(List Int)→(List Int)→Int→Option ((List Int)×(List Int)×Int)
 |0,_,_,_=>none
 |n_+1,a,b,k=>Zq5 (Zoi n_) a b k
def ZrL (rec_:(List Int)→(List Int)→Int→Option ((List Int)×Int)) (a:(List Int)) (b:(List Int)) (k:Int):Option ((List Int)×Int):=
 (Zoi big a b k).bind fun(x0,x1,x2)=>ZrK rec_ x0 x1 x2
def Zo2 (rec_:(List Int)→(List Int)→Int→Option ((List Int)×(List Int)×Int)) (a:(List Int)) (b:(List Int)) (k:Int):Option ((List Int)×(List Int)×Int):=
 (idx a 0).bind fun a_e=>
 bif ((andK .u32 a_e 1) == 0)then (
  (Zox a).bind fun a_1=>
  rec_ a_1 b k
 )else (
  some (a,b,k)
 )
def Zoj:Nat→(List Int)→(List Int)→Int→Option ((List Int)×(List Int)×Int)
 |0,_,_,_=>none
 |n_+1,a,b,k=>Zo2 (Zoj n_) a b k
def Zo3 (rec_:(List Int)→(List Int)→Int→Option ((List Int)×Int)) (a:(List Int)) (b:(List Int)) (k:Int):Option ((List Int)×Int):=
 bif (decide ((b.length:Int) > 0))then (
  (Zoj big a b k).bind fun(x0,x1,x2)=>ZrL rec_ x0 x1 x2
 )else (
  some (a,k)
 )
def ZnV:Nat→(List Int)→(List Int)→Int→Option ((List Int)×Int)
 |0,_,_,_=>none
 |n_+1,a,b,k=>Zo3 (ZnV n_) a b k
def ZrM (a:(List Int)) (b:(List Int)) (k:Int):Option (List Int):=
 (ZnV big a b k).bind fun(x0,x1)=>ZrJ x0 x1
def Zqv (rec_:(List Int)→(List Int)→Int→Option ((List Int)×(List Int)×Int)) (a:(List Int)) (b:(List Int)) (k:Int) (t17:Bool):Option ((List Int)×(List Int)×Int):=
 bif t17 then (
  (Zox a).bind fun a_1=>
  (Zox b).bind fun b_1=>
  chk (inK .i64 (k+1)) <|
  rec_ a_1 b_1 (k+1)
 )else (
  some (a,b,k)
 )
def Zq6 (rec_:(List Int)→(List Int)→Int→Option ((List Int)×(List Int)×Int)) (a:(List Int)) (b:(List Int)) (k:Int):Option ((List Int)×(List Int)×Int):=
 (idx a 0).bind fun a_e=>
 bif ((andK .u32 a_e 1) == 0)then (
  (idx b 0).bind fun b_e=>
  Zqv rec_ a b k ((andK .u32 b_e 1) == 0)
 )else (
  Zqv rec_ a b k false
 )
def ZoQ:Nat→(List Int)→(List Int)→Int→Option ((List Int)×(List Int)×Int)
 |0,_,_,_=>none
 |n_+1,a,b,k=>Zq6 (ZoQ n_) a b k
def Zqi (a:(List Int)) (b:(List Int)):Option (List Int):=
 (ZoQ big a b (0:Int)).bind fun(x0,x1,x2)=>ZrM x0 x1 x2
def Zqj (a:(List Int)) (i:Int):Option Int:=
 chk (decide ((32:Int)≠0)) <|
 chk (inK .i64 (Int.tdiv i 32)) <|
 (idx a (Int.tdiv i 32)).bind fun a_e=>
 chk (decide ((32:Int)≠0)) <|
 chk (decide (0≤(IntKind.wrap .u64 (Int.tmod i 32)))) <|
 some (andK .u32 (shrK .u32 a_e (IntKind.wrap .u64 (Int.tmod i 32))) 1)
def ZrN (r_:(List Int)) (q:(List Int)):Option ((List Int)×(List Int)):=
 (Zn8 q).bind fun q_1=>
 some (q_1,r_)
def Zpu (rec_:(List Int)→(List Int)→(List Int)→Int→(List Int)→Option ((List Int)×(List Int))) (a:(List Int)) (b:(List Int)) (r_:(List Int)) (i:Int) (q:(List Int)):Option ((List Int)×(List Int)):=
 chk (inK .i64 (i - 1)) <|
 rec_ a b r_ (i - 1) q
def ZpS (rec_:(List Int)→(List Int)→(List Int)→Int→(List Int)→Option ((List Int)×(List Int))) (a:(List Int)) (b:(List Int)) (r_:(List Int)) (i:Int) (q:(List Int)):Option ((List Int)×(List Int)):=
 bif (decide (i≥0))then (
  (Zqj a i).bind fun q_1=>
  (ZoV r_ q_1).bind fun r__1=>
  (Zpo r__1 b).bind fun q_2=>
  bif (decide (q_2≥0))then (
   (Zpm r__1 b).bind fun r__2=>
   chk (decide ((32:Int)≠0)) <|
   chk (inK .i64 (Int.tdiv i 32)) <|
   chk (inR (Int.tdiv i 32) (q.length:Int)) <|
   (q[((Int.tdiv i 32)).toNat]?).bind fun q_e=>
   chk (decide ((32:Int)≠0)) <|
   chk (decide (0≤(IntKind.wrap .u64 (Int.tmod i 32)))) <|
   chk (inR (Int.tdiv i 32) (q.length:Int)) <|
   Zpu rec_ a b r__2 i (q.set (((Int.tdiv i 32)).toNat) (orK .u32 q_e (shlK .u32 1 (IntKind.wrap .u64 (Int.tmod i 32)))))
  )else (
   Zpu rec_ a b r__1 i q
  )
 )else (
  some (r_,q)
 )
def Zpt:Nat→(List Int)→(List Int)→(List Int)→Int→(List Int)→Option ((List Int)×(List Int))
 |0,_,_,_,_,_=>none
 |n_+1,a,b,r_,i,q=>ZpS (Zpt n_) a b r_ i q
def ZsO (n:Nat) (s:((List Int)×(List Int)×(List Int)×Int×(List Int))):Option ((List Int)×(List Int)):=Zpt n s.1 s.2.1 s.2.2.1 s.2.2.2.1 s.2.2.2.2
def Zq7 (rec_:((List Int)×(List Int)×(List Int)×Int×(List Int))→Option ((List Int)×(List Int))) (s:((List Int)×(List Int)×(List Int)×Int×(List Int))):Option ((List Int)×(List Int)):=ZpS (fun a b r_ i q=>rec_ (a,b,r_,i,q)) s.1 s.2.1 s.2.2.1 s.2.2.2.1 s.2.2.2.2
theorem ZuF:∀n s,ZsO (n+1) s=Zq7 (ZsO n) s:=fun _ _=>rfl
def Zpn (a:(List Int)) (b:(List Int)):Option ((List Int)×(List Int)):=
 chk (mkOk (a.length:Int) (a.length:Int) 4) <|
 chk (inK .i64 (32*(a.length:Int))) <|
 chk (inK .i64 ((32*(a.length:Int)) - 1)) <|
 (Zpt big a b ([]:(List Int)) ((32*(a.length:Int)) - 1) (List.replicate ((a.length:Int)).toNat (0:Int))).bind fun(x0,x1)=>ZrN x0 x1
def Zps (num:ZnI) (den:ZnI):Option ZnB:=
 bif ((num.Words.length:Int) == 0)then (
  (Zos 1).bind fun q=>
  some (ZnB.mk (ZnI.mk false ([]:(List Int))) q)
 )else (
  (Zqi num.Words den.Words).bind fun g=>
  (Zpn num.Words g).bind fun(x_,q_1)=>
  (Zpn den.Words g).bind fun(y,q_2)=>
  (ZoA (!(num.Neg == den.Neg)) x_).bind fun q_3=>
  (ZoA false y).bind fun q_4=>
  some (ZnB.mk q_3 q_4)
 )
def Zqc (t13:Bool) (num:ZnI) (den:ZnI) (t4:Bool) (t4_1:Bool) (t4_2:(List Int)) (t4_3:(List Int)):Option (ZnB×Int):=
 bif t13 then (
  some ((ZnB.mk (ZnI.mk false ([]:(List Int))) (ZnI.mk false ([]:(List Int)))),1)
 )else (
  bif ((den.Words.length:Int) == 0)then (
   some ((ZnB.mk (ZnI.mk false ([]:(List Int))) (ZnI.mk false ([]:(List Int)))),8)
  )else (
   (Zps num den).bind fun q=>
   some (q,0)
  )
 )
def ZpU (num:ZnI) (den:ZnI):Option (ZnB×Int):=
 (Zo4 num).bind fun q=>
 bif (!q)then (
  Zqc true num den false false ([]:(List Int)) ([]:(List Int))
 )else (
  (Zo4 den).bind fun q_1=>
  Zqc (!q_1) num den false false ([]:(List Int)) ([]:(List Int))
 )
def ZqC (num:Int) (den:Int):Option (ZnB×Int):=
 (Zos num).bind fun q=>
 (Zos den).bind fun q_1=>
 (ZpU q q_1).bind fun(q_2,q_3)=>
 some (q_2,q_3)
def ZpP (n:Int) (d:Int):Option ZnB:=
 (ZqC n d).bind fun(f,q)=>
 some f
def Zqh (n:Int):Option ZnB:=
 (ZpP n 1).bind fun q=>
 some q
def ZqM:Option Bool:=
 some true
def Zpb (rec_:(List Int)→Int→Int→ZnI→Option (Out Unit Bool)) (t22:(List Int)) (t23:Int) (i:Int) (b:ZnI):Option (Out Unit Bool):=
 bif (decide (i < t23))then (
  (idx t22 i).bind fun w_=>
  (idx b.Words i).bind fun Word=>
  bif (Word != w_)then (
   some (.ret false)
  )else (
   chk (inK .i64 (i+1)) <|
   rec_ t22 t23 (i+1) b
  )
 )else (
  some (.brk ())
 )
def Zpw:Nat→(List Int)→Int→Int→ZnI→Option (Out Unit Bool)
 |0,_,_,_,_=>none
 |n_+1,t22,t23,i,b=>Zpb (Zpw n_) t22 t23 i b
def Zr5 (n:Nat) (s:((List Int)×Int×Int×ZnI)):Option (Out Unit Bool):=Zpw n s.1 s.2.1 s.2.2.1 s.2.2.2
def Zql (rec_:((List Int)×Int×Int×ZnI)→Option (Out Unit Bool)) (s:((List Int)×Int×Int×ZnI)):Option (Out Unit Bool):=Zpb (fun t22 t23 i b=>rec_ (t22,t23,i,b)) s.1 s.2.1 s.2.2.1 s.2.2.2
theorem Zt0:∀n s,Zr5 (n+1) s=Zql (Zr5 n) s:=fun _ _=>rfl
def Zpx (t20:Bool) (a:ZnI) (b:ZnI):Option Bool:=
 bif t20 then (
  some false
 )else (
  (Zpw big a.Words (a.Words.length:Int) (0:Int) b).bind fun
   | .ret q_=>some q_
   | .brk ()=>ZqM
 )
def ZoK (a:ZnI) (b:ZnI):Option Bool:=
 bif (!(a.Neg == b.Neg))then (
  Zpx true a b
 )else (
  Zpx ((a.Words.length:Int) != (b.Words.length:Int)) a b
 )
def Zqb (t4:Bool):Option Bool:=
 some t4
def ZoL (a:ZnB) (b:ZnB):Option Bool:=
 (ZoK a.Num b.Num).bind fun q=>
 bif q then (
  (ZoK a.Den b.Den).bind fun q_1=>
  Zqb q_1
 )else (
  Zqb false
 )
def Zq9:Option Bool:=
 (Zsh ([]:Str)).bind fun q=>
 some (q == 14695981039346656037)
def Zo5 (rec_:(List ZnA)→Int→Int→Option (Out Unit Bool)) (t42:(List ZnA)) (t43:Int) (t44:Int) (t62:Bool):Option (Out Unit Bool):=
 bif t62 then (
  some (.ret false)
 )else (
  chk (inK .i64 (t44+1)) <|
  rec_ t42 t43 (t44+1)
 )
def ZpA (rec_:(List ZnA)→Int→Int→Option (Out Unit Bool)) (t42:(List ZnA)) (t43:Int) (t44:Int):Option (Out Unit Bool):=
 bif (decide (t44 < t43))then (
  (idx t42 t44).bind fun x_=>
  bif (x_.Key == ([97]:Str))then (
   bif (x_.Count != 2)then (
    Zo5 rec_ t42 t43 t44 true
   )else (
    (Zqh 3).bind fun q=>
    (ZoL x_.Sum q).bind fun q_1=>
    Zo5 rec_ t42 t43 t44 (!q_1)
   )
  )else (
   Zo5 rec_ t42 t43 t44 false
  )
 )else (
  some (.brk ())
 )
def ZoD:Nat→(List ZnA)→Int→Int→Option (Out Unit Bool)
 |0,_,_,_=>none
 |n_+1,t42,t43,t44=>ZpA (ZoD n_) t42 t43 t44
def Zso (n:Nat) (s:((List ZnA)×Int×Int)):Option (Out Unit Bool):=ZoD n s.1 s.2.1 s.2.2
def ZqO (rec_:((List ZnA)×Int×Int)→Option (Out Unit Bool)) (s:((List ZnA)×Int×Int)):Option (Out Unit Bool):=ZpA (fun t42 t43 t44=>rec_ (t42,t43,t44)) s.1 s.2.1 s.2.2
theorem Zud:∀n s,Zso (n+1) s=ZqO (Zso n) s:=fun _ _=>rfl
def ZoE (t40:Bool) (s:ZnF):Option Bool:=
 bif t40 then (
  some false
 )else (
  (ZoD big s.Entries (s.Entries.length:Int) (0:Int)).bind fun
   | .ret q_=>some q_
   | .brk ()=>Zq9
 )
def ZoW:Option Bool:=
 (Zrz (ZnL.mk ([]:Str) ([(ZnE.mk false ([97]:Str)),(ZnE.mk false ([97]:Str)),(ZnE.mk false ([98]:Str))]:(List ZnE))) (ZnL.mk ([]:Str) ([(ZnE.mk false ([49]:Str)),(ZnE.mk false ([50]:Str)),(ZnE.mk false ([53]:Str))]:(List ZnE))) 10).bind fun(s,e)=>
 bif (e != 0)then (
  ZoE true s
 )else (
  bif (!s.All)then (
   ZoE true s
  )else (
   bif ((s.Entries.length:Int) != 2)then (
    ZoE true s
   )else (
    (Zsx s).bind fun q=>
    ZoE (!q) s
   )
  )
 )
def Zrx (t:(List Int)):Option ZnD:=
 some (ZnD.mk t 0)
def Zpj (n:Int) (m:Int):Option Int:=
 bif (decide (m < 1))then (
  some (0:Int)
 )else (
  chk (decide (m≠0)) <|
  chk (inK .i64 ((Int.tmod n m)+m)) <|
  chk (decide (m≠0)) <|
  some (Int.tmod ((Int.tmod n m)+m) m)
 )
def ZnX (d:ZnD) (n:Int):Option (Int×ZnD):=
 bif (decide (d.at_≥(d.l.length:Int)))then (
  some (0,d)
 )else (
  chk (inK .i64 (d.at_+1)) <|
  chk (inK .i64 ((d.at_+1) - 1)) <|
  (idx d.l ((d.at_+1) - 1)).bind fun l_e=>
  (Zpj l_e n).bind fun q=>
  some (q,(ZnD.mk d.l (d.at_+1)))
 )
def Zof (d:ZnD) (l:(List Str)):Option (Str×ZnD):=
 (ZnX d (l.length:Int)).bind fun(q,t6)=>
 (idx l q).bind fun l_e=>
 some (l_e,t6)
def ZqD (d:ZnD):Option (ZnE×ZnD):=
 (ZnX d 7).bind fun(q,t3)=>
 bif (q == 1)then (
  some ((ZnE.mk true ([]:Str)),t3)
 )else (
  (Zof t3 ([([97]:Str),([98]:Str),([99]:Str),([49]:Str),([50]:Str),([51]:Str),([49,48]:Str),([120]:Str),([45,49,46,53]:Str),([50]:Str)]:(List Str))).bind fun(q_1,t7)=>
  some ((ZnE.mk false q_1),t7)
 )
def Zsv (n:Int):Option Str:=
 some (Lib.itoa n)
def ZpV (d:ZnD):Option (ZnE×ZnD):=
 (ZnX d 9).bind fun(q,t3)=>
 bif (q == 1)then (
  some ((ZnE.mk true ([]:Str)),t3)
 )else (
  bif (q == 2)then (
   (Zof t3 ([([120]:Str),([]:Str),([49,46,50,46,51]:Str),([49,46,53,48]:Str)]:(List Str))).bind fun(q_1,t10)=>
   some ((ZnE.mk false q_1),t10)
  )else (
   (ZnX t3 12).bind fun(q_2,t14)=>
   chk (inK .i64 (q_2 - 3)) <|
   (Zsv (q_2 - 3)).bind fun q_3=>
   some ((ZnE.mk false q_3),t14)
  )
 )
def Zrr (d:ZnD) (t4:Str) (c:Str) (t4_1:(List ZnE)) (c_1:(List ZnE)):Option (ZnL×ZnD):=
 some ((ZnL.mk c c_1),d)
def Zot (rec_:Int→Int→Int→ZnD→Str→Str→(List ZnE)→(List ZnE)→Option (ZnD×Str×Str×(List ZnE)×(List ZnE))) (kind:Int) (t15:Int) (i:Int) (d:ZnD) (t4:Str) (c:Str) (x_:ZnE) (t4_1:(List ZnE)) (c_1:(List ZnE)):Option (ZnD×Str×Str×(List ZnE)×(List ZnE)):=
 chk (ZiZ (c_1.length+([x_]:(List ZnE)).length) 24) <|
 chk (inK .i64 (i+1)) <|
 rec_ kind t15 (i+1) d t4 c t4_1 (c_1++([x_]:(List ZnE)))
def ZpN (rec_:Int→Int→Int→ZnD→Str→Str→(List ZnE)→(List ZnE)→Option (ZnD×Str×Str×(List ZnE)×(List ZnE))) (kind:Int) (t15:Int) (i:Int) (d:ZnD) (t4:Str) (c:Str) (t4_1:(List ZnE)) (c_1:(List ZnE)):Option (ZnD×Str×Str×(List ZnE)×(List ZnE)):=
 bif (decide (i < t15))then (
  (ZqD d).bind fun(x_,t19)=>
  bif (kind == 0)then (
   (ZpV t19).bind fun(x__1,t24)=>
   Zot rec_ kind t15 i t24 t4 c x__1 t4_1 c_1
  )else (
   bif (kind == 1)then (
    (Zsv i).bind fun q=>
    chk (decide (([107]:Str).length+q.length≤Zq)) <|
    Zot rec_ kind t15 i t19 t4 c (ZnE.mk false (([107]:Str)++q)) t4_1 c_1
   )else (
    bif (kind == 2)then (
     (Zof t19 ([([97]:Str),([98]:Str),([99]:Str),([100]:Str)]:(List Str))).bind fun(q_1,t34)=>
     Zot rec_ kind t15 i t34 t4 c (ZnE.mk false q_1) t4_1 c_1
    )else (
     Zot rec_ kind t15 i t19 t4 c x_ t4_1 c_1
    )
   )
  )
 )else (
  some (d,t4,c,t4_1,c_1)
 )
def Zph:Nat→Int→Int→Int→ZnD→Str→Str→(List ZnE)→(List ZnE)→Option (ZnD×Str×Str×(List ZnE)×(List ZnE))
 |0,_,_,_,_,_,_,_,_=>none
 |n_+1,kind,t15,i,d,t4,c,t4_1,c_1=>ZpN (Zph n_) kind t15 i d t4 c t4_1 c_1
def ZsD (n:Nat) (s:(Int×Int×Int×ZnD×Str×Str×(List ZnE)×(List ZnE))):Option (ZnD×Str×Str×(List ZnE)×(List ZnE)):=Zph n s.1 s.2.1 s.2.2.1 s.2.2.2.1 s.2.2.2.2.1 s.2.2.2.2.2.1 s.2.2.2.2.2.2.1 s.2.2.2.2.2.2.2
def ZqV (rec_:(Int×Int×Int×ZnD×Str×Str×(List ZnE)×(List ZnE))→Option (ZnD×Str×Str×(List ZnE)×(List ZnE))) (s:(Int×Int×Int×ZnD×Str×Str×(List ZnE)×(List ZnE))):Option (ZnD×Str×Str×(List ZnE)×(List ZnE)):=ZpN (fun kind t15 i d t4 c t4_1 c_1=>rec_ (kind,t15,i,d,t4,c,t4_1,c_1)) s.1 s.2.1 s.2.2.1 s.2.2.2.1 s.2.2.2.2.1 s.2.2.2.2.2.1 s.2.2.2.2.2.2.1 s.2.2.2.2.2.2.2
theorem Zur:∀n s,ZsD (n+1) s=ZqV (ZsD n) s:=fun _ _=>rfl
def Zpc (d:ZnD) (rows:Int):Option (ZnL×ZnD):=
 (Zof d ([([105,100]:Str),([110,97,109,101]:Str),([85,110,105,116,32,80,114,105,99,101]:Str),([99,105,116,121]:Str),([117,110,105,116]:Str),([112,114,105,99,101]:Str),([105,100,50]:Str),([]:Str)]:(List Str))).bind fun(q,t9)=>
 (ZnX t9 5).bind fun(kind,t13)=>
 (Zph big kind rows (0:Int) t13 ([]:Str) q ([]:(List ZnE)) ([]:(List ZnE))).bind fun(x0,x1,x2,x3,x4)=>Zrr x0 x1 x2 x3 x4
def Zro:Option Bool:=
 some true
def ZoJ (rec_:(List ZnA)→Int→Int→ZnF→Option (Out Unit Bool)) (t30:(List ZnA)) (t31:Int) (i:Int) (t68:Bool) (b:ZnF):Option (Out Unit Bool):=
 bif t68 then (
  some (.ret false)
 )else (
  chk (inK .i64 (i+1)) <|
  rec_ t30 t31 (i+1) b
 )
def ZpL (rec_:(List ZnA)→Int→Int→ZnF→Option (Out Unit Bool)) (t30:(List ZnA)) (t31:Int) (i:Int) (b:ZnF):Option (Out Unit Bool):=
 bif (decide (i < t31))then (
  (idx t30 i).bind fun e=>
  (idx b.Entries i).bind fun x_=>
  bif (!(e.Key == x_.Key))then (
   ZoJ rec_ t30 t31 i true b
  )else (
   bif (e.Hash != x_.Hash)then (
    ZoJ rec_ t30 t31 i true b
   )else (
    bif (e.Count != x_.Count)then (
     ZoJ rec_ t30 t31 i true b
    )else (
     (ZoL e.Sum x_.Sum).bind fun q=>
     ZoJ rec_ t30 t31 i (!q) b
    )
   )
  )
 )else (
  some (.brk ())
 )
def ZoI:Nat→(List ZnA)→Int→Int→ZnF→Option (Out Unit Bool)
 |0,_,_,_,_=>none
 |n_+1,t30,t31,i,b=>ZpL (ZoI n_) t30 t31 i b
def ZsA (n:Nat) (s:((List ZnA)×Int×Int×ZnF)):Option (Out Unit Bool):=ZoI n s.1 s.2.1 s.2.2.1 s.2.2.2
def ZqT (rec_:((List ZnA)×Int×Int×ZnF)→Option (Out Unit Bool)) (s:((List ZnA)×Int×Int×ZnF)):Option (Out Unit Bool):=ZpL (fun t30 t31 i b=>rec_ (t30,t31,i,b)) s.1 s.2.1 s.2.2.1 s.2.2.2
theorem Zup:∀n s,ZsA (n+1) s=ZqT (ZsA n) s:=fun _ _=>rfl
def Zpe (t28:Bool) (a:ZnF) (b:ZnF):Option Bool:=
 bif t28 then (
  some false
 )else (
  (ZoI big a.Entries (a.Entries.length:Int) (0:Int) b).bind fun
   | .ret q_=>some q_
   | .brk ()=>Zro
 )
def Zpa (a:ZnF) (b:ZnF):Option Bool:=
 bif (a.K != b.K)then (
  Zpe true a b
 )else (
  bif (!(a.All == b.All))then (
   Zpe true a b
  )else (
   Zpe ((a.Entries.length:Int) != (b.Entries.length:Int)) a b
  )
 )
def ZnO (t6:Int) (t7:Bool):Option (Int×Bool):=
 some (t6,t7)
def ZnS (x_:(List ZnA)) (n:Int) (i:Int) (target:ZnA):Option (Int×Bool):=
 bif (decide (i < n))then (
  (idx x_ i).bind fun x__e=>
  (Zqy x__e target).bind fun q=>
  ZnO i (q == 0)
 )else (
  ZnO i false
 )
def ZnR (rec_:(List ZnA)→Int→Int→Int→ZnA→Option ((List ZnA)×Int×Int×ZnA)) (x_:(List ZnA)) (n:Int) (i:Int) (j:Int) (target:ZnA):Option ((List ZnA)×Int×Int×ZnA):=
 bif (decide (i < j))then (
  chk (inK .i64 (i+j)) <|
  chk (decide (0≤(1:Int))) <|
  (idx x_ (IntKind.wrap .i64 (shrK .u64 (IntKind.wrap .u64 (i+j)) 1))).bind fun x__e=>
  (Zqy x__e target).bind fun q=>
  bif (decide (q < 0))then (
   chk (inK .i64 ((IntKind.wrap .i64 (shrK .u64 (IntKind.wrap .u64 (i+j)) 1))+1)) <|
   rec_ x_ n ((IntKind.wrap .i64 (shrK .u64 (IntKind.wrap .u64 (i+j)) 1))+1) j target
  )else (
   rec_ x_ n i (IntKind.wrap .i64 (shrK .u64 (IntKind.wrap .u64 (i+j)) 1)) target
  )
 )else (
  some (x_,n,i,target)
 )
def ZnN:Nat→(List ZnA)→Int→Int→Int→ZnA→Option ((List ZnA)×Int×Int×ZnA)
 |0,_,_,_,_,_=>none
 |n_+1,x_,n,i,j,target=>ZnR (ZnN n_) x_ n i j target
def Zn3 (n:Nat) (s:((List ZnA)×Int×Int×Int×ZnA)):Option ((List ZnA)×Int×Int×ZnA):=ZnN n s.1 s.2.1 s.2.2.1 s.2.2.2.1 s.2.2.2.2
def Zn4 (rec_:((List ZnA)×Int×Int×Int×ZnA)→Option ((List ZnA)×Int×Int×ZnA)) (s:((List ZnA)×Int×Int×Int×ZnA)):Option ((List ZnA)×Int×Int×ZnA):=ZnR (fun x_ n i j target=>rec_ (x_,n,i,j,target)) s.1 s.2.1 s.2.2.1 s.2.2.2.1 s.2.2.2.2
theorem ZoR:∀n s,Zn3 (n+1) s=Zn4 (Zn3 n) s:=fun _ _=>rfl
def ZnK (x_:(List ZnA)) (target:ZnA):Option (Int×Bool):=
 (ZnN big x_ (x_.length:Int) (0:Int) (x_.length:Int) target).bind fun(x0,x1,x2,x3)=>ZnS x0 x1 x2 x3
def ZuI (s:ZnF) (e:ZnA):Option (ZnA×Bool):=
 (ZnK s.Entries e).bind fun(i,ok)=>
 bif (!ok)then (
  some ((ZnA.mk ([]:Str) 0 0 (ZnB.mk (ZnI.mk false ([]:(List Int))) (ZnI.mk false ([]:(List Int))))),false)
 )else (
  (idx s.Entries i).bind fun Entrie=>
  some (Entrie,true)
 )
def Zwi (a:Int) (b:Int):Option ZnB:=
 (Ztf a b).bind fun(f,e)=>
 bif (e != 0)then (
  (Zt4).bind fun q=>
  some q
 )else (
  some f
 )
def ZtV (a:ZnB) (b:ZnB):Option (ZnI×ZnI):=
 (Zn6 a.Num b.Den).bind fun num=>
 (Zn6 a.Den b.Num).bind fun den=>
 some (num,den)
def Zo0 (t18:Bool) (a:ZnB) (b:ZnB) (t6:Bool) (t6_1:Bool) (t6_2:(List Int)) (t6_3:(List Int)):Option (ZnB×Int):=
 bif t18 then (
  some ((ZnB.mk (ZnI.mk false ([]:(List Int))) (ZnI.mk false ([]:(List Int)))),1)
 )else (
  (ZtV a b).bind fun(num,den)=>
  bif ((den.Words.length:Int) == 0)then (
   some ((ZnB.mk (ZnI.mk false ([]:(List Int))) (ZnI.mk false ([]:(List Int)))),8)
  )else (
   (ZoU num den).bind fun f=>
   bif (decide ((if (f.Den.Words.length:Int) > (f.Num.Words.length:Int)then (f.Den.Words.length:Int)else (f.Num.Words.length:Int)) > 256))then (
    some ((ZnB.mk (ZnI.mk false ([]:(List Int))) (ZnI.mk false ([]:(List Int)))),3)
   )else (
    some (f,0)
   )
  )
 )
def ZpE (a:ZnB) (b:ZnB):Option (ZnB×Int):=
 (ZpF a).bind fun q=>
 bif (!q)then (
  Zo0 true a b false false ([]:(List Int)) ([]:(List Int))
 )else (
  (ZpF b).bind fun q_1=>
  Zo0 (!q_1) a b false false ([]:(List Int)) ([]:(List Int))
 )
def Ztw (a:ZnB) (b:ZnB):Option (ZnB×Int):=
 (ZpE a b).bind fun(q,q_1)=>
 some (q,q_1)
def ZvK (a:ZnB) (b:ZnB):Option ZnB:=
 (Ztw a b).bind fun(q,q_1)=>
 (Zt3 q q_1).bind fun q_2=>
 some q_2
def Ztb (e:ZnA):Option ZnB:=
 (Zwi e.Count 1).bind fun q=>
 (ZvK e.Sum q).bind fun q_1=>
 some q_1
def ZqH (t4:Bool):Option Bool:=
 some t4
def Zry (s:ZnF) (e:ZnA):Option Bool:=
 bif (!s.All)then (
  chk (inK .i64 ((s.Entries.length:Int) - 1)) <|
  (idx s.Entries ((s.Entries.length:Int) - 1)).bind fun Entrie=>
  (Zqy e Entrie).bind fun q=>
  ZqH (decide (q > 0))
 )else (
  ZqH false
 )
def Zoh:Option Int:=
 some (-1:Int)
def ZnW (rec_:(List ZnA)→ZnF→Int→Int→Option (Out Unit Int)) (s:(List ZnA)) (f:ZnF) (t7:Int) (i:Int):Option (Out Unit Int):=
 bif (decide (i < t7))then (
  (idx s i).bind fun s_e=>
  (Zry f s_e).bind fun q=>
  bif q then (
   some (.ret i)
  )else (
   chk (inK .i64 (i+1)) <|
   rec_ s f t7 (i+1)
  )
 )else (
  some (.brk ())
 )
def ZnY:Nat→(List ZnA)→ZnF→Int→Int→Option (Out Unit Int)
 |0,_,_,_,_=>none
 |n_+1,s,f,t7,i=>ZnW (ZnY n_) s f t7 i
def ZoN (n:Nat) (s:((List ZnA)×ZnF×Int×Int)):Option (Out Unit Int):=ZnY n s.1 s.2.1 s.2.2.1 s.2.2.2
def Zoe (rec_:((List ZnA)×ZnF×Int×Int)→Option (Out Unit Int)) (s:((List ZnA)×ZnF×Int×Int)):Option (Out Unit Int):=ZnW (fun s f t7 i=>rec_ (s,f,t7,i)) s.1 s.2.1 s.2.2.1 s.2.2.2
theorem ZqF:∀n s,ZoN (n+1) s=Zoe (ZoN n) s:=fun _ _=>rfl
def Zn1 (s:(List ZnA)) (c:ZnF):Option Int:=
 (ZnY big s c (s.length:Int) (0:Int)).bind fun
  | .ret q_=>some q_
  | .brk ()=>Zoh
def ZnZ (s:(List ZnA)) (c:ZnF):Option Bool:=
 (Zn1 s c).bind fun q=>
 some (decide (q≥0))
def Zta (t4:Bool):Option Bool:=
 some t4
def Zsw (a:ZnF) (b:ZnF):Option Bool:=
 bif a.All then (
  (ZnZ a.Entries b).bind fun q=>
  Zta (!q)
 )else (
  Zta false
 )
def Ztc (t5:Bool) (t4:(List ZnG)):Option ((List ZnG)×Bool):=
 some (t4,t5)
def Zt2 (a:ZnF) (b:ZnF) (out:(List ZnG)):Option ((List ZnG)×Bool):=
 (Zsw a b).bind fun q=>
 bif q then (
  Ztc true out
 )else (
  (Zsw b a).bind fun q_1=>
  Ztc q_1 out
 )
def Ztd (rec_:(List ZnA)→Int→Int→ZnF→ZnF→(List ZnG)→Option (ZnF×ZnF×(List ZnG))) (t12:(List ZnA)) (t13:Int) (t14:Int) (a:ZnF) (b:ZnF) (out:(List ZnG)):Option (ZnF×ZnF×(List ZnG)):=
 chk (inK .i64 (t14+1)) <|
 rec_ t12 t13 (t14+1) a b out
def Zsg (rec_:(List ZnA)→Int→Int→ZnF→ZnF→(List ZnG)→Option (ZnF×ZnF×(List ZnG))) (t12:(List ZnA)) (t13:Int) (t14:Int) (a:ZnF) (b:ZnF) (out:(List ZnG)):Option (ZnF×ZnF×(List ZnG)):=
 bif (decide (t14 < t13))then (
  (idx t12 t14).bind fun e=>
  (ZuI b e).bind fun(f,ok)=>
  bif ok then (
   (Ztb e).bind fun q=>
   (Ztb f).bind fun q_1=>
   chk (ZiZ (out.length+([(ZnG.mk q q_1)]:(List ZnG)).length) 128) <|
   Ztd rec_ t12 t13 t14 a b (out++([(ZnG.mk q q_1)]:(List ZnG)))
  )else (
   Ztd rec_ t12 t13 t14 a b out
  )
 )else (
  some (a,b,out)
 )
def Zq1:Nat→(List ZnA)→Int→Int→ZnF→ZnF→(List ZnG)→Option (ZnF×ZnF×(List ZnG))
 |0,_,_,_,_,_,_=>none
 |n_+1,t12,t13,t14,a,b,out=>Zsg (Zq1 n_) t12 t13 t14 a b out
def ZuR (n:Nat) (s:((List ZnA)×Int×Int×ZnF×ZnF×(List ZnG))):Option (ZnF×ZnF×(List ZnG)):=Zq1 n s.1 s.2.1 s.2.2.1 s.2.2.2.1 s.2.2.2.2.1 s.2.2.2.2.2
def ZtG (rec_:((List ZnA)×Int×Int×ZnF×ZnF×(List ZnG))→Option (ZnF×ZnF×(List ZnG))) (s:((List ZnA)×Int×Int×ZnF×ZnF×(List ZnG))):Option (ZnF×ZnF×(List ZnG)):=Zsg (fun t12 t13 t14 a b out=>rec_ (t12,t13,t14,a,b,out)) s.1 s.2.1 s.2.2.1 s.2.2.2.1 s.2.2.2.2.1 s.2.2.2.2.2
theorem ZvY:∀n s,ZuR (n+1) s=ZtG (ZuR n) s:=fun _ _=>rfl
def Zub (a:ZnF) (b:ZnF):Option ((List ZnG)×Bool):=
 (Zq1 big a.Entries (a.Entries.length:Int) (0:Int) a b ([]:(List ZnG))).bind fun(x0,x1,x2)=>Zt2 x0 x1 x2
def Zp8:Option Bool:=
 (ZoW).bind fun q=>
 some q
def ZoO (rec_:Int→Int→(List ZnG)→Option (Out Unit Bool)) (t149:Int) (t150:Int) (t148:(List ZnG)):Option (Out Unit Bool):=
 bif (decide (t150 < t149))then (
  chk (inR t150 (t148.length:Int)) <|
  (t148[(t150).toNat]?).bind fun p=>
  chk (inR 0 2) <|
  chk (inR 1 2) <|
  (ZoL p.e0 p.e1).bind fun q=>
  bif (!q)then (
   some (.ret false)
  )else (
   chk (inK .i64 (t150+1)) <|
   rec_ t149 (t150+1) t148
  )
 )else (
  some (.brk ())
 )
def ZoX:Nat→Int→Int→(List ZnG)→Option (Out Unit Bool)
 |0,_,_,_=>none
 |n_+1,t149,t150,t148=>ZoO (ZoX n_) t149 t150 t148
def Zrl (n:Nat) (s:(Int×Int×(List ZnG))):Option (Out Unit Bool):=ZoX n s.1 s.2.1 s.2.2
def ZpO (rec_:(Int×Int×(List ZnG))→Option (Out Unit Bool)) (s:(Int×Int×(List ZnG))):Option (Out Unit Bool):=ZoO (fun t149 t150 t148=>rec_ (t149,t150,t148)) s.1 s.2.1 s.2.2
theorem ZtD:∀n s,Zrl (n+1) s=ZpO (Zrl n) s:=fun _ _=>rfl
def Zog (t147:Bool) (pairs:(List ZnG)):Option Bool:=
 bif t147 then (
  some false
 )else (
  (ZoX big (pairs.length:Int) (0:Int) pairs).bind fun
   | .ret q_=>some q_
   | .brk ()=>Zp8
 )
def ZnT (t129:Bool) (a:ZnF):Option Bool:=
 bif t129 then (
  some false
 )else (
  (Zub a a).bind fun(pairs,all)=>
  bif ((pairs.length:Int) != (a.Entries.length:Int))then (
   Zog true pairs
  )else (
   Zog (!(all == a.All)) pairs
  )
 )
def ZpB (t:(List Int)) (k:Int) (turn:Int):Option Bool:=
 (Zrj t).bind fun q=>
 bif (!q)then (
  (ZoW).bind fun q_1=>
  some q_1
 )else (
  (Zrx t).bind fun d=>
  (ZnX d 12).bind fun(q_2,t31)=>
  chk (inK .i64 (1+q_2)) <|
  (Zpc t31 (1+q_2)).bind fun(key,t34)=>
  (Zpc t34 (1+q_2)).bind fun(value,t37)=>
  (Zpj turn (1+q_2)).bind fun i=>
  chk (Zb9 i (key.Cells.length:Int) (key.Cells.length:Int)) <|
  chk (ZiZ (key.Cells.drop (i).toNat).length 24) <|
  chk (Zb9 0 i (key.Cells.length:Int)) <|
  chk (ZiZ ((key.Cells.drop (i).toNat).length+(key.Cells.take (i).toNat).length) 24) <|
  chk (Zb9 i (value.Cells.length:Int) (value.Cells.length:Int)) <|
  chk (ZiZ (value.Cells.drop (i).toNat).length 24) <|
  chk (Zb9 0 i (value.Cells.length:Int)) <|
  chk (ZiZ ((value.Cells.drop (i).toNat).length+(value.Cells.take (i).toNat).length) 24) <|
  (Zpj k 6).bind fun q_3=>
  chk (inK .i64 (1+q_3)) <|
  (Zrz key value (1+q_3)).bind fun(a,e)=>
  (Zrz (ZnL.mk ([]:Str) ((key.Cells.drop (i).toNat)++(key.Cells.take (i).toNat))) (ZnL.mk ([]:Str) ((value.Cells.drop (i).toNat)++(value.Cells.take (i).toNat))) (1+q_3)).bind fun(b,f)=>
  chk (inK .i64 ((1+q_3)+2)) <|
  (Zrz key value ((1+q_3)+2)).bind fun(c,g)=>
  bif (e != 0)then (
   ZnT true a
  )else (
   bif (f != 0)then (
    ZnT true a
   )else (
    bif (g != 0)then (
     ZnT true a
    )else (
     (Zpa a b).bind fun q_4=>
     bif (!q_4)then (
      ZnT true a
     )else (
      bif (decide ((c.Entries.length:Int) < (a.Entries.length:Int)))then (
       ZnT true a
      )else (
       chk (Zb9 0 (a.Entries.length:Int) (c.Entries.length:Int)) <|
       (Zpa (ZnF.mk (1+q_3) a.All (c.Entries.take ((a.Entries.length:Int)).toNat)) a).bind fun q_5=>
       ZnT (!q_5) a
      )
     )
    )
   )
  )
 )
end
end Go.Proofs
