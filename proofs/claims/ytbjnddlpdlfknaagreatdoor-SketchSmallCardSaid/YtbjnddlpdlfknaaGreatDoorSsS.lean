/- Printed by wip/tools/tgen.py: specs. -/
import Derived.Test.YtbjnddlpdlfknaaGreatDoorE4
import Derived.Lib.Bytealg
import Derived.Lib.ItoaNum
import Derived.Lib.SlTrimSet
import Derived.Shelf.Strconv.Itoa3
set_option linter.unusedVariables false
set_option linter.unusedSimpArgs false
set_option linter.unusedSectionVars false
namespace Go.Proofs
open Go Eng
set_option maxRecDepth 100000
noncomputable section
structure ZnB where
 Null:Bool
 Text:Str
 deriving DecidableEq,Inhabited
structure ZnI where
 Name:Str
 Cells:(List ZnB)
 deriving DecidableEq,Inhabited
structure ZnC where
 Neg:Bool
 Words:(List Int)
 deriving DecidableEq,Inhabited
structure ZnD where
 Num:ZnC
 Den:ZnC
 deriving DecidableEq,Inhabited
structure ZnA where
 Key:Str
 Hash:Int
 Count:Int
 Sum:ZnD
 deriving DecidableEq,Inhabited
structure ZnG where
 K:Int
 All:Bool
 Entries:(List ZnA)
 deriving DecidableEq,Inhabited
structure Zot where
 word:Str
 canonical:(Option Nat)
 value:(Option Nat)
 deriving DecidableEq,Inhabited
structure ZnE where
 l:(List Int)
 at_:Int
 deriving DecidableEq,Inhabited
def ZuU:Nat→Type
 |0=>ZnB
 |1=>ZnI
 |2=>ZnC
 |3=>ZnD
 |4=>ZnA
 |5=>ZnG
 |6=>Zot
 |7=>ZnE
 |_=>Unit
def ZEm:Nat→Nat
 |0=>2
 |1=>2
 |2=>2
 |3=>4
 |4=>7
 |5=>3
 |6=>3
 |7=>2
 |_=>0
def Zxy:List (Lf ZuU):=[⟨.sl (.int .u32),([1]:List Int)⟩]
def ZuF:List (Lf ZuU):=(Lib.pow10Tab.map fun n=>⟨.int .u64,n⟩)
def ZrU (t:(List Int)):Option Bool:=
 some (decide ((t.length:Int)≤500))
def ZtP (w_:(List Int)):Option (List Int):=
 some w_
def Zsf (rec_:(List Int)→Option (List Int)) (w_:(List Int)) (t14:Bool):Option (List Int):=
 bif t14 then (
  chk (inK .i64 ((w_.length:Int) - 1)) <|
  chk (Zb9 0 ((w_.length:Int) - 1) (w_.length:Int)) <|
  rec_ (w_.take (((w_.length:Int) - 1)).toNat)
 )else (
  some w_
 )
def Zrr (rec_:(List Int)→Option (List Int)) (w_:(List Int)):Option (List Int):=
 bif (decide ((w_.length:Int) > 0))then (
  chk (inK .i64 ((w_.length:Int) - 1)) <|
  (idx w_ ((w_.length:Int) - 1)).bind fun w__e=>
  Zsf rec_ w_ (w__e == 0)
 )else (
  Zsf rec_ w_ false
 )
def ZoB:Nat→(List Int)→Option (List Int)
 |0,_=>none
 |n_+1,w_=>Zrr (ZoB n_) w_
def ZuO (n:Nat) (s:(List Int)):Option (List Int):=ZoB n s
def ZuP (rec_:(List Int)→Option (List Int)) (s:(List Int)):Option (List Int):=Zrr (fun w_=>rec_ w_) s
theorem Zwp:∀n s,ZuO (n+1) s=ZuP (ZuO n) s:=fun _ _=>rfl
def ZnX (w_:(List Int)):Option (List Int):=
 (ZoB big w_).bind fun x0=>ZtP x0
def Zqd (n:Int):Option (List Int):=
 chk (decide (0≤(32:Int))) <|
 (ZnX ([(IntKind.wrap .u32 n),(IntKind.wrap .u32 (shrK .u64 n 32))]:(List Int))).bind fun q=>
 some q
def ZsK (t4:Bool) (t4_1:(List Int)):Option ZnC:=
 some (ZnC.mk t4 t4_1)
def Zn4 (neg:Bool) (w_:(List Int)):Option ZnC:=
 bif neg then (
  chk (ZiZ w_.length 4) <|
  ZsK (decide ((w_.length:Int) > 0)) w_
 )else (
  chk (ZiZ w_.length 4) <|
  ZsK false w_
 )
def ZqY (n:Int):Option ZnC:=
 bif (decide (n < 0))then (
  (Zqd (IntKind.wrap .u64 (0 - (IntKind.wrap .u64 n)))).bind fun q=>
  (Zn4 true q).bind fun q_1=>
  some q_1
 )else (
  (Zqd (IntKind.wrap .u64 n)).bind fun q_2=>
  (Zn4 false q_2).bind fun q_3=>
  some q_3
 )
def Zos (t2:Bool):Option Bool:=
 some t2
def ZqG (a:ZnC):Option Bool:=
 bif (decide ((a.Words.length:Int)≤256))then (
  bif ((a.Words.length:Int) == 0)then (
   bif (!a.Neg)then (
    Zos true
   )else (
    bif (decide ((a.Words.length:Int) > 0))then (
     chk (inK .i64 ((a.Words.length:Int) - 1)) <|
     (idx a.Words ((a.Words.length:Int) - 1)).bind fun Word=>
     Zos (Word != 0)
    )else (
     Zos false
    )
   )
  )else (
   bif (decide ((a.Words.length:Int) > 0))then (
    chk (inK .i64 ((a.Words.length:Int) - 1)) <|
    (idx a.Words ((a.Words.length:Int) - 1)).bind fun Word_1=>
    Zos (Word_1 != 0)
   )else (
    Zos false
   )
  )
 )else (
  Zos false
 )
def Zwg:Option Bool:=
 some true
def ZsM (rec_:(List ZnC)→Int→Int→Option (Out Unit Bool)) (t5:(List ZnC)) (t6:Int) (t7:Int):Option (Out Unit Bool):=
 bif (decide (t7 < t6))then (
  (idx t5 t7).bind fun a=>
  (ZqG a).bind fun q=>
  bif (!q)then (
   some (.ret false)
  )else (
   chk (inK .i64 (t7+1)) <|
   rec_ t5 t6 (t7+1)
  )
 )else (
  some (.brk ())
 )
def ZtA:Nat→(List ZnC)→Int→Int→Option (Out Unit Bool)
 |0,_,_,_=>none
 |n_+1,t5,t6,t7=>ZsM (ZtA n_) t5 t6 t7
def Zvv (n:Nat) (s:((List ZnC)×Int×Int)):Option (Out Unit Bool):=ZtA n s.1 s.2.1 s.2.2
def Zug (rec_:((List ZnC)×Int×Int)→Option (Out Unit Bool)) (s:((List ZnC)×Int×Int)):Option (Out Unit Bool):=ZsM (fun t5 t6 t7=>rec_ (t5,t6,t7)) s.1 s.2.1 s.2.2
theorem ZwL:∀n s,Zvv (n+1) s=Zug (Zvv n) s:=fun _ _=>rfl
def ZsY (l:(List ZnC)):Option Bool:=
 (ZtA big l (l.length:Int) (0:Int)).bind fun
  | .ret q_=>some q_
  | .brk ()=>Zwg
def ZtX (x_:Int):Option Bool:=
 some (x_ != x_)
def ZsZ (x_:Int) (y:Int):Option Int:=
 (ZtX x_).bind fun xNaN=>
 (ZtX y).bind fun yNaN=>
 bif xNaN then (
  bif yNaN then (
   some (0:Int)
  )else (
   some (-1:Int)
  )
 )else (
  bif yNaN then (
   some (1:Int)
  )else (
   bif (decide (x_ < y))then (
    some (-1:Int)
   )else (
    bif (decide (x_ > y))then (
     some (1:Int)
    )else (
     some (0:Int)
    )
   )
  )
 )
def ZtB (x_:Int):Option Bool:=
 some (x_ != x_)
def ZsO (x_:Int) (y:Int):Option Int:=
 (ZtB x_).bind fun xNaN=>
 (ZtB y).bind fun yNaN=>
 bif xNaN then (
  bif yNaN then (
   some (0:Int)
  )else (
   some (-1:Int)
  )
 )else (
  bif yNaN then (
   some (1:Int)
  )else (
   bif (decide (x_ < y))then (
    some (-1:Int)
   )else (
    bif (decide (x_ > y))then (
     some (1:Int)
    )else (
     some (0:Int)
    )
   )
  )
 )
def ZrQ:Option Int:=
 some (0:Int)
def Zpy (rec_:(List Int)→(List Int)→Int→Option (Out Unit Int)) (w_:(List Int)) (v_:(List Int)) (i:Int):Option (Out Unit Int):=
 bif (decide (i≥0))then (
  (idx w_ i).bind fun w__e=>
  (idx v_ i).bind fun v__e=>
  (ZsO w__e v__e).bind fun c=>
  bif (c != 0)then (
   some (.ret c)
  )else (
   chk (inK .i64 (i - 1)) <|
   rec_ w_ v_ (i - 1)
  )
 )else (
  some (.brk ())
 )
def Zqa:Nat→(List Int)→(List Int)→Int→Option (Out Unit Int)
 |0,_,_,_=>none
 |n_+1,w_,v_,i=>Zpy (Zqa n_) w_ v_ i
def Zth (n:Nat) (s:((List Int)×(List Int)×Int)):Option (Out Unit Int):=Zqa n s.1 s.2.1 s.2.2
def Zq9 (rec_:((List Int)×(List Int)×Int)→Option (Out Unit Int)) (s:((List Int)×(List Int)×Int)):Option (Out Unit Int):=Zpy (fun w_ v_ i=>rec_ (w_,v_,i)) s.1 s.2.1 s.2.2
theorem Zvb:∀n s,Zth (n+1) s=Zq9 (Zth n) s:=fun _ _=>rfl
def Zod (w_:(List Int)) (v_:(List Int)):Option Int:=
 (ZsZ (w_.length:Int) (v_.length:Int)).bind fun c=>
 bif (c != 0)then (
  some c
 )else (
  chk (inK .i64 ((w_.length:Int) - 1)) <|
  (Zqa big w_ v_ ((w_.length:Int) - 1)).bind fun
   | .ret q_=>some q_
   | .brk ()=>ZrQ
 )
def ZnK (s:(List Int)) (t4:Bool):Option (List Int):=
 bif t4 then (
  some ([]:(List Int))
 )else (
  chk (ZiZ (([]:(List Int)).length+s.length) 4) <|
  some (([]:(List Int))++s)
 )
def Zn9 (s:(List Int)):Option (List Int):=
 bif (List.isEmpty s)then agree (
  ZnK s true
 ) (
  ZnK s false
 )else (
  ZnK s false
 )
def Zrc (hi:Int) (lo:Int) (y:Int) (t15:Bool):Option (Int×Int):=
 bif t15 then (
  none
 )else (
  chk (decide (0≤(32:Int))) <|
  chk (decide ((IntKind.wrap .u64 y)≠0)) <|
  chk (decide ((IntKind.wrap .u64 y)≠0)) <|
  some ((IntKind.wrap .u32 (IntKind.wrap .u64 (Int.tdiv (orK .u64 (shlK .u64 (IntKind.wrap .u64 hi) 32) (IntKind.wrap .u64 lo)) (IntKind.wrap .u64 y)))),(IntKind.wrap .u32 (Int.tmod (orK .u64 (shlK .u64 (IntKind.wrap .u64 hi) 32) (IntKind.wrap .u64 lo)) (IntKind.wrap .u64 y))))
 )
def ZsU (hi:Int) (lo:Int) (y:Int):Option (Int×Int):=
 bif (y != 0)then (
  Zrc hi lo y (decide (y≤hi))
 )else (
  Zrc hi lo y false
 )
def ZsE (rest:Int) (out:(List Int)):Option ((List Int)×Int):=
 (ZnX out).bind fun q=>
 some (q,rest)
def Zp7 (rec_:(List Int)→Int→Int→Int→(List Int)→Option (Int×(List Int))) (w_:(List Int)) (d:Int) (rest:Int) (i:Int) (out:(List Int)):Option (Int×(List Int)):=
 bif (decide (i≥0))then (
  (idx w_ i).bind fun w__e=>
  (ZsU rest w__e d).bind fun(q,rest_1)=>
  chk (inR i (out.length:Int)) <|
  chk (inK .i64 (i - 1)) <|
  rec_ w_ d rest_1 (i - 1) (out.set ((i).toNat) q)
 )else (
  some (rest,out)
 )
def ZqR:Nat→(List Int)→Int→Int→Int→(List Int)→Option (Int×(List Int))
 |0,_,_,_,_,_=>none
 |n_+1,w_,d,rest,i,out=>Zp7 (ZqR n_) w_ d rest i out
def ZtM (n:Nat) (s:((List Int)×Int×Int×Int×(List Int))):Option (Int×(List Int)):=ZqR n s.1 s.2.1 s.2.2.1 s.2.2.2.1 s.2.2.2.2
def ZrN (rec_:((List Int)×Int×Int×Int×(List Int))→Option (Int×(List Int))) (s:((List Int)×Int×Int×Int×(List Int))):Option (Int×(List Int)):=Zp7 (fun w_ d rest i out=>rec_ (w_,d,rest,i,out)) s.1 s.2.1 s.2.2.1 s.2.2.2.1 s.2.2.2.2
theorem ZvK:∀n s,ZtM (n+1) s=ZrN (ZtM n) s:=fun _ _=>rfl
def Zqv (w_:(List Int)) (d:Int):Option ((List Int)×Int):=
 chk (mkOk (w_.length:Int) (w_.length:Int) 4) <|
 chk (inK .i64 ((w_.length:Int) - 1)) <|
 (ZqR big w_ d (0:Int) ((w_.length:Int) - 1) (List.replicate ((w_.length:Int)).toNat (0:Int))).bind fun(x0,x1)=>ZsE x0 x1
def Zqf (x_:Int) (n:Int):Option Int:=
 (idx ([0,1,2,2,3,3,3,3,4,4,4,4,4,4,4,4,5,5,5,5,5,5,5,5,5,5,5,5,5,5,5,5,6,6,6,6,6,6,6,6,6,6,6,6,6,6,6,6,6,6,6,6,6,6,6,6,6,6,6,6,6,6,6,6,7,7,7,7,7,7,7,7,7,7,7,7,7,7,7,7,7,7,7,7,7,7,7,7,7,7,7,7,7,7,7,7,7,7,7,7,7,7,7,7,7,7,7,7,7,7,7,7,7,7,7,7,7,7,7,7,7,7,7,7,7,7,7,7,8,8,8,8,8,8,8,8,8,8,8,8,8,8,8,8,8,8,8,8,8,8,8,8,8,8,8,8,8,8,8,8,8,8,8,8,8,8,8,8,8,8,8,8,8,8,8,8,8,8,8,8,8,8,8,8,8,8,8,8,8,8,8,8,8,8,8,8,8,8,8,8,8,8,8,8,8,8,8,8,8,8,8,8,8,8,8,8,8,8,8,8,8,8,8,8,8,8,8,8,8,8,8,8,8,8,8,8,8,8,8,8,8,8,8,8,8,8,8,8,8,8,8,8,8,8,8,8]:Str) (IntKind.wrap .u8 x_)).bind fun c=>
 chk (inK .i64 (n+(IntKind.wrap .i64 ((c.toNat:Nat):Int)))) <|
 some (n+(IntKind.wrap .i64 ((c.toNat:Nat):Int)))
def ZsI (x_:Int) (n:Int):Option Int:=
 bif (decide (x_≥256))then (
  chk (decide (0≤(8:Int))) <|
  chk (inK .i64 (n+8)) <|
  Zqf (shrK .u32 x_ 8) (n+8)
 )else (
  Zqf x_ n
 )
def ZsT (x_:Int):Option Int:=
 bif (decide (x_≥65536))then (
  chk (decide (0≤(16:Int))) <|
  ZsI (shrK .u32 x_ 16) (16:Int)
 )else (
  ZsI x_ (0:Int)
 )
def Zpf (x_:Int):Option Int:=
 (ZsT x_).bind fun q=>
 chk (inK .i64 (32 - q)) <|
 some (32 - q)
def ZrO (out:(List Int)):Option (List Int):=
 some out
def Zpx (rec_:Int→(List Int)→Int→Int→(List Int)→Option (List Int)) (n:Int) (t13:(List Int)) (t14:Int) (i:Int) (out:(List Int)):Option (List Int):=
 bif (decide (i < t14))then (
  (idx t13 i).bind fun d=>
  chk (decide (0≤n)) <|
  chk (inR i (out.length:Int)) <|
  (out[(i).toNat]?).bind fun out_e=>
  chk (inR i (out.length:Int)) <|
  chk (inK .i64 (i+1)) <|
  chk (decide (0≤(32:Int))) <|
  chk (inR (i+1) ((out.set ((i).toNat) (orK .u32 out_e (IntKind.wrap .u32 (shlK .u64 (IntKind.wrap .u64 d) n)))).length:Int)) <|
  chk (inK .i64 (i+1)) <|
  rec_ n t13 t14 (i+1) ((out.set ((i).toNat) (orK .u32 out_e (IntKind.wrap .u32 (shlK .u64 (IntKind.wrap .u64 d) n)))).set (((i+1)).toNat) (IntKind.wrap .u32 (shrK .u64 (shlK .u64 (IntKind.wrap .u64 d) n) 32)))
 )else (
  some out
 )
def Zp8:Nat→Int→(List Int)→Int→Int→(List Int)→Option (List Int)
 |0,_,_,_,_,_=>none
 |n_+1,n,t13,t14,i,out=>Zpx (Zp8 n_) n t13 t14 i out
def Ztg (n:Nat) (s:(Int×(List Int)×Int×Int×(List Int))):Option (List Int):=Zp8 n s.1 s.2.1 s.2.2.1 s.2.2.2.1 s.2.2.2.2
def Zq8 (rec_:(Int×(List Int)×Int×Int×(List Int))→Option (List Int)) (s:(Int×(List Int)×Int×Int×(List Int))):Option (List Int):=Zpx (fun n t13 t14 i out=>rec_ (n,t13,t14,i,out)) s.1 s.2.1 s.2.2.1 s.2.2.2.1 s.2.2.2.2
theorem Zva:∀n s,Ztg (n+1) s=Zq8 (Ztg n) s:=fun _ _=>rfl
def Zoy (w_:(List Int)) (n:Int):Option (List Int):=
 chk (inK .i64 ((w_.length:Int)+1)) <|
 chk (mkOk ((w_.length:Int)+1) ((w_.length:Int)+1) 4) <|
 (Zp8 big n w_ (w_.length:Int) (0:Int) (List.replicate (((w_.length:Int)+1)).toNat (0:Int))).bind fun x0=>ZrO x0
def ZqC (x_:Int) (y:Int) (borrow:Int):Option (Int×Int):=
 chk (decide (0≤(31:Int))) <|
 some ((IntKind.wrap .u32 ((IntKind.wrap .u32 (x_ - y)) - borrow)),(shrK .u32 (orK .u32 (andK .u32 (xorK .u32 (if IntKind.signed .u32 then -1 else IntKind.max .u32) x_) y) (andK .u32 (xorK .u32 (if IntKind.signed .u32 then -1 else IntKind.max .u32) (xorK .u32 x_ y)) (IntKind.wrap .u32 ((IntKind.wrap .u32 (x_ - y)) - borrow)))) 31))
def Zrv (x_:Int) (y:Int) (carry:Int):Option (Int×Int):=
 chk (decide (0≤(32:Int))) <|
 some ((IntKind.wrap .u32 (IntKind.wrap .u64 ((IntKind.wrap .u64 ((IntKind.wrap .u64 x_)+(IntKind.wrap .u64 y)))+(IntKind.wrap .u64 carry)))),(IntKind.wrap .u32 (shrK .u64 (IntKind.wrap .u64 ((IntKind.wrap .u64 ((IntKind.wrap .u64 x_)+(IntKind.wrap .u64 y)))+(IntKind.wrap .u64 carry))) 32)))
def Zs7 (u_off:Nat) (u_len:Nat) (n:Int) (guess:Int) (add:Int) (u:(List Int)):Option (Int×(List Int)):=
 chk (inR n (u_len:Int)) <|
 (u[(u_off+(n).toNat)]?).bind fun u_e=>
 chk (inR n (u_len:Int)) <|
 some ((IntKind.wrap .u32 (IntKind.wrap .u64 (guess - 1))),(u.set (u_off+(n).toNat) (IntKind.wrap .u32 (u_e+add))))
def Zsg (rec_:Nat→Nat→Int→Int→Int→(List Int)→Int→Int→(List Int)→Option (Nat×Nat×Int×Int×Int×(List Int))) (u_off:Nat) (u_len:Nat) (n:Int) (guess:Int) (add:Int) (t130:(List Int)) (t131:Int) (i:Int) (u:(List Int)):Option (Nat×Nat×Int×Int×Int×(List Int)):=
 bif (decide (i < t131))then (
  (idx t130 i).bind fun x_=>
  chk (inR i (u_len:Int)) <|
  (u[(u_off+(i).toNat)]?).bind fun u_e=>
  (Zrv u_e x_ add).bind fun(q,add_1)=>
  chk (inR i (u_len:Int)) <|
  chk (inK .i64 (i+1)) <|
  rec_ u_off u_len n guess add_1 t130 t131 (i+1) (u.set (u_off+(i).toNat) q)
 )else (
  some (u_off,u_len,n,guess,add,u)
 )
def ZrR:Nat→Nat→Nat→Int→Int→Int→(List Int)→Int→Int→(List Int)→Option (Nat×Nat×Int×Int×Int×(List Int))
 |0,_,_,_,_,_,_,_,_,_=>none
 |n_+1,u_off,u_len,n,guess,add,t130,t131,i,u=>Zsg (ZrR n_) u_off u_len n guess add t130 t131 i u
def Zvc (n:Nat) (s:(Nat×Nat×Int×Int×Int×(List Int)×Int×Int×(List Int))):Option (Nat×Nat×Int×Int×Int×(List Int)):=ZrR n s.1 s.2.1 s.2.2.1 s.2.2.2.1 s.2.2.2.2.1 s.2.2.2.2.2.1 s.2.2.2.2.2.2.1 s.2.2.2.2.2.2.2.1 s.2.2.2.2.2.2.2.2
def ZtQ (rec_:(Nat×Nat×Int×Int×Int×(List Int)×Int×Int×(List Int))→Option (Nat×Nat×Int×Int×Int×(List Int))) (s:(Nat×Nat×Int×Int×Int×(List Int)×Int×Int×(List Int))):Option (Nat×Nat×Int×Int×Int×(List Int)):=Zsg (fun u_off u_len n guess add t130 t131 i u=>rec_ (u_off,u_len,n,guess,add,t130,t131,i,u)) s.1 s.2.1 s.2.2.1 s.2.2.2.1 s.2.2.2.2.1 s.2.2.2.2.2.1 s.2.2.2.2.2.2.1 s.2.2.2.2.2.2.2.1 s.2.2.2.2.2.2.2.2
theorem ZwG:∀n s,Zvc (n+1) s=ZtQ (Zvc n) s:=fun _ _=>rfl
def ZuE (u_off:Nat) (u_len:Nat) (d:(List Int)) (n:Int) (guess:Int) (borrow:Int) (carry:Int) (u:(List Int)):Option (Int×(List Int)):=
 chk (inR n (u_len:Int)) <|
 (u[(u_off+(n).toNat)]?).bind fun u_e=>
 (ZqC u_e (IntKind.wrap .u32 carry) borrow).bind fun(q,borrow_1)=>
 chk (inR n (u_len:Int)) <|
 bif (borrow_1 == 0)then (
  some ((IntKind.wrap .u32 guess),(u.set (u_off+(n).toNat) q))
 )else (
  (ZrR big u_off u_len n guess (0:Int) d (d.length:Int) (0:Int) (u.set (u_off+(n).toNat) q)).bind fun(x0,x1,x2,x3,x4,x5)=>Zs7 x0 x1 x2 x3 x4 x5
 )
def Zsh (rec_:Nat→Nat→(List Int)→Int→Int→Int→Int→(List Int)→Int→Int→(List Int)→Option (Nat×Nat×(List Int)×Int×Int×Int×Int×(List Int))) (u_off:Nat) (u_len:Nat) (d:(List Int)) (n:Int) (guess:Int) (borrow:Int) (carry:Int) (t82:(List Int)) (t83:Int) (i:Int) (u:(List Int)):Option (Nat×Nat×(List Int)×Int×Int×Int×Int×(List Int)):=
 bif (decide (i < t83))then (
  (idx t82 i).bind fun x_=>
  chk (inR i (u_len:Int)) <|
  (u[(u_off+(i).toNat)]?).bind fun u_e=>
  (ZqC u_e (IntKind.wrap .u32 (IntKind.wrap .u64 (carry+(IntKind.wrap .u64 (guess*(IntKind.wrap .u64 x_)))))) borrow).bind fun(q,borrow_1)=>
  chk (inR i (u_len:Int)) <|
  chk (decide (0≤(32:Int))) <|
  chk (inK .i64 (i+1)) <|
  rec_ u_off u_len d n guess borrow_1 (shrK .u64 (IntKind.wrap .u64 (carry+(IntKind.wrap .u64 (guess*(IntKind.wrap .u64 x_))))) 32) t82 t83 (i+1) (u.set (u_off+(i).toNat) q)
 )else (
  some (u_off,u_len,d,n,guess,borrow,carry,u)
 )
def Zs6:Nat→Nat→Nat→(List Int)→Int→Int→Int→Int→(List Int)→Int→Int→(List Int)→Option (Nat×Nat×(List Int)×Int×Int×Int×Int×(List Int))
 |0,_,_,_,_,_,_,_,_,_,_,_=>none
 |n_+1,u_off,u_len,d,n,guess,borrow,carry,t82,t83,i,u=>Zsh (Zs6 n_) u_off u_len d n guess borrow carry t82 t83 i u
def Zvd (n:Nat) (s:(Nat×Nat×(List Int)×Int×Int×Int×Int×(List Int)×Int×Int×(List Int))):Option (Nat×Nat×(List Int)×Int×Int×Int×Int×(List Int)):=Zs6 n s.1 s.2.1 s.2.2.1 s.2.2.2.1 s.2.2.2.2.1 s.2.2.2.2.2.1 s.2.2.2.2.2.2.1 s.2.2.2.2.2.2.2.1 s.2.2.2.2.2.2.2.2.1 s.2.2.2.2.2.2.2.2.2.1 s.2.2.2.2.2.2.2.2.2.2
def ZtR (rec_:(Nat×Nat×(List Int)×Int×Int×Int×Int×(List Int)×Int×Int×(List Int))→Option (Nat×Nat×(List Int)×Int×Int×Int×Int×(List Int))) (s:(Nat×Nat×(List Int)×Int×Int×Int×Int×(List Int)×Int×Int×(List Int))):Option (Nat×Nat×(List Int)×Int×Int×Int×Int×(List Int)):=Zsh (fun u_off u_len d n guess borrow carry t82 t83 i u=>rec_ (u_off,u_len,d,n,guess,borrow,carry,t82,t83,i,u)) s.1 s.2.1 s.2.2.1 s.2.2.2.1 s.2.2.2.2.1 s.2.2.2.2.2.1 s.2.2.2.2.2.2.1 s.2.2.2.2.2.2.2.1 s.2.2.2.2.2.2.2.2.1 s.2.2.2.2.2.2.2.2.2.1 s.2.2.2.2.2.2.2.2.2.2
theorem ZwH:∀n s,Zvd (n+1) s=ZtR (Zvd n) s:=fun _ _=>rfl
def Zs8 (u_off:Nat) (u_len:Nat) (d:(List Int)) (n:Int) (guess:Int) (u:(List Int)):Option (Int×(List Int)):=
 (Zs6 big u_off u_len d n guess (0:Int) (0:Int) d (d.length:Int) (0:Int) u).bind fun(x0,x1,x2,x3,x4,x5,x6,x7)=>ZuE x0 x1 x2 x3 x4 x5 x6 x7
def ZrS (rec_:Nat→Nat→(List Int)→Int→Int→Int→(List Int)→Option (Nat×Nat×(List Int)×Int×Int×(List Int))) (u_off:Nat) (u_len:Nat) (d:(List Int)) (n:Int) (guess:Int) (rest:Int) (t71:Bool) (u:(List Int)):Option (Nat×Nat×(List Int)×Int×Int×(List Int)):=
 bif t71 then (
  chk (inK .i64 (n - 1)) <|
  (idx d (n - 1)).bind fun d_e=>
  rec_ u_off u_len d n (IntKind.wrap .u64 (guess - 1)) (IntKind.wrap .u64 (rest+(IntKind.wrap .u64 d_e))) u
 )else (
  some (u_off,u_len,d,n,guess,u)
 )
def ZtS (rec_:Nat→Nat→(List Int)→Int→Int→Int→(List Int)→Option (Nat×Nat×(List Int)×Int×Int×(List Int))) (u_off:Nat) (u_len:Nat) (d:(List Int)) (n:Int) (guess:Int) (rest:Int) (u:(List Int)):Option (Nat×Nat×(List Int)×Int×Int×(List Int)):=
 bif (decide (rest < 4294967296))then (
  chk (inK .i64 (n - 2)) <|
  (idx d (n - 2)).bind fun d_e=>
  chk (decide (0≤(32:Int))) <|
  chk (inK .i64 (n - 2)) <|
  chk (inR (n - 2) (u_len:Int)) <|
  (u[(u_off+((n - 2)).toNat)]?).bind fun u_e=>
  ZrS rec_ u_off u_len d n guess rest (decide ((IntKind.wrap .u64 (guess*(IntKind.wrap .u64 d_e))) > (orK .u64 (shlK .u64 rest 32) (IntKind.wrap .u64 u_e)))) u
 )else (
  ZrS rec_ u_off u_len d n guess rest false u
 )
def ZqE:Nat→Nat→Nat→(List Int)→Int→Int→Int→(List Int)→Option (Nat×Nat×(List Int)×Int×Int×(List Int))
 |0,_,_,_,_,_,_,_=>none
 |n_+1,u_off,u_len,d,n,guess,rest,u=>ZtS (ZqE n_) u_off u_len d n guess rest u
def Zve (n:Nat) (s:(Nat×Nat×(List Int)×Int×Int×Int×(List Int))):Option (Nat×Nat×(List Int)×Int×Int×(List Int)):=ZqE n s.1 s.2.1 s.2.2.1 s.2.2.2.1 s.2.2.2.2.1 s.2.2.2.2.2.1 s.2.2.2.2.2.2
def Zvf (rec_:(Nat×Nat×(List Int)×Int×Int×Int×(List Int))→Option (Nat×Nat×(List Int)×Int×Int×(List Int))) (s:(Nat×Nat×(List Int)×Int×Int×Int×(List Int))):Option (Nat×Nat×(List Int)×Int×Int×(List Int)):=ZtS (fun u_off u_len d n guess rest u=>rec_ (u_off,u_len,d,n,guess,rest,u)) s.1 s.2.1 s.2.2.1 s.2.2.2.1 s.2.2.2.2.1 s.2.2.2.2.2.1 s.2.2.2.2.2.2
theorem ZwI:∀n s,Zve (n+1) s=Zvf (Zve n) s:=fun _ _=>rfl
def ZuB (u:(List Int)) (u_off:Nat) (u_len:Nat) (d:(List Int)):Option (Int×(List Int)):=
 chk (inR (d.length:Int) (u_len:Int)) <|
 (u[(u_off+((d.length:Int)).toNat)]?).bind fun u_e=>
 chk (decide (0≤(32:Int))) <|
 chk (inK .i64 ((d.length:Int) - 1)) <|
 chk (inR ((d.length:Int) - 1) (u_len:Int)) <|
 (u[(u_off+(((d.length:Int) - 1)).toNat)]?).bind fun u_e_1=>
 chk (inK .i64 ((d.length:Int) - 1)) <|
 (idx d ((d.length:Int) - 1)).bind fun d_e=>
 chk (decide ((IntKind.wrap .u64 d_e)≠0)) <|
 chk (inK .i64 ((d.length:Int) - 1)) <|
 (idx d ((d.length:Int) - 1)).bind fun d_e_1=>
 (ZqE big u_off u_len d (d.length:Int) (if (4294967295:Int) < (IntKind.wrap .u64 (Int.tdiv (orK .u64 (shlK .u64 (IntKind.wrap .u64 u_e) 32) (IntKind.wrap .u64 u_e_1)) (IntKind.wrap .u64 d_e)))then (4294967295:Int)else (IntKind.wrap .u64 (Int.tdiv (orK .u64 (shlK .u64 (IntKind.wrap .u64 u_e) 32) (IntKind.wrap .u64 u_e_1)) (IntKind.wrap .u64 d_e)))) (IntKind.wrap .u64 ((orK .u64 (shlK .u64 (IntKind.wrap .u64 u_e) 32) (IntKind.wrap .u64 u_e_1)) - (IntKind.wrap .u64 ((if (4294967295:Int) < (IntKind.wrap .u64 (Int.tdiv (orK .u64 (shlK .u64 (IntKind.wrap .u64 u_e) 32) (IntKind.wrap .u64 u_e_1)) (IntKind.wrap .u64 d_e)))then (4294967295:Int)else (IntKind.wrap .u64 (Int.tdiv (orK .u64 (shlK .u64 (IntKind.wrap .u64 u_e) 32) (IntKind.wrap .u64 u_e_1)) (IntKind.wrap .u64 d_e))))*(IntKind.wrap .u64 d_e_1))))) u).bind fun(x0,x1,x2,x3,x4,x5)=>Zs8 x0 x1 x2 x3 x4 x5
def Ztz (u:(List Int)) (u_off:Nat) (u_len:Nat) (d:(List Int)):Option (Int×(List Int)):=
 (ZuB u u_off u_len d).bind fun r=>chk (decide (r.2.length=u.length)&&true) (some r)
def Zs5 (w_off:Nat) (w_len:Nat) (w_:(List Int)):Option (Nat×Nat×(List Int)):=
 some (w_off,w_len,w_)
def Zrs (rec_:Nat→Nat→(List Int)→Option (Nat×Nat×(List Int))) (w_off:Nat) (w_len:Nat) (t14:Bool) (w_:(List Int)):Option (Nat×Nat×(List Int)):=
 bif t14 then (
  chk (inK .i64 (((w_len:Nat):Int) - 1)) <|
  chk (Zb9 0 (((w_len:Nat):Int) - 1) (w_len:Int)) <|
  rec_ (w_off+0) (((((w_len:Nat):Int) - 1)).toNat - 0) w_
 )else (
  some (w_off,w_len,w_)
 )
def ZsG (rec_:Nat→Nat→(List Int)→Option (Nat×Nat×(List Int))) (w_off:Nat) (w_len:Nat) (w_:(List Int)):Option (Nat×Nat×(List Int)):=
 bif (decide (((w_len:Nat):Int) > 0))then (
  chk (inK .i64 (((w_len:Nat):Int) - 1)) <|
  chk (inR (((w_len:Nat):Int) - 1) (w_len:Int)) <|
  (w_[(w_off+((((w_len:Nat):Int) - 1)).toNat)]?).bind fun w__e=>
  Zrs rec_ w_off w_len (w__e == 0) w_
 )else (
  Zrs rec_ w_off w_len false w_
 )
def Zqb:Nat→Nat→Nat→(List Int)→Option (Nat×Nat×(List Int))
 |0,_,_,_=>none
 |n_+1,w_off,w_len,w_=>ZsG (Zqb n_) w_off w_len w_
def Zuu (n:Nat) (s:(Nat×Nat×(List Int))):Option (Nat×Nat×(List Int)):=Zqb n s.1 s.2.1 s.2.2
def Zuv (rec_:(Nat×Nat×(List Int))→Option (Nat×Nat×(List Int))) (s:(Nat×Nat×(List Int))):Option (Nat×Nat×(List Int)):=ZsG (fun w_off w_len w_=>rec_ (w_off,w_len,w_)) s.1 s.2.1 s.2.2
theorem Zwd:∀n s,Zuu (n+1) s=Zuv (Zuu n) s:=fun _ _=>rfl
def ZsJ (w_:(List Int)) (w_off:Nat) (w_len:Nat):Option (Nat×Nat×(List Int)):=
 (Zqb big w_off w_len w_).bind fun(x0,x1,x2)=>Zs5 x0 x1 x2
def ZrV (w_:(List Int)) (w_off:Nat) (w_len:Nat):Option (Nat×Nat×(List Int)):=
 (ZsJ w_ w_off w_len).bind fun r=>chk (decide (r.2.2.length=w_.length)&&true) (some r)
def ZpD (w_:(List Int)) (i:Int):Option Int:=
 bif (decide (i < (w_.length:Int)))then (
  (idx w_ i).bind fun w__e=>
  some w__e
 )else (
  some (0:Int)
 )
def ZtO (w_:(List Int)) (w_off:Nat) (w_len:Nat) (i:Int):Option (Int×(List Int)):=
 bif (decide (i < ((w_len:Nat):Int)))then (
  chk (inR i (w_len:Int)) <|
  (w_[(w_off+(i).toNat)]?).bind fun w__e=>
  some (w__e,w_)
 )else (
  some (0,w_)
 )
def Zrq (w_:(List Int)) (w_off:Nat) (w_len:Nat) (i:Int):Option (Int×(List Int)):=
 (ZtO w_ w_off w_len i).bind fun r=>chk (decide (r.2.length=w_.length)&&true) (some r)
def ZsW (rest_off:Nat) (rest_len:Nat) (q:(List Int)) (rest:(List Int)):Option ((List Int)×(List Int)):=
 (ZnX q).bind fun q_1=>
 (ZnX ((rest.drop rest_off).take rest_len)).bind fun q_2=>
 some (q_1,q_2)
def Zqq (rec_:Int→Nat→Nat→Int→Int→(List Int)→(List Int)→Option (Nat×Nat×(List Int)×(List Int))) (shift:Int) (rest_off:Nat) (rest_len:Nat) (t86:Int) (i:Int) (q:(List Int)) (rest:(List Int)):Option (Nat×Nat×(List Int)×(List Int)):=
 bif (decide (i < t86))then (
  chk (inK .i64 (i+1)) <|
  (Zrq rest rest_off rest_len (i+1)).bind fun(q_1,t90)=>
  chk (decide (0≤(32:Int))) <|
  chk (inR i (rest_len:Int)) <|
  (t90[(rest_off+(i).toNat)]?).bind fun t90_e=>
  chk (decide (0≤shift)) <|
  chk (inR i (rest_len:Int)) <|
  chk (inK .i64 (i+1)) <|
  rec_ shift rest_off rest_len t86 (i+1) q (t90.set (rest_off+(i).toNat) (IntKind.wrap .u32 (shrK .u64 (orK .u64 (shlK .u64 (IntKind.wrap .u64 q_1) 32) (IntKind.wrap .u64 t90_e)) shift)))
 )else (
  some (rest_off,rest_len,q,rest)
 )
def ZpH:Nat→Int→Nat→Nat→Int→Int→(List Int)→(List Int)→Option (Nat×Nat×(List Int)×(List Int))
 |0,_,_,_,_,_,_,_=>none
 |n_+1,shift,rest_off,rest_len,t86,i,q,rest=>Zqq (ZpH n_) shift rest_off rest_len t86 i q rest
def Zua (n:Nat) (s:(Int×Nat×Nat×Int×Int×(List Int)×(List Int))):Option (Nat×Nat×(List Int)×(List Int)):=ZpH n s.1 s.2.1 s.2.2.1 s.2.2.2.1 s.2.2.2.2.1 s.2.2.2.2.2.1 s.2.2.2.2.2.2
def Zsb (rec_:(Int×Nat×Nat×Int×Int×(List Int)×(List Int))→Option (Nat×Nat×(List Int)×(List Int))) (s:(Int×Nat×Nat×Int×Int×(List Int)×(List Int))):Option (Nat×Nat×(List Int)×(List Int)):=Zqq (fun shift rest_off rest_len t86 i q rest=>rec_ (shift,rest_off,rest_len,t86,i,q,rest)) s.1 s.2.1 s.2.2.1 s.2.2.2.1 s.2.2.2.2.1 s.2.2.2.2.2.1 s.2.2.2.2.2.2
theorem ZvY:∀n s,Zua (n+1) s=Zsb (Zua n) s:=fun _ _=>rfl
def ZsX (n:Int) (shift:Int) (u:(List Int)) (q:(List Int)):Option ((List Int)×(List Int)):=
 chk (Zb9 0 n (u.length:Int)) <|
 (ZrV u 0 ((n).toNat - 0)).bind fun(rest_off,rest_len,t83)=>
 (ZpH big shift rest_off rest_len ((rest_len:Nat):Int) (0:Int) q t83).bind fun(x0,x1,x2,x3)=>ZsW x0 x1 x2 x3
def Zqr (rec_:Int→Int→(List Int)→Int→(List Int)→(List Int)→Option (Int×Int×(List Int)×(List Int))) (n:Int) (shift:Int) (d:(List Int)) (j:Int) (u:(List Int)) (q:(List Int)):Option (Int×Int×(List Int)×(List Int)):=
 bif (decide (j≥0))then (
  chk (inK .i64 (j+n)) <|
  chk (inK .i64 ((j+n)+1)) <|
  chk (Zb9 j ((j+n)+1) (u.length:Int)) <|
  (Ztz u ((j).toNat) ((((j+n)+1)).toNat - (j).toNat) d).bind fun(q_1,t77)=>
  chk (inR j (q.length:Int)) <|
  chk (inK .i64 (j - 1)) <|
  rec_ n shift d (j - 1) t77 (q.set ((j).toNat) q_1)
 )else (
  some (n,shift,u,q)
 )
def ZpI:Nat→Int→Int→(List Int)→Int→(List Int)→(List Int)→Option (Int×Int×(List Int)×(List Int))
 |0,_,_,_,_,_,_=>none
 |n_+1,n,shift,d,j,u,q=>Zqr (ZpI n_) n shift d j u q
def Zub (n:Nat) (s:(Int×Int×(List Int)×Int×(List Int)×(List Int))):Option (Int×Int×(List Int)×(List Int)):=ZpI n s.1 s.2.1 s.2.2.1 s.2.2.2.1 s.2.2.2.2.1 s.2.2.2.2.2
def Zsc (rec_:(Int×Int×(List Int)×Int×(List Int)×(List Int))→Option (Int×Int×(List Int)×(List Int))) (s:(Int×Int×(List Int)×Int×(List Int)×(List Int))):Option (Int×Int×(List Int)×(List Int)):=Zqr (fun n shift d j u q=>rec_ (n,shift,d,j,u,q)) s.1 s.2.1 s.2.2.1 s.2.2.2.1 s.2.2.2.2.1 s.2.2.2.2.2
theorem ZvZ:∀n s,Zub (n+1) s=Zsc (Zub n) s:=fun _ _=>rfl
def Zo3 (w_:(List Int)) (v_:(List Int)):Option ((List Int)×(List Int)):=
 (Zod w_ v_).bind fun q=>
 bif (decide (q < 0))then (
  (Zn9 w_).bind fun q_1=>
  some (([]:(List Int)),q_1)
 )else (
  bif ((v_.length:Int) == 1)then (
   (idx v_ 0).bind fun v__e=>
   (Zqv w_ v__e).bind fun(q_2,r_)=>
   (ZnX ([r_]:(List Int))).bind fun q_3=>
   some (q_2,q_3)
  )else (
   chk (inK .i64 ((v_.length:Int) - 1)) <|
   (idx v_ ((v_.length:Int) - 1)).bind fun v__e_1=>
   (Zpf v__e_1).bind fun shift=>
   (Zoy w_ shift).bind fun u=>
   (Zoy v_ shift).bind fun q_4=>
   chk (Zb9 0 (v_.length:Int) (q_4.length:Int)) <|
   chk (inK .i64 ((w_.length:Int) - (v_.length:Int))) <|
   chk (inK .i64 (((w_.length:Int) - (v_.length:Int))+1)) <|
   chk (mkOk (((w_.length:Int) - (v_.length:Int))+1) (((w_.length:Int) - (v_.length:Int))+1) 4) <|
   chk (inK .i64 (((List.replicate ((((w_.length:Int) - (v_.length:Int))+1)).toNat (0:Int)).length:Int) - 1)) <|
   (ZpI big (v_.length:Int) shift ((q_4.drop 0).take (((v_.length:Int)).toNat - 0)) (((List.replicate ((((w_.length:Int) - (v_.length:Int))+1)).toNat (0:Int)).length:Int) - 1) u (List.replicate ((((w_.length:Int) - (v_.length:Int))+1)).toNat (0:Int))).bind fun(x0,x1,x2,x3)=>ZsX x0 x1 x2 x3
  )
 )
def Zsd (w_:(List Int)):Option (List Int):=
 some w_
def ZoT (rec_:(List Int)→(List Int)→Option (List Int)) (w_:(List Int)) (v_:(List Int)):Option (List Int):=
 bif (decide ((v_.length:Int) > 0))then (
  (Zo3 w_ v_).bind fun(q,r_)=>
  rec_ v_ r_
 )else (
  some w_
 )
def Zoj:Nat→(List Int)→(List Int)→Option (List Int)
 |0,_,_=>none
 |n_+1,w_,v_=>ZoT (Zoj n_) w_ v_
def Zpa (w_:(List Int)) (v_:(List Int)):Option (List Int):=
 (Zoj big w_ v_).bind fun x0=>Zsd x0
def Zph (num:ZnC) (den:ZnC):Option ZnD:=
 (Zpa num.Words den.Words).bind fun g=>
 (Zo3 num.Words g).bind fun(x_,q)=>
 (Zo3 den.Words g).bind fun(y,q_1)=>
 (Zn4 (!(num.Neg == den.Neg)) x_).bind fun q_2=>
 (Zn4 false y).bind fun q_3=>
 some (ZnD.mk q_2 q_3)
def ZtT (num:ZnC) (den:ZnC):Option (ZnD×Int):=
 (ZsY ([num,den]:(List ZnC))).bind fun q=>
 bif (!q)then (
  some ((ZnD.mk (ZnC.mk false ([]:(List Int))) (ZnC.mk false ([]:(List Int)))),1)
 )else (
  bif ((den.Words.length:Int) == 0)then (
   some ((ZnD.mk (ZnC.mk false ([]:(List Int))) (ZnC.mk false ([]:(List Int)))),8)
  )else (
   (Zph num den).bind fun q_1=>
   some (q_1,0)
  )
 )
def ZuR (num:Int) (den:Int):Option (ZnD×Int):=
 (ZqY num).bind fun q=>
 (ZqY den).bind fun q_1=>
 (ZtT q q_1).bind fun(q_2,q_3)=>
 some (q_2,q_3)
def ZvM:Option ZnD:=
 (ZuR 0 1).bind fun(f,q)=>
 some f
def Zvz:Option (List (Int×Zot)):=
 some (setB (k:=(.int .i64)) (v:=(.st 6)) (car:=ZuU) (setB (k:=(.int .i64)) (v:=(.st 6)) (car:=ZuU) (setB (k:=(.int .i64)) (v:=(.st 6)) (car:=ZuU) (setB (k:=(.int .i64)) (v:=(.st 6)) (car:=ZuU) (setB (k:=(.int .i64)) (v:=(.st 6)) (car:=ZuU) ([]:(List (Int×Zot))) 1 (Zot.mk ([116,101,120,116]:Str) (none:Option Nat) (some 183:Option Nat))) 2 (Zot.mk ([98,111,111,108]:Str) (some 184:Option Nat) (some 185:Option Nat))) 3 (Zot.mk ([105,110,116,101,103,101,114]:Str) (some 186:Option Nat) (some 187:Option Nat))) 4 (Zot.mk ([100,101,99,105,109,97,108]:Str) (some 188:Option Nat) (some 187:Option Nat))) 5 (Zot.mk ([100,97,116,101]:Str) (some 189:Option Nat) (some 190:Option Nat)))
def Zwm (s cs:Str):Option Str:=
 chk (cs.all fun b=>decide (b.toNat < 128)) <| chk (decide (cs.length < 4294967281)) <| some (Lib.trimS s cs)
def Zw8 (s:Str):Option Str:=
 (Zwm s ([32]:Str)).bind fun q=>
 some q
def ZpC (t4:Bool):Option Bool:=
 some t4
def ZoV (s:Str) (prefix_:Str):Option Bool:=
 bif (decide ((s.length:Int)≥(prefix_.length:Int)))then (
  chk (Zb9 0 (prefix_.length:Int) (s.length:Int)) <|
  ZpC ((s.take ((prefix_.length:Int)).toNat) == prefix_)
 )else (
  ZpC false
 )
def Zqi (s:Str) (prefix_:Str):Option (Str×Bool):=
 (ZoV s prefix_).bind fun q=>
 bif (!q)then (
  some (s,false)
 )else (
  chk (Zb9 (prefix_.length:Int) (s.length:Int) (s.length:Int)) <|
  some ((s.drop ((prefix_.length:Int)).toNat),true)
 )
def ZuC (s:Str) (prefix_:Str):Option (Str×Bool):=
 (Zqi s prefix_).bind fun(after,found)=>
 some (after,found)
def Zp4 (s:Str) (prefix_:Str):Option Str:=
 (ZoV s prefix_).bind fun q=>
 bif q then (
  chk (Zb9 (prefix_.length:Int) (s.length:Int) (s.length:Int)) <|
  some (s.drop ((prefix_.length:Int)).toNat)
 )else (
  some s
 )
def Zuc (s:Str) (prefix_:Str):Option Str:=
 (Zp4 s prefix_).bind fun q=>
 some q
def Zqh (s:Str) (c:Int):Option Int:=
 some (Lib.indexByte s c.toNat.toUInt8)
def ZqD (s:Str) (substr:Str) (n:Int) (t16:Bool):Option Int:=
 bif t16 then (
  some (0:Int)
 )else (
  bif (n == 1)then (
   (idx substr 0).bind fun c=>
   (Zqh s ((c.toNat:Nat):Int)).bind fun q=>
   some q
  )else (
   bif (decide (n≥(s.length:Int)))then (
    some (-1:Int)
   )else (
    none
   )
  )
 )
def Zrp (s:Str) (substr:Str):Option Int:=
 bif ((substr.length:Int) == 0)then (
  ZqD s substr (substr.length:Int) true
 )else (
  ZqD s substr (substr.length:Int) (substr == s)
 )
def Zr9 (s:Str) (sep:Str):Option (Str×Str×Bool):=
 (Zrp s sep).bind fun i=>
 bif (decide (i≥0))then (
  chk (Zb9 0 i (s.length:Int)) <|
  chk (inK .i64 (i+(sep.length:Int))) <|
  chk (Zb9 (i+(sep.length:Int)) (s.length:Int) (s.length:Int)) <|
  some ((s.take (i).toNat),(s.drop ((i+(sep.length:Int))).toNat),true)
 )else (
  some (s,([]:Str),false)
 )
def ZvH (s:Str) (sep:Str):Option (Str×Str×Bool):=
 (Zr9 s sep).bind fun(before,after,found)=>
 some (before,after,found)
def ZsL (t4:Bool):Option Bool:=
 some t4
def Zt3 (s:Str) (most:Int):Option Bool:=
 bif (decide ((s.length:Int)≥1))then (
  bif (decide ((s.length:Int)≤most))then (
   (Zwm s ([48,49,50,51,52,53,54,55,56,57]:Str)).bind fun q=>
   ZsL (q == ([]:Str))
  )else (
   ZsL false
  )
 )else (
  ZsL false
 )
def ZsC (out:(List Int)):Option (List Int):=
 (ZnX out).bind fun q=>
 some q
def ZsD (rec_:(List Int)→(List Int)→Int→Int→(List Int)→Option (List Int)) (v_:(List Int)) (i:Int) (carry:Int) (t17:(List Int)) (t18:Int) (i_1:Int) (out:(List Int)):Option (List Int):=
 chk (inK .i64 (i+(v_.length:Int))) <|
 chk (inR (i+(v_.length:Int)) (out.length:Int)) <|
 chk (inK .i64 (i_1+1)) <|
 rec_ v_ t17 t18 (i_1+1) (out.set (((i+(v_.length:Int))).toNat) (IntKind.wrap .u32 carry))
def Zp5 (rec_:(List Int)→Int→Int→Int→(List Int)→Int→Int→(List Int)→Int→Int→(List Int)→Option ((List Int)×Int×Int×(List Int)×Int×Int×(List Int))) (v_:(List Int)) (i:Int) (x_:Int) (carry:Int) (t17:(List Int)) (t18:Int) (i_1:Int) (t24:(List Int)) (t25:Int) (j:Int) (out:(List Int)):Option ((List Int)×Int×Int×(List Int)×Int×Int×(List Int)):=
 bif (decide (j < t25))then (
  (idx t24 j).bind fun y=>
  chk (inK .i64 (i+j)) <|
  chk (inR (i+j) (out.length:Int)) <|
  (out[((i+j)).toNat]?).bind fun out_e=>
  chk (inK .i64 (i+j)) <|
  chk (inR (i+j) (out.length:Int)) <|
  chk (decide (0≤(32:Int))) <|
  chk (inK .i64 (j+1)) <|
  rec_ v_ i x_ (shrK .u64 (IntKind.wrap .u64 (carry+(IntKind.wrap .u64 ((IntKind.wrap .u64 ((IntKind.wrap .u64 x_)*(IntKind.wrap .u64 y)))+(IntKind.wrap .u64 out_e))))) 32) t17 t18 i_1 t24 t25 (j+1) (out.set (((i+j)).toNat) (IntKind.wrap .u32 (IntKind.wrap .u64 (carry+(IntKind.wrap .u64 ((IntKind.wrap .u64 ((IntKind.wrap .u64 x_)*(IntKind.wrap .u64 y)))+(IntKind.wrap .u64 out_e)))))))
 )else (
  some (v_,i,carry,t17,t18,i_1,out)
 )
def ZqQ:Nat→(List Int)→Int→Int→Int→(List Int)→Int→Int→(List Int)→Int→Int→(List Int)→Option ((List Int)×Int×Int×(List Int)×Int×Int×(List Int))
 |0,_,_,_,_,_,_,_,_,_,_,_=>none
 |n_+1,v_,i,x_,carry,t17,t18,i_1,t24,t25,j,out=>Zp5 (ZqQ n_) v_ i x_ carry t17 t18 i_1 t24 t25 j out
def ZtK (n:Nat) (s:((List Int)×Int×Int×Int×(List Int)×Int×Int×(List Int)×Int×Int×(List Int))):Option ((List Int)×Int×Int×(List Int)×Int×Int×(List Int)):=ZqQ n s.1 s.2.1 s.2.2.1 s.2.2.2.1 s.2.2.2.2.1 s.2.2.2.2.2.1 s.2.2.2.2.2.2.1 s.2.2.2.2.2.2.2.1 s.2.2.2.2.2.2.2.2.1 s.2.2.2.2.2.2.2.2.2.1 s.2.2.2.2.2.2.2.2.2.2
def ZrL (rec_:((List Int)×Int×Int×Int×(List Int)×Int×Int×(List Int)×Int×Int×(List Int))→Option ((List Int)×Int×Int×(List Int)×Int×Int×(List Int))) (s:((List Int)×Int×Int×Int×(List Int)×Int×Int×(List Int)×Int×Int×(List Int))):Option ((List Int)×Int×Int×(List Int)×Int×Int×(List Int)):=Zp5 (fun v_ i x_ carry t17 t18 i_1 t24 t25 j out=>rec_ (v_,i,x_,carry,t17,t18,i_1,t24,t25,j,out)) s.1 s.2.1 s.2.2.1 s.2.2.2.1 s.2.2.2.2.1 s.2.2.2.2.2.1 s.2.2.2.2.2.2.1 s.2.2.2.2.2.2.2.1 s.2.2.2.2.2.2.2.2.1 s.2.2.2.2.2.2.2.2.2.1 s.2.2.2.2.2.2.2.2.2.2
theorem ZvI:∀n s,ZtK (n+1) s=ZrL (ZtK n) s:=fun _ _=>rfl
def Zp6 (rec_:(List Int)→(List Int)→Int→Int→(List Int)→Option (List Int)) (v_:(List Int)) (t17:(List Int)) (t18:Int) (i:Int) (out:(List Int)):Option (List Int):=
 bif (decide (i < t18))then (
  (idx t17 i).bind fun x_=>
  (ZqQ big v_ i x_ (0:Int) t17 t18 i v_ (v_.length:Int) (0:Int) out).bind fun(x0,x1,x2,x3,x4,x5,x6)=>ZsD rec_ x0 x1 x2 x3 x4 x5 x6
 )else (
  some out
 )
def Zpq:Nat→(List Int)→(List Int)→Int→Int→(List Int)→Option (List Int)
 |0,_,_,_,_,_=>none
 |n_+1,v_,t17,t18,i,out=>Zp6 (Zpq n_) v_ t17 t18 i out
def ZtL (n:Nat) (s:((List Int)×(List Int)×Int×Int×(List Int))):Option (List Int):=Zpq n s.1 s.2.1 s.2.2.1 s.2.2.2.1 s.2.2.2.2
def ZrM (rec_:((List Int)×(List Int)×Int×Int×(List Int))→Option (List Int)) (s:((List Int)×(List Int)×Int×Int×(List Int))):Option (List Int):=Zp6 (fun v_ t17 t18 i out=>rec_ (v_,t17,t18,i,out)) s.1 s.2.1 s.2.2.1 s.2.2.2.1 s.2.2.2.2
theorem ZvJ:∀n s,ZtL (n+1) s=ZrM (ZtL n) s:=fun _ _=>rfl
def ZoO (w_:(List Int)) (v_:(List Int)):Option (List Int):=
 chk (inK .i64 ((w_.length:Int)+(v_.length:Int))) <|
 chk (mkOk ((w_.length:Int)+(v_.length:Int)) ((w_.length:Int)+(v_.length:Int)) 4) <|
 (Zpq big v_ w_ (w_.length:Int) (0:Int) (List.replicate (((w_.length:Int)+(v_.length:Int))).toNat (0:Int))).bind fun x0=>ZsC x0
def ZsV (carry:Int) (out:(List Int)):Option (List Int):=
 chk (ZiZ (out.length+([carry]:(List Int)).length) 4) <|
 (ZnX (out++([carry]:(List Int)))).bind fun q=>
 some q
def Zqp (rec_:(List Int)→(List Int)→Int→Int→Int→(List Int)→Option (Int×(List Int))) (w_:(List Int)) (v_:(List Int)) (carry:Int) (t20:Int) (i:Int) (out:(List Int)):Option (Int×(List Int)):=
 bif (decide (i < t20))then (
  (ZpD w_ i).bind fun q=>
  (ZpD v_ i).bind fun q_1=>
  (Zrv q q_1 carry).bind fun(d,carry_1)=>
  chk (ZiZ (out.length+([d]:(List Int)).length) 4) <|
  chk (inK .i64 (i+1)) <|
  rec_ w_ v_ carry_1 t20 (i+1) (out++([d]:(List Int)))
 )else (
  some (carry,out)
 )
def ZqX:Nat→(List Int)→(List Int)→Int→Int→Int→(List Int)→Option (Int×(List Int))
 |0,_,_,_,_,_,_=>none
 |n_+1,w_,v_,carry,t20,i,out=>Zqp (ZqX n_) w_ v_ carry t20 i out
def Zt9 (n:Nat) (s:((List Int)×(List Int)×Int×Int×Int×(List Int))):Option (Int×(List Int)):=ZqX n s.1 s.2.1 s.2.2.1 s.2.2.2.1 s.2.2.2.2.1 s.2.2.2.2.2
def Zsa (rec_:((List Int)×(List Int)×Int×Int×Int×(List Int))→Option (Int×(List Int))) (s:((List Int)×(List Int)×Int×Int×Int×(List Int))):Option (Int×(List Int)):=Zqp (fun w_ v_ carry t20 i out=>rec_ (w_,v_,carry,t20,i,out)) s.1 s.2.1 s.2.2.1 s.2.2.2.1 s.2.2.2.2.1 s.2.2.2.2.2
theorem ZvX:∀n s,Zt9 (n+1) s=Zsa (Zt9 n) s:=fun _ _=>rfl
def ZpG (w_:(List Int)) (v_:(List Int)):Option (List Int):=
 chk (inK .i64 ((if (v_.length:Int) > (w_.length:Int)then (v_.length:Int)else (w_.length:Int))+1)) <|
 chk (mkOk 0 ((if (v_.length:Int) > (w_.length:Int)then (v_.length:Int)else (w_.length:Int))+1) 4) <|
 (ZqX big w_ v_ (0:Int) (if (v_.length:Int) > (w_.length:Int)then (v_.length:Int)else (w_.length:Int)) (0:Int) (List.replicate ((0:Int)).toNat (0:Int))).bind fun(x0,x1)=>ZsV x0 x1
def Zsi (neg:Bool) (num:(List Int)) (den:(List Int)) (t2:Bool) (t2_1:Bool) (t2_2:(List Int)) (t2_3:(List Int)):Option (ZnD×Bool):=
 (Zn4 neg num).bind fun q=>
 (Zn4 false den).bind fun q_1=>
 (Zph q q_1).bind fun q_2=>
 some (q_2,true)
def Zwv (rec_:Bool→(List Int)→(List Int)→(List Int)→Int→Int→Bool→Bool→(List Int)→(List Int)→Option (Bool×(List Int)×(List Int)×Bool×Bool×(List Int)×(List Int))) (neg:Bool) (num:(List Int)) (ten:(List Int)) (den:(List Int)) (t63:Int) (t64:Int) (t2:Bool) (t2_1:Bool) (t2_2:(List Int)) (t2_3:(List Int)):Option (Bool×(List Int)×(List Int)×Bool×Bool×(List Int)×(List Int)):=
 bif (decide (t64 < t63))then (
  (ZoO den ten).bind fun den_1=>
  chk (inK .i64 (t64+1)) <|
  rec_ neg num ten den_1 t63 (t64+1) t2 t2_1 t2_2 t2_3
 )else (
  some (neg,num,den,t2,t2_1,t2_2,t2_3)
 )
def ZtU:Nat→Bool→(List Int)→(List Int)→(List Int)→Int→Int→Bool→Bool→(List Int)→(List Int)→Option (Bool×(List Int)×(List Int)×Bool×Bool×(List Int)×(List Int))
 |0,_,_,_,_,_,_,_,_,_,_=>none
 |n_+1,neg,num,ten,den,t63,t64,t2,t2_1,t2_2,t2_3=>Zwv (ZtU n_) neg num ten den t63 t64 t2 t2_1 t2_2 t2_3
def Zvg (neg:Bool) (back:Str) (num:(List Int)) (ten:(List Int)) (t2:Bool) (t2_1:Bool) (den:(List Int)) (t2_2:(List Int)) (t2_3:(List Int)):Option (ZnD×Bool):=
 (ZtU big neg num ten den (back.length:Int) (0:Int) t2 t2_1 t2_2 t2_3).bind fun(x0,x1,x2,x3,x4,x5,x6)=>Zsi x0 x1 x2 x3 x4 x5 x6
def Zww (rec_:Bool→Str→(List Int)→(List Int)→Int→Int→Bool→Bool→(List Int)→(List Int)→(List Int)→(List Int)→Option (Bool×Str×(List Int)×(List Int)×Bool×Bool×(List Int)×(List Int)×(List Int))) (neg:Bool) (back:Str) (num:(List Int)) (ten:(List Int)) (t48:Int) (t49:Int) (t2:Bool) (t2_1:Bool) (den:(List Int)) (t47:(List Int)) (t2_2:(List Int)) (t2_3:(List Int)):Option (Bool×Str×(List Int)×(List Int)×Bool×Bool×(List Int)×(List Int)×(List Int)):=
 bif (decide (t49 < t48))then (
  chk (inR t49 (t47.length:Int)) <|
  (t47[(t49).toNat]?).bind fun d=>
  (ZoO num ten).bind fun q=>
  (Zqd (IntKind.wrap .u64 (IntKind.wrap .u8 (d - 48)))).bind fun q_1=>
  (ZpG q q_1).bind fun num_1=>
  chk (inK .i64 (t49+1)) <|
  rec_ neg back num_1 ten t48 (t49+1) t2 t2_1 den t47 t2_2 t2_3
 )else (
  some (neg,back,num,ten,t2,t2_1,den,t2_2,t2_3)
 )
def ZtV:Nat→Bool→Str→(List Int)→(List Int)→Int→Int→Bool→Bool→(List Int)→(List Int)→(List Int)→(List Int)→Option (Bool×Str×(List Int)×(List Int)×Bool×Bool×(List Int)×(List Int)×(List Int))
 |0,_,_,_,_,_,_,_,_,_,_,_,_=>none
 |n_+1,neg,back,num,ten,t48,t49,t2,t2_1,den,t47,t2_2,t2_3=>Zww (ZtV n_) neg back num ten t48 t49 t2 t2_1 den t47 t2_2 t2_3
def Zsj (neg:Bool) (front:Str) (back:Str) (t39:Bool) (t2:Bool) (t2_1:Bool) (t2_2:(List Int)) (t2_3:(List Int)):Option (ZnD×Bool):=
 bif t39 then (
  some ((ZnD.mk (ZnC.mk false ([]:(List Int))) (ZnC.mk false ([]:(List Int)))),false)
 )else (
  (Zn9 ([1]:List Int)).bind fun den=>
  chk (decide (front.length+back.length≤Zq)) <|
  chk (decide ((front++back).length≤281474976710656)) <|
  (ZtV big neg back ([]:(List Int)) ([10]:(List Int)) (((front++back).map fun b=>((b.toNat:Nat):Int)).length:Int) (0:Int) t2 t2_1 den ((front++back).map fun b=>((b.toNat:Nat):Int)) t2_2 t2_3).bind fun(x0,x1,x2,x3,x4,x5,x6,x7,x8)=>Zvg x0 x1 x2 x3 x4 x5 x6 x7 x8
 )
def ZtW (body:Str) (neg:Bool) (t2:Bool) (t2_1:Bool) (t2_2:(List Int)) (t2_3:(List Int)):Option (ZnD×Bool):=
 (ZvH body ([46]:Str)).bind fun(front,back,point)=>
 (Zt3 front 15).bind fun q=>
 bif (!q)then (
  Zsj neg front back true t2 t2_1 t2_2 t2_3
 )else (
  bif point then (
   (Zt3 back 9).bind fun q_1=>
   Zsj neg front back (!q_1) t2 t2_1 t2_2 t2_3
  )else (
   Zsj neg front back false t2 t2_1 t2_2 t2_3
  )
 )
def ZqZ (text:Str):Option (ZnD×Bool):=
 (ZuC text ([45]:Str)).bind fun(body,neg)=>
 bif (!neg)then (
  (Zuc text ([43]:Str)).bind fun body_1=>
  ZtW body_1 neg false false ([]:(List Int)) ([]:(List Int))
 )else (
  ZtW body neg false false ([]:(List Int)) ([]:(List Int))
 )
def ZuJ (s cs:Str):Option Str:=
 chk (cs.all fun b=>decide (b.toNat < 128)) <| chk (decide (cs.length < 4294967281)) <| some (Lib.trimLeftS s cs)
def ZvV (s cs:Str):Option Str:=
 chk (cs.all fun b=>decide (b.toNat < 128)) <| chk (decide (cs.length < 4294967281)) <| some (Lib.trimRightS s cs)
def Zwh (zero:Str):Option Str:=
 some zero
def ZwX (rec_:Str→(List Str)→Int→Int→Option (Out Str Str)) (zero:Str) (t6:(List Str)) (t7:Int) (t8:Int):Option (Out Str Str):=
 bif (decide (t8 < t7))then (
  (idx t6 t8).bind fun val=>
  bif (!(val == zero))then (
   some (.ret val)
  )else (
   chk (inK .i64 (t8+1)) <|
   rec_ zero t6 t7 (t8+1)
  )
 )else (
  some (.brk zero)
 )
def ZuS:Nat→Str→(List Str)→Int→Int→Option (Out Str Str)
 |0,_,_,_,_=>none
 |n_+1,zero,t6,t7,t8=>ZwX (ZuS n_) zero t6 t7 t8
def Zv0 (vals:(List Str)):Option Str:=
 (ZuS big ([]:Str) vals (vals.length:Int) (0:Int)).bind fun
  | .ret q_=>some q_
  | .brk x0=>Zwh x0
def ZuG (out:Str):Option (Str×Bool):=
 some (out,true)
def ZuH (out:Str) (t43:Bool):Option (Str×Bool):=
 bif t43 then (
  chk (decide (([45]:Str).length+out.length≤Zq)) <|
  ZuG (([45]:Str)++out)
 )else (
  ZuG out
 )
def ZuI (t:Str) (out:Str):Option (Str×Bool):=
 (idx t 0).bind fun c=>
 bif (((c.toNat:Nat):Int) == 45)then (
  ZuH out (!(out == ([48]:Str)))
 )else (
  ZuH out false
 )
def ZtE (t:Str):Option (Str×Bool):=
 (ZqZ t).bind fun(q,ok)=>
 bif (!ok)then (
  some (([]:Str),false)
 )else (
  (ZuJ t ([43,45]:Str)).bind fun q_1=>
  (ZvH q_1 ([46]:Str)).bind fun(front,back,q_2)=>
  (ZuJ front ([48]:Str)).bind fun front_1=>
  (ZvV back ([48]:Str)).bind fun back_1=>
  (Zv0 ([front_1,([48]:Str)]:(List Str))).bind fun out=>
  bif (!(back_1 == ([]:Str)))then (
   chk (decide (([46]:Str).length+back_1.length≤Zq)) <|
   chk (decide (out.length+(([46]:Str)++back_1).length≤Zq)) <|
   ZuI t (out++(([46]:Str)++back_1))
  )else (
   ZuI t out
  )
 )
def ZsP (n:Int) (s:Str):Option (Str×Bool):=
 (Zvz).bind fun q=>
 bif (!(Zg3 (k:=(.int .i64)) (v:=(.st 6)) (car:=ZuU) q n).isSome)then (
  some (([]:Str),false)
 )else (
  bif (Option.isNone (((Zg3 (k:=(.int .i64)) (v:=(.st 6)) (car:=ZuU) q n).getD (Zot.mk ([]:Str) (none:Option Nat) (none:Option Nat))).canonical))then (
   some (s,true)
  )else (
   (Zw8 s).bind fun q_1=>
   chk (decide (((Zg3 (k:=(.int .i64)) (v:=(.st 6)) (car:=ZuU) q n).getD (Zot.mk ([]:Str) (none:Option Nat) (none:Option Nat))).canonical=some 188)) <|
   (ZtE q_1).bind fun(q_2,q_3)=>
   some (q_2,q_3)
  )
 )
def ZvA (n:Int) (s:Str):Option (ZnD×Bool):=
 (ZsP n s).bind fun(t,ok)=>
 bif (!ok)then (
  some ((ZnD.mk (ZnC.mk false ([]:(List Int))) (ZnC.mk false ([]:(List Int)))),false)
 )else (
  (Zvz).bind fun q=>
  chk (decide (((Zg3 (k:=(.int .i64)) (v:=(.st 6)) (car:=ZuU) q n).getD (Zot.mk ([]:Str) (none:Option Nat) (none:Option Nat))).value=some 187)) <|
  (ZqZ t).bind fun(q_1,q_2)=>
  some (q_1,q_2)
 )
def ZoN (c:ZnB):Option (ZnD×Bool):=
 bif c.Null then (
  (ZvM).bind fun q=>
  some (q,false)
 )else (
  (ZvA 4 c.Text).bind fun(q_1,q_2)=>
  some (q_1,q_2)
 )
def Zvr (h_:Int):Option Int:=
 some h_
def Zty (rec_:Str→Int→Int→Int→Option Int) (s:Str) (h_:Int) (t6:Int) (i:Int):Option Int:=
 bif (decide (i < t6))then (
  (idx s i).bind fun c=>
  chk (inK .i64 (i+1)) <|
  rec_ s (IntKind.wrap .u64 ((xorK .u64 h_ (IntKind.wrap .u64 ((c.toNat:Nat):Int)))*1099511628211)) t6 (i+1)
 )else (
  some h_
 )
def ZuA:Nat→Str→Int→Int→Int→Option Int
 |0,_,_,_,_=>none
 |n_+1,s,h_,t6,i=>Zty (ZuA n_) s h_ t6 i
def Zwf (n:Nat) (s:(Str×Int×Int×Int)):Option Int:=ZuA n s.1 s.2.1 s.2.2.1 s.2.2.2
def ZuM (rec_:(Str×Int×Int×Int)→Option Int) (s:(Str×Int×Int×Int)):Option Int:=Zty (fun s h_ t6 i=>rec_ (s,h_,t6,i)) s.1 s.2.1 s.2.2.1 s.2.2.2
theorem Zxa:∀n s,Zwf (n+1) s=ZuM (Zwf n) s:=fun _ _=>rfl
def Zo9 (s:Str):Option Int:=
 (ZuA big s (14695981039346656037:Int) (s.length:Int) (0:Int)).bind fun x0=>Zvr x0
def ZqF (t2:Bool):Option Bool:=
 some t2
def Zra (f:ZnD):Option Bool:=
 (ZsY ([f.Num,f.Den]:(List ZnC))).bind fun q=>
 bif q then (
  bif (decide ((f.Den.Words.length:Int) > 0))then (
   bif (!f.Den.Neg)then (
    (Zpa f.Num.Words f.Den.Words).bind fun q_1=>
    (Zod q_1 ([1]:List Int)).bind fun q_2=>
    ZqF (q_2 == 0)
   )else (
    ZqF false
   )
  )else (
   ZqF false
  )
 )else (
  ZqF false
 )
def Zoz (a:ZnC) (b:ZnC):Option ZnC:=
 (ZoO a.Words b.Words).bind fun q=>
 (Zn4 (!(a.Neg == b.Neg)) q).bind fun q_1=>
 some q_1
def ZsF (out:(List Int)):Option (List Int):=
 (ZnX out).bind fun q=>
 some q
def Zp9 (rec_:(List Int)→(List Int)→Int→Int→Int→(List Int)→Option (List Int)) (w_:(List Int)) (v_:(List Int)) (borrow:Int) (t12:Int) (i:Int) (out:(List Int)):Option (List Int):=
 bif (decide (i < t12))then (
  (idx w_ i).bind fun w__e=>
  (ZpD v_ i).bind fun q=>
  (ZqC w__e q borrow).bind fun(q_1,borrow_1)=>
  chk (inR i (out.length:Int)) <|
  chk (inK .i64 (i+1)) <|
  rec_ w_ v_ borrow_1 t12 (i+1) (out.set ((i).toNat) q_1)
 )else (
  some out
 )
def ZqS:Nat→(List Int)→(List Int)→Int→Int→Int→(List Int)→Option (List Int)
 |0,_,_,_,_,_,_=>none
 |n_+1,w_,v_,borrow,t12,i,out=>Zp9 (ZqS n_) w_ v_ borrow t12 i out
def ZtN (n:Nat) (s:((List Int)×(List Int)×Int×Int×Int×(List Int))):Option (List Int):=ZqS n s.1 s.2.1 s.2.2.1 s.2.2.2.1 s.2.2.2.2.1 s.2.2.2.2.2
def ZrP (rec_:((List Int)×(List Int)×Int×Int×Int×(List Int))→Option (List Int)) (s:((List Int)×(List Int)×Int×Int×Int×(List Int))):Option (List Int):=Zp9 (fun w_ v_ borrow t12 i out=>rec_ (w_,v_,borrow,t12,i,out)) s.1 s.2.1 s.2.2.1 s.2.2.2.1 s.2.2.2.2.1 s.2.2.2.2.2
theorem ZvL:∀n s,ZtN (n+1) s=ZrP (ZtN n) s:=fun _ _=>rfl
def Zpk (w_:(List Int)) (v_:(List Int)):Option (List Int):=
 chk (mkOk (w_.length:Int) (w_.length:Int) 4) <|
 (ZqS big w_ v_ (0:Int) (w_.length:Int) (0:Int) (List.replicate ((w_.length:Int)).toNat (0:Int))).bind fun x0=>ZsF x0
def Ztn (a:ZnC) (b:ZnC):Option ZnC:=
 bif (a.Neg == b.Neg)then (
  (ZpG a.Words b.Words).bind fun q=>
  (Zn4 a.Neg q).bind fun q_1=>
  some q_1
 )else (
  (Zod a.Words b.Words).bind fun q_2=>
  bif (decide (q_2≥0))then (
   (Zpk a.Words b.Words).bind fun q_3=>
   (Zn4 a.Neg q_3).bind fun q_4=>
   some q_4
  )else (
   (Zpk b.Words a.Words).bind fun q_5=>
   (Zn4 b.Neg q_5).bind fun q_6=>
   some q_6
  )
 )
def ZuQ (a:ZnD) (b:ZnD):Option (ZnC×ZnC):=
 (Zoz a.Num b.Den).bind fun q=>
 (Zoz b.Num a.Den).bind fun q_1=>
 (Ztn q q_1).bind fun num=>
 (Zoz a.Den b.Den).bind fun den=>
 some (num,den)
def Zpi (t18:Bool) (a:ZnD) (b:ZnD) (t6:Bool) (t6_1:Bool) (t6_2:(List Int)) (t6_3:(List Int)):Option (ZnD×Int):=
 bif t18 then (
  some ((ZnD.mk (ZnC.mk false ([]:(List Int))) (ZnC.mk false ([]:(List Int)))),1)
 )else (
  (ZuQ a b).bind fun(num,den)=>
  bif ((den.Words.length:Int) == 0)then (
   some ((ZnD.mk (ZnC.mk false ([]:(List Int))) (ZnC.mk false ([]:(List Int)))),8)
  )else (
   (Zph num den).bind fun f=>
   bif (decide ((if (f.Den.Words.length:Int) > (f.Num.Words.length:Int)then (f.Den.Words.length:Int)else (f.Num.Words.length:Int)) > 256))then (
    some ((ZnD.mk (ZnC.mk false ([]:(List Int))) (ZnC.mk false ([]:(List Int)))),3)
   )else (
    some (f,0)
   )
  )
 )
def Zqc (a:ZnD) (b:ZnD):Option (ZnD×Int):=
 (Zra a).bind fun q=>
 bif (!q)then (
  Zpi true a b false false ([]:(List Int)) ([]:(List Int))
 )else (
  (Zra b).bind fun q_1=>
  Zpi (!q_1) a b false false ([]:(List Int)) ([]:(List Int))
 )
def Zuw (a:ZnD) (b:ZnD):Option (ZnD×Int):=
 (Zqc a b).bind fun(q,q_1)=>
 some (q,q_1)
def Zwu (f:ZnD) (a1:Int):Option ZnD:=
 some f
def ZwK (a:ZnD) (b:ZnD):Option ZnD:=
 (Zuw a b).bind fun(q,q_1)=>
 (Zwu q q_1).bind fun q_2=>
 some q_2
def Zud (x_:Int) (n:Int):Option Int:=
 (idx ([0,1,2,2,3,3,3,3,4,4,4,4,4,4,4,4,5,5,5,5,5,5,5,5,5,5,5,5,5,5,5,5,6,6,6,6,6,6,6,6,6,6,6,6,6,6,6,6,6,6,6,6,6,6,6,6,6,6,6,6,6,6,6,6,7,7,7,7,7,7,7,7,7,7,7,7,7,7,7,7,7,7,7,7,7,7,7,7,7,7,7,7,7,7,7,7,7,7,7,7,7,7,7,7,7,7,7,7,7,7,7,7,7,7,7,7,7,7,7,7,7,7,7,7,7,7,7,7,8,8,8,8,8,8,8,8,8,8,8,8,8,8,8,8,8,8,8,8,8,8,8,8,8,8,8,8,8,8,8,8,8,8,8,8,8,8,8,8,8,8,8,8,8,8,8,8,8,8,8,8,8,8,8,8,8,8,8,8,8,8,8,8,8,8,8,8,8,8,8,8,8,8,8,8,8,8,8,8,8,8,8,8,8,8,8,8,8,8,8,8,8,8,8,8,8,8,8,8,8,8,8,8,8,8,8,8,8,8,8,8,8,8,8,8,8,8,8,8,8,8,8,8,8,8,8,8]:Str) (IntKind.wrap .u8 x_)).bind fun c=>
 chk (inK .i64 (n+(IntKind.wrap .i64 ((c.toNat:Nat):Int)))) <|
 some (n+(IntKind.wrap .i64 ((c.toNat:Nat):Int)))
def Zue (x_:Int) (n:Int):Option Int:=
 bif (decide (x_≥256))then (
  chk (decide (0≤(8:Int))) <|
  chk (inK .i64 (n+8)) <|
  Zud (shrK .u64 x_ 8) (n+8)
 )else (
  Zud x_ n
 )
def Zuf (x_:Int) (n:Int):Option Int:=
 bif (decide (x_≥65536))then (
  chk (decide (0≤(16:Int))) <|
  chk (inK .i64 (n+16)) <|
  Zue (shrK .u64 x_ 16) (n+16)
 )else (
  Zue x_ n
 )
def Zu0 (x_:Int):Option Int:=
 bif (decide (x_≥4294967296))then (
  chk (decide (0≤(32:Int))) <|
  Zuf (shrK .u64 x_ 32) (32:Int)
 )else (
  Zuf x_ (0:Int)
 )
def ZuN (x_:Int):Option Int:=
 (Zu0 x_).bind fun q=>
 some q
def Zsk (x_:Int):Option Bool:=
 some (x_ != x_)
def ZsN (x_:Int) (y:Int):Option Int:=
 (Zsk x_).bind fun xNaN=>
 (Zsk y).bind fun yNaN=>
 bif xNaN then (
  bif yNaN then (
   some (0:Int)
  )else (
   some (-1:Int)
  )
 )else (
  bif yNaN then (
   some (1:Int)
  )else (
   bif (decide (x_ < y))then (
    some (-1:Int)
   )else (
    bif (decide (x_ > y))then (
     some (1:Int)
    )else (
     some (0:Int)
    )
   )
  )
 )
def ZoW (a b:Str):Option Int:=
 some (Lib.compareBytes a b)
def Zt1 (a:Str) (b:Str):Option Int:=
 (ZoW a b).bind fun q=>
 some q
def Zv1 (zero:Int):Option Int:=
 some zero
def ZqH (rec_:Int→(List Int)→Int→Int→Option (Out Int Int)) (zero:Int) (t6:(List Int)) (t7:Int) (t8:Int):Option (Out Int Int):=
 bif (decide (t8 < t7))then (
  (idx t6 t8).bind fun val=>
  bif (val != zero)then (
   some (.ret val)
  )else (
   chk (inK .i64 (t8+1)) <|
   rec_ zero t6 t7 (t8+1)
  )
 )else (
  some (.brk zero)
 )
def ZtY:Nat→Int→(List Int)→Int→Int→Option (Out Int Int)
 |0,_,_,_,_=>none
 |n_+1,zero,t6,t7,t8=>ZqH (ZtY n_) zero t6 t7 t8
def Zvh (vals:(List Int)):Option Int:=
 (ZtY big (0:Int) vals (vals.length:Int) (0:Int)).bind fun
  | .ret q_=>some q_
  | .brk x0=>Zv1 x0
def Ztl (a:ZnA) (b:ZnA):Option Int:=
 (ZsN a.Hash b.Hash).bind fun q=>
 (Zt1 a.Key b.Key).bind fun q_1=>
 (Zvh ([q,q_1]:(List Int))).bind fun q_2=>
 some q_2
def Zon (data:(List ZnA)):Option (List ZnA):=
 some data
def Zoo (rec_:Int→Int→Int→(List ZnA)→Option (List ZnA)) (a:Int) (b:Int) (i:Int) (data:(List ZnA)):Option (List ZnA):=
 chk (inK .i64 (i+1)) <|
 rec_ a b (i+1) data
def ZnW (rec_:Int→Int→Int→Int→(List ZnA)→Option (Int×Int×Int×(List ZnA))) (a:Int) (b:Int) (i:Int) (j:Int) (t34:Bool) (data:(List ZnA)):Option (Int×Int×Int×(List ZnA)):=
 bif t34 then (
  chk (inK .i64 (j - 1)) <|
  chk (inK .i64 (j - 1)) <|
  chk (inR (j - 1) (data.length:Int)) <|
  (data[((j - 1)).toNat]?).bind fun data_e=>
  chk (inR j (data.length:Int)) <|
  (data[(j).toNat]?).bind fun data_e_1=>
  chk (inR j (data.length:Int)) <|
  chk (inR (j - 1) ((data.set ((j).toNat) data_e).length:Int)) <|
  chk (inK .i64 (j - 1)) <|
  rec_ a b i (j - 1) ((data.set ((j).toNat) data_e).set (((j - 1)).toNat) data_e_1)
 )else (
  some (a,b,i,data)
 )
def Zoe (rec_:Int→Int→Int→Int→(List ZnA)→Option (Int×Int×Int×(List ZnA))) (a:Int) (b:Int) (i:Int) (j:Int) (data:(List ZnA)):Option (Int×Int×Int×(List ZnA)):=
 bif (decide (j > a))then (
  chk (inR j (data.length:Int)) <|
  (data[(j).toNat]?).bind fun data_e=>
  chk (inK .i64 (j - 1)) <|
  chk (inR (j - 1) (data.length:Int)) <|
  (data[((j - 1)).toNat]?).bind fun data_e_1=>
  (Ztl data_e data_e_1).bind fun q=>
  ZnW rec_ a b i j (decide (q < 0)) data
 )else (
  ZnW rec_ a b i j false data
 )
def ZnN:Nat→Int→Int→Int→Int→(List ZnA)→Option (Int×Int×Int×(List ZnA))
 |0,_,_,_,_,_=>none
 |n_+1,a,b,i,j,data=>Zoe (ZnN n_) a b i j data
def Zo4 (n:Nat) (s:(Int×Int×Int×Int×(List ZnA))):Option (Int×Int×Int×(List ZnA)):=ZnN n s.1 s.2.1 s.2.2.1 s.2.2.2.1 s.2.2.2.2
def Zo5 (rec_:(Int×Int×Int×Int×(List ZnA))→Option (Int×Int×Int×(List ZnA))) (s:(Int×Int×Int×Int×(List ZnA))):Option (Int×Int×Int×(List ZnA)):=Zoe (fun a b i j data=>rec_ (a,b,i,j,data)) s.1 s.2.1 s.2.2.1 s.2.2.2.1 s.2.2.2.2
theorem ZrK:∀n s,Zo4 (n+1) s=Zo5 (Zo4 n) s:=fun _ _=>rfl
def Zof (rec_:Int→Int→Int→(List ZnA)→Option (List ZnA)) (a:Int) (b:Int) (i:Int) (data:(List ZnA)):Option (List ZnA):=
 bif (decide (i < b))then (
  (ZnN big a b i i data).bind fun(x0,x1,x2,x3)=>Zoo rec_ x0 x1 x2 x3
 )else (
  some data
 )
def ZnP:Nat→Int→Int→Int→(List ZnA)→Option (List ZnA)
 |0,_,_,_,_=>none
 |n_+1,a,b,i,data=>Zof (ZnP n_) a b i data
def Zn3 (data:(List ZnA)) (a:Int) (b:Int):Option (List ZnA):=
 chk (inK .i64 (a+1)) <|
 (ZnP big a b (a+1) data).bind fun x0=>Zon x0
def ZnY (data:(List ZnA)) (a:Int) (b:Int):Option (List ZnA):=
 (Zn3 data a b).bind fun r=>chk (decide (r.length=data.length)&&true) (some r)
def ZoA (rec_:Int→Int→Int→Bool→Bool→(List ZnA)→Option (Out Unit (List ZnA))) (a:Int) (b:Int) (limit:Int) (wasBalanced:Bool) (wasPartitioned:Bool) (data:(List ZnA)):Option (Out Unit (List ZnA)):=
 chk (inK .i64 (b - a)) <|
 bif (decide ((b - a)≤12))then (
  (ZnY data a b).bind fun t26=>
  some (.ret t26)
 )else (
  bif (limit == 0)then (
   none
  )else (
   bif (!wasBalanced)then (
    none
   )else (
    none
   )
  )
 )
def ZoG:Nat→Int→Int→Int→Bool→Bool→(List ZnA)→Option (Out Unit (List ZnA))
 |0,_,_,_,_,_,_=>none
 |n_+1,a,b,limit,wasBalanced,wasPartitioned,data=>ZoA (ZoG n_) a b limit wasBalanced wasPartitioned data
def Zo2 (data:(List ZnA)) (a:Int) (b:Int) (limit:Int):Option (List ZnA):=
 (ZoG big a b limit true true data).bind fun
  | .ret q_=>some q_
  | .brk _=>none
def Zoc (data:(List ZnA)) (a:Int) (b:Int) (limit:Int):Option (List ZnA):=
 (Zo2 data a b limit).bind fun r=>chk (decide (r.length=data.length)&&true) (some r)
def Zoi (x_:(List ZnA)):Option (List ZnA):=
 (ZuN (IntKind.wrap .u64 (x_.length:Int))).bind fun q=>
 (Zoc x_ 0 (x_.length:Int) q).bind fun t7=>
 some t7
def ZnV (x_:(List ZnA)):Option (List ZnA):=
 (Zoi x_).bind fun r=>chk (decide (r.length=x_.length)&&true) (some r)
def Zvq (out:(List ZnA)):Option (List ZnA):=
 (ZnV out).bind fun t82=>
 some t82
def Zte (rec_:(List ZnB)→Int→Int→ZnI→(List (Str×Int))→(List ZnA)→Option (List ZnA)) (t15:(List ZnB)) (t16:Int) (i:Int) (value:ZnI) (at_:(List (Str×Int))) (out:(List ZnA)):Option (List ZnA):=
 chk (inK .i64 (i+1)) <|
 rec_ t15 t16 (i+1) value at_ out
def Ztf (rec_:(List ZnB)→Int→Int→ZnI→(List (Str×Int))→(List ZnA)→Option (List ZnA)) (n:Int) (t15:(List ZnB)) (t16:Int) (i:Int) (value:ZnI) (at_:(List (Str×Int))) (out:(List ZnA)) (v_:ZnD):Option (List ZnA):=
 chk (inR n (out.length:Int)) <|
 (out[(n).toNat]?).bind fun out_e=>
 chk (inK .i64 (out_e.Count+1)) <|
 chk (inR n (out.length:Int)) <|
 (out[(n).toNat]?).bind fun el=>
 chk (inR n ((out.set ((n).toNat) (ZnA.mk el.Key el.Hash (out_e.Count+1) el.Sum)).length:Int)) <|
 ((out.set ((n).toNat) (ZnA.mk el.Key el.Hash (out_e.Count+1) el.Sum))[(n).toNat]?).bind fun Sum_e=>
 (ZwK Sum_e.Sum v_).bind fun q=>
 chk (inR n ((out.set ((n).toNat) (ZnA.mk el.Key el.Hash (out_e.Count+1) el.Sum)).length:Int)) <|
 ((out.set ((n).toNat) (ZnA.mk el.Key el.Hash (out_e.Count+1) el.Sum))[(n).toNat]?).bind fun el_1=>
 Zte rec_ t15 t16 i value at_ ((out.set ((n).toNat) (ZnA.mk el.Key el.Hash (out_e.Count+1) el.Sum)).set ((n).toNat) (ZnA.mk el_1.Key el_1.Hash el_1.Count q))
def Zq7 (rec_:(List ZnB)→Int→Int→ZnI→(List (Str×Int))→(List ZnA)→Option (List ZnA)) (t15:(List ZnB)) (t16:Int) (i:Int) (t36:Bool) (value:ZnI) (at_:(List (Str×Int))) (out:(List ZnA)) (k:ZnB) (v_:ZnD):Option (List ZnA):=
 bif t36 then (
  Zte rec_ t15 t16 i value at_ out
 )else (
  bif (!(Zg3 (k:= .str) (v:=(.int .i64)) (car:=ZuU) at_ k.Text).isSome)then (
   (Zo9 k.Text).bind fun q=>
   (ZvM).bind fun q_1=>
   chk (ZiZ (out.length+([(ZnA.mk k.Text q 0 q_1)]:(List ZnA)).length) 96) <|
   Ztf rec_ (out.length:Int) t15 t16 i value (setB (k:= .str) (v:=(.int .i64)) (car:=ZuU) at_ k.Text (out.length:Int)) (out++([(ZnA.mk k.Text q 0 q_1)]:(List ZnA))) v_
  )else (
   Ztf rec_ ((Zg3 (k:= .str) (v:=(.int .i64)) (car:=ZuU) at_ k.Text).getD (0:Int)) t15 t16 i value at_ out v_
  )
 )
def Ztx (rec_:(List ZnB)→Int→Int→ZnI→(List (Str×Int))→(List ZnA)→Option (List ZnA)) (t15:(List ZnB)) (t16:Int) (i:Int) (value:ZnI) (at_:(List (Str×Int))) (out:(List ZnA)):Option (List ZnA):=
 bif (decide (i < t16))then (
  (idx t15 i).bind fun k=>
  (idx value.Cells i).bind fun Cell=>
  (ZoN Cell).bind fun(v_,ok)=>
  bif k.Null then (
   Zq7 rec_ t15 t16 i true value at_ out k v_
  )else (
   Zq7 rec_ t15 t16 i (!ok) value at_ out k v_
  )
 )else (
  some out
 )
def Zqg:Nat→(List ZnB)→Int→Int→ZnI→(List (Str×Int))→(List ZnA)→Option (List ZnA)
 |0,_,_,_,_,_,_=>none
 |n_+1,t15,t16,i,value,at_,out=>Ztx (Zqg n_) t15 t16 i value at_ out
def Zwe (n:Nat) (s:((List ZnB)×Int×Int×ZnI×(List (Str×Int))×(List ZnA))):Option (List ZnA):=Zqg n s.1 s.2.1 s.2.2.1 s.2.2.2.1 s.2.2.2.2.1 s.2.2.2.2.2
def ZuK (rec_:((List ZnB)×Int×Int×ZnI×(List (Str×Int))×(List ZnA))→Option (List ZnA)) (s:((List ZnB)×Int×Int×ZnI×(List (Str×Int))×(List ZnA))):Option (List ZnA):=Ztx (fun t15 t16 i value at_ out=>rec_ (t15,t16,i,value,at_,out)) s.1 s.2.1 s.2.2.1 s.2.2.2.1 s.2.2.2.2.1 s.2.2.2.2.2
theorem Zw9:∀n s,Zwe (n+1) s=ZuK (Zwe n) s:=fun _ _=>rfl
def ZuL (key:ZnI) (value:ZnI):Option (List ZnA):=
 (Zqg big key.Cells (key.Cells.length:Int) (0:Int) value ([]:(List (Str×Int))) ([]:(List ZnA))).bind fun x0=>Zvq x0
def Zuy (k:Int) (t17:Bool) (key:ZnI) (value:ZnI) (t6:Int) (t6_1:Bool) (t6_2:(List ZnA)):Option (ZnG×Int):=
 bif t17 then (
  some ((ZnG.mk 0 false ([]:(List ZnA))),1)
 )else (
  (ZuL key value).bind fun l=>
  chk (Zb9 0 (if (l.length:Int) < k then (l.length:Int)else k) (l.length:Int)) <|
  some ((ZnG.mk k (decide ((l.length:Int)≤k)) ((l.drop 0).take (((if (l.length:Int) < k then (l.length:Int)else k)).toNat - 0))),0)
 )
def Zuz (k:Int) (t9:Bool) (key:ZnI) (value:ZnI) (t6:Int) (t6_1:Bool) (t6_2:(List ZnA)):Option (ZnG×Int):=
 bif t9 then (
  some ((ZnG.mk 0 false ([]:(List ZnA))),2)
 )else (
  bif ((key.Cells.length:Int) != (value.Cells.length:Int))then (
   Zuy k true key value t6 t6_1 t6_2
  )else (
   Zuy k (decide ((key.Cells.length:Int) > 4096)) key value t6 t6_1 t6_2
  )
 )
def Zt2 (key:ZnI) (value:ZnI) (k:Int):Option (ZnG×Int):=
 bif (decide (k < 1))then (
  Zuz k true key value (0:Int) false ([]:(List ZnA))
 )else (
  Zuz k (decide (k > 256)) key value (0:Int) false ([]:(List ZnA))
 )
def ZuZ:Option Bool:=
 some true
def ZqA (rec_:(List ZnA)→Int→Int→ZnG→Option (Out Unit Bool)) (t35:(List ZnA)) (t36:Int) (i:Int) (t73:Bool) (s:ZnG):Option (Out Unit Bool):=
 bif t73 then (
  some (.ret false)
 )else (
  chk (inK .i64 (i+1)) <|
  rec_ t35 t36 (i+1) s
 )
def Zs4 (rec_:(List ZnA)→Int→Int→ZnG→Option (Out Unit Bool)) (t35:(List ZnA)) (t36:Int) (i:Int) (s:ZnG):Option (Out Unit Bool):=
 bif (decide (i < t36))then (
  (idx t35 i).bind fun e=>
  (Zo9 e.Key).bind fun q=>
  bif (e.Hash != q)then (
   ZqA rec_ t35 t36 i true s
  )else (
   bif (decide (e.Count < 1))then (
    ZqA rec_ t35 t36 i true s
   )else (
    (Zra e.Sum).bind fun q_1=>
    bif (!q_1)then (
     ZqA rec_ t35 t36 i true s
    )else (
     bif (decide (i > 0))then (
      chk (inK .i64 (i - 1)) <|
      (idx s.Entries (i - 1)).bind fun Entrie=>
      (Ztl Entrie e).bind fun q_2=>
      ZqA rec_ t35 t36 i (decide (q_2≥0)) s
     )else (
      ZqA rec_ t35 t36 i false s
     )
    )
   )
  )
 )else (
  some (.brk ())
 )
def Zru:Nat→(List ZnA)→Int→Int→ZnG→Option (Out Unit Bool)
 |0,_,_,_,_=>none
 |n_+1,t35,t36,i,s=>Zs4 (Zru n_) t35 t36 i s
def ZvW (n:Nat) (s:((List ZnA)×Int×Int×ZnG)):Option (Out Unit Bool):=Zru n s.1 s.2.1 s.2.2.1 s.2.2.2
def ZuD (rec_:((List ZnA)×Int×Int×ZnG)→Option (Out Unit Bool)) (s:((List ZnA)×Int×Int×ZnG)):Option (Out Unit Bool):=Zs4 (fun t35 t36 i s=>rec_ (t35,t36,i,s)) s.1 s.2.1 s.2.2.1 s.2.2.2
theorem ZwW:∀n s,ZvW (n+1) s=ZuD (ZvW n) s:=fun _ _=>rfl
def ZqB (t33:Bool) (s:ZnG):Option Bool:=
 bif t33 then (
  some false
 )else (
  (Zru big s.Entries (s.Entries.length:Int) (0:Int) s).bind fun
   | .ret q_=>some q_
   | .brk ()=>ZuZ
 )
def Ztm (s:ZnG):Option Bool:=
 bif (decide (s.K < 1))then (
  ZqB true s
 )else (
  bif (decide (s.K > 256))then (
   ZqB true s
  )else (
   bif (decide ((s.Entries.length:Int) > s.K))then (
    ZqB true s
   )else (
    bif (!s.All)then (
     ZqB (decide ((s.Entries.length:Int) < s.K)) s
    )else (
     ZqB false s
    )
   )
  )
 )
def Zt8 (w_:(List Int)):Option (List Int):=
 some w_
def Zr5 (rec_:(List Int)→Option (List Int)) (w_:(List Int)) (t14:Bool):Option (List Int):=
 bif t14 then (
  chk (inK .i64 ((w_.length:Int) - 1)) <|
  chk (Zb9 0 ((w_.length:Int) - 1) (w_.length:Int)) <|
  rec_ (w_.take (((w_.length:Int) - 1)).toNat)
 )else (
  some w_
 )
def Ztu (rec_:(List Int)→Option (List Int)) (w_:(List Int)):Option (List Int):=
 bif (decide ((w_.length:Int) > 0))then (
  chk (inK .i64 ((w_.length:Int) - 1)) <|
  (idx w_ ((w_.length:Int) - 1)).bind fun w__e=>
  Zr5 rec_ w_ (w__e == 0)
 )else (
  Zr5 rec_ w_ false
 )
def Zog:Nat→(List Int)→Option (List Int)
 |0,_=>none
 |n_+1,w_=>Ztu (Zog n_) w_
def ZnT (w_:(List Int)):Option (List Int):=
 (Zog big w_).bind fun x0=>Zt8 x0
def ZqP (t4:ZnC):Option ZnC:=
 some t4
def ZnQ (neg:Bool) (w_:(List Int)):Option ZnC:=
 (ZnT w_).bind fun w__1=>
 bif neg then (
  ZqP (ZnC.mk (decide ((w__1.length:Int) > 0)) w__1)
 )else (
  ZqP (ZnC.mk false w__1)
 )
def Zpu (n:Int) (u:Int) (t2:Bool) (t2_1:(List Int)):Option ZnC:=
 chk (decide (0≤(32:Int))) <|
 (ZnQ (decide (n < 0)) ([(IntKind.wrap .u32 u),(IntKind.wrap .u32 (shrK .u64 u 32))]:(List Int))).bind fun q=>
 some q
def ZnO (n:Int):Option ZnC:=
 bif (decide (n < 0))then (
  Zpu n (IntKind.wrap .u64 (0 - (IntKind.wrap .u64 n))) false ([]:(List Int))
 )else (
  Zpu n (IntKind.wrap .u64 n) false ([]:(List Int))
 )
def ZnZ (t2:Bool):Option Bool:=
 some t2
def Zo0 (a:ZnC):Option Bool:=
 bif (decide ((a.Words.length:Int)≤256))then (
  bif ((a.Words.length:Int) == 0)then (
   bif (!a.Neg)then (
    ZnZ true
   )else (
    bif (decide ((a.Words.length:Int) > 0))then (
     chk (inK .i64 ((a.Words.length:Int) - 1)) <|
     (idx a.Words ((a.Words.length:Int) - 1)).bind fun Word=>
     ZnZ (Word != 0)
    )else (
     ZnZ false
    )
   )
  )else (
   bif (decide ((a.Words.length:Int) > 0))then (
    chk (inK .i64 ((a.Words.length:Int) - 1)) <|
    (idx a.Words ((a.Words.length:Int) - 1)).bind fun Word_1=>
    ZnZ (Word_1 != 0)
   )else (
    ZnZ false
   )
  )
 )else (
  ZnZ false
 )
def Zr6 (out:(List Int)):Option (List Int):=
 (ZnT out).bind fun q=>
 some q
def Zpd (rec_:(List Int)→Int→Int→(List Int)→Option (List Int)) (a:(List Int)) (t9:Int) (i:Int) (out:(List Int)):Option (List Int):=
 chk (inK .i64 (i+1)) <|
 rec_ a t9 (i+1) out
def ZpL (rec_:(List Int)→Int→Int→(List Int)→Option (List Int)) (a:(List Int)) (t9:Int) (i:Int) (out:(List Int)):Option (List Int):=
 bif (decide (i < t9))then (
  chk (inR i (out.length:Int)) <|
  (out[(i).toNat]?).bind fun out_e=>
  chk (decide (0≤(1:Int))) <|
  chk (inR i (out.length:Int)) <|
  chk (inK .i64 (i+1)) <|
  bif (decide ((i+1) < (a.length:Int)))then (
   chk (inR i ((out.set ((i).toNat) (shrK .u32 out_e 1)).length:Int)) <|
   ((out.set ((i).toNat) (shrK .u32 out_e 1))[(i).toNat]?).bind fun e_e=>
   chk (inK .i64 (i+1)) <|
   (idx a (i+1)).bind fun a_e=>
   chk (decide (0≤(31:Int))) <|
   chk (inR i ((out.set ((i).toNat) (shrK .u32 out_e 1)).length:Int)) <|
   Zpd rec_ a t9 i ((out.set ((i).toNat) (shrK .u32 out_e 1)).set ((i).toNat) (orK .u32 e_e (shlK .u32 a_e 31)))
  )else (
   Zpd rec_ a t9 i (out.set ((i).toNat) (shrK .u32 out_e 1))
  )
 )else (
  some out
 )
def Zpc:Nat→(List Int)→Int→Int→(List Int)→Option (List Int)
 |0,_,_,_,_=>none
 |n_+1,a,t9,i,out=>ZpL (Zpc n_) a t9 i out
def Ztv (n:Nat) (s:((List Int)×Int×Int×(List Int))):Option (List Int):=Zpc n s.1 s.2.1 s.2.2.1 s.2.2.2
def Zrn (rec_:((List Int)×Int×Int×(List Int))→Option (List Int)) (s:((List Int)×Int×Int×(List Int))):Option (List Int):=ZpL (fun a t9 i out=>rec_ (a,t9,i,out)) s.1 s.2.1 s.2.2.1 s.2.2.2
theorem Zvm:∀n s,Ztv (n+1) s=Zrn (Ztv n) s:=fun _ _=>rfl
def Zol (a:(List Int)):Option (List Int):=
 chk (ZiZ (([]:(List Int)).length+a.length) 4) <|
 (Zpc big a ((([]:(List Int))++a).length:Int) (0:Int) (([]:(List Int))++a)).bind fun x0=>Zr6 x0
def Zsy:Option Int:=
 some (0:Int)
def ZpT (rec_:(List Int)→(List Int)→Int→Option (Out Unit Int)) (a:(List Int)) (b:(List Int)) (i:Int):Option (Out Unit Int):=
 bif (decide (i≥0))then (
  (idx a i).bind fun a_e=>
  (idx b i).bind fun b_e=>
  bif (decide (a_e < b_e))then (
   some (.ret (-1:Int))
  )else (
   (idx a i).bind fun a_e_1=>
   (idx b i).bind fun b_e_1=>
   bif (decide (a_e_1 > b_e_1))then (
    some (.ret (1:Int))
   )else (
    chk (inK .i64 (i - 1)) <|
    rec_ a b (i - 1)
   )
  )
 )else (
  some (.brk ())
 )
def ZqO:Nat→(List Int)→(List Int)→Int→Option (Out Unit Int)
 |0,_,_,_=>none
 |n_+1,a,b,i=>ZpT (ZqO n_) a b i
def ZtH (n:Nat) (s:((List Int)×(List Int)×Int)):Option (Out Unit Int):=ZqO n s.1 s.2.1 s.2.2
def ZrC (rec_:((List Int)×(List Int)×Int)→Option (Out Unit Int)) (s:((List Int)×(List Int)×Int)):Option (Out Unit Int):=ZpT (fun a b i=>rec_ (a,b,i)) s.1 s.2.1 s.2.2
theorem ZvG:∀n s,ZtH (n+1) s=ZrC (ZtH n) s:=fun _ _=>rfl
def ZoM (a:(List Int)) (b:(List Int)):Option Int:=
 bif ((a.length:Int) != (b.length:Int))then (
  bif (decide ((a.length:Int) < (b.length:Int)))then (
   some (-1:Int)
  )else (
   some (1:Int)
  )
 )else (
  chk (inK .i64 ((a.length:Int) - 1)) <|
  (ZqO big a b ((a.length:Int) - 1)).bind fun
   | .ret q_=>some q_
   | .brk ()=>Zsy
 )
def Zsq (out:(List Int)):Option (List Int):=
 (ZnT out).bind fun q=>
 some q
def Zpn (rec_:(List Int)→(List Int)→Int→Int→(List Int)→Option (List Int)) (a:(List Int)) (b:(List Int)) (c:Int) (i:Int) (out:(List Int)):Option (List Int):=
 chk (ZiZ (out.length+([(IntKind.wrap .u32 c)]:(List Int)).length) 4) <|
 chk (decide (0≤(32:Int))) <|
 chk (inK .i64 (i+1)) <|
 rec_ a b (shrK .i64 c 32) (i+1) (out++([(IntKind.wrap .u32 c)]:(List Int)))
def ZpR (rec_:(List Int)→(List Int)→Int→Int→(List Int)→Option (List Int)) (a:(List Int)) (b:(List Int)) (c:Int) (i:Int) (out:(List Int)):Option (List Int):=
 bif (decide (i < (a.length:Int)))then (
  (idx a i).bind fun a_e=>
  chk (inK .i64 (c+(IntKind.wrap .i64 a_e))) <|
  bif (decide (i < (b.length:Int)))then (
   (idx b i).bind fun b_e=>
   chk (inK .i64 ((c+(IntKind.wrap .i64 a_e)) - (IntKind.wrap .i64 b_e))) <|
   Zpn rec_ a b ((c+(IntKind.wrap .i64 a_e)) - (IntKind.wrap .i64 b_e)) i out
  )else (
   Zpn rec_ a b (c+(IntKind.wrap .i64 a_e)) i out
  )
 )else (
  some out
 )
def Zpm:Nat→(List Int)→(List Int)→Int→Int→(List Int)→Option (List Int)
 |0,_,_,_,_,_=>none
 |n_+1,a,b,c,i,out=>ZpR (Zpm n_) a b c i out
def ZtF (n:Nat) (s:((List Int)×(List Int)×Int×Int×(List Int))):Option (List Int):=Zpm n s.1 s.2.1 s.2.2.1 s.2.2.2.1 s.2.2.2.2
def Zry (rec_:((List Int)×(List Int)×Int×Int×(List Int))→Option (List Int)) (s:((List Int)×(List Int)×Int×Int×(List Int))):Option (List Int):=ZpR (fun a b c i out=>rec_ (a,b,c,i,out)) s.1 s.2.1 s.2.2.1 s.2.2.2.1 s.2.2.2.2
theorem ZvE:∀n s,ZtF (n+1) s=Zry (ZtF n) s:=fun _ _=>rfl
def Zor (a:(List Int)) (b:(List Int)):Option (List Int):=
 (Zpm big a b (0:Int) (0:Int) ([]:(List Int))).bind fun x0=>Zsq x0
def Zrx (d:Int) (out:(List Int)):Option (List Int):=
 chk (ZiZ (out.length+([d]:(List Int)).length) 4) <|
 (ZnT (out++([d]:(List Int)))).bind fun q=>
 some q
def Zpt (rec_:(List Int)→Int→Int→(List Int)→Option (Int×(List Int))) (a:(List Int)) (d:Int) (i:Int) (out:(List Int)):Option (Int×(List Int)):=
 bif (decide (i < (a.length:Int)))then (
  (idx a i).bind fun a_e=>
  chk (decide (0≤(1:Int))) <|
  chk (ZiZ (out.length+([(orK .u32 (shlK .u32 a_e 1) d)]:(List Int)).length) 4) <|
  (idx a i).bind fun a_e_1=>
  chk (decide (0≤(31:Int))) <|
  chk (inK .i64 (i+1)) <|
  rec_ a (shrK .u32 a_e_1 31) (i+1) (out++([(orK .u32 (shlK .u32 a_e 1) d)]:(List Int)))
 )else (
  some (d,out)
 )
def ZpQ:Nat→(List Int)→Int→Int→(List Int)→Option (Int×(List Int))
 |0,_,_,_,_=>none
 |n_+1,a,d,i,out=>Zpt (ZpQ n_) a d i out
def Zta (n:Nat) (s:((List Int)×Int×Int×(List Int))):Option (Int×(List Int)):=ZpQ n s.1 s.2.1 s.2.2.1 s.2.2.2
def Zq2 (rec_:((List Int)×Int×Int×(List Int))→Option (Int×(List Int))) (s:((List Int)×Int×Int×(List Int))):Option (Int×(List Int)):=Zpt (fun a d i out=>rec_ (a,d,i,out)) s.1 s.2.1 s.2.2.1 s.2.2.2
theorem Zu8:∀n s,Zta (n+1) s=Zq2 (Zta n) s:=fun _ _=>rfl
def ZoU (a:(List Int)) (d:Int):Option (List Int):=
 (ZpQ big a d (0:Int) ([]:(List Int))).bind fun(x0,x1)=>Zrx x0 x1
def Zss (a:(List Int)):Option (List Int):=
 some a
def ZoX (rec_:(List Int)→Int→Option (List Int)) (a:(List Int)) (k:Int):Option (List Int):=
 bif (decide (k > 0))then (
  (ZoU a 0).bind fun a_1=>
  chk (inK .i64 (k - 1)) <|
  rec_ a_1 (k - 1)
 )else (
  some a
 )
def ZoJ:Nat→(List Int)→Int→Option (List Int)
 |0,_,_=>none
 |n_+1,a,k=>ZoX (ZoJ n_) a k
def Zst (a:(List Int)) (k:Int):Option (List Int):=
 (ZoJ big a k).bind fun x0=>Zss x0
def ZqM (rec_:(List Int)→(List Int)→Int→Option ((List Int)×Int)) (a:(List Int)) (b:(List Int)) (k:Int):Option ((List Int)×Int):=
 (Zor b a).bind fun b_1=>
 rec_ a b_1 k
def Zsu (rec_:(List Int)→(List Int)→Int→Option ((List Int)×Int)) (a:(List Int)) (b:(List Int)) (k:Int):Option ((List Int)×Int):=
 (ZoM a b).bind fun q=>
 bif (decide (q > 0))then (
  ZqM rec_ b a k
 )else (
  ZqM rec_ a b k
 )
def Zrz (rec_:(List Int)→(List Int)→Int→Option ((List Int)×(List Int)×Int)) (a:(List Int)) (b:(List Int)) (k:Int):Option ((List Int)×(List Int)×Int):=
 (idx b 0).bind fun b_e=>
 bif ((andK .u32 b_e 1) == 0)then (
  (Zol b).bind fun b_1=>
  rec_ a b_1 k
 )else (
  some (a,b,k)
 )
def Zn7:Nat→(List Int)→(List Int)→Int→Option ((List Int)×(List Int)×Int)
 |0,_,_,_=>none
 |n_+1,a,b,k=>Zrz (Zn7 n_) a b k
def Zsv (rec_:(List Int)→(List Int)→Int→Option ((List Int)×Int)) (a:(List Int)) (b:(List Int)) (k:Int):Option ((List Int)×Int):=
 (Zn7 big a b k).bind fun(x0,x1,x2)=>Zsu rec_ x0 x1 x2
def ZoY (rec_:(List Int)→(List Int)→Int→Option ((List Int)×(List Int)×Int)) (a:(List Int)) (b:(List Int)) (k:Int):Option ((List Int)×(List Int)×Int):=
 (idx a 0).bind fun a_e=>
 bif ((andK .u32 a_e 1) == 0)then (
  (Zol a).bind fun a_1=>
  rec_ a_1 b k
 )else (
  some (a,b,k)
 )
def Zn8:Nat→(List Int)→(List Int)→Int→Option ((List Int)×(List Int)×Int)
 |0,_,_,_=>none
 |n_+1,a,b,k=>ZoY (Zn8 n_) a b k
def ZoZ (rec_:(List Int)→(List Int)→Int→Option ((List Int)×Int)) (a:(List Int)) (b:(List Int)) (k:Int):Option ((List Int)×Int):=
 bif (decide ((b.length:Int) > 0))then (
  (Zn8 big a b k).bind fun(x0,x1,x2)=>Zsv rec_ x0 x1 x2
 )else (
  some (a,k)
 )
def ZnR:Nat→(List Int)→(List Int)→Int→Option ((List Int)×Int)
 |0,_,_,_=>none
 |n_+1,a,b,k=>ZoZ (ZnR n_) a b k
def Zsw (a:(List Int)) (b:(List Int)) (k:Int):Option (List Int):=
 (ZnR big a b k).bind fun(x0,x1)=>Zst x0 x1
def ZqN (rec_:(List Int)→(List Int)→Int→Option ((List Int)×(List Int)×Int)) (a:(List Int)) (b:(List Int)) (k:Int) (t17:Bool):Option ((List Int)×(List Int)×Int):=
 bif t17 then (
  (Zol a).bind fun a_1=>
  (Zol b).bind fun b_1=>
  chk (inK .i64 (k+1)) <|
  rec_ a_1 b_1 (k+1)
 )else (
  some (a,b,k)
 )
def ZrA (rec_:(List Int)→(List Int)→Int→Option ((List Int)×(List Int)×Int)) (a:(List Int)) (b:(List Int)) (k:Int):Option ((List Int)×(List Int)×Int):=
 (idx a 0).bind fun a_e=>
 bif ((andK .u32 a_e 1) == 0)then (
  (idx b 0).bind fun b_e=>
  ZqN rec_ a b k ((andK .u32 b_e 1) == 0)
 )else (
  ZqN rec_ a b k false
 )
def ZoK:Nat→(List Int)→(List Int)→Int→Option ((List Int)×(List Int)×Int)
 |0,_,_,_=>none
 |n_+1,a,b,k=>ZrA (ZoK n_) a b k
def Zqt (a:(List Int)) (b:(List Int)):Option (List Int):=
 (ZoK big a b (0:Int)).bind fun(x0,x1,x2)=>Zsw x0 x1 x2
def Zqu (a:(List Int)) (i:Int):Option Int:=
 chk (decide ((32:Int)≠0)) <|
 chk (inK .i64 (Int.tdiv i 32)) <|
 (idx a (Int.tdiv i 32)).bind fun a_e=>
 chk (decide ((32:Int)≠0)) <|
 chk (decide (0≤(IntKind.wrap .u64 (Int.tmod i 32)))) <|
 some (andK .u32 (shrK .u32 a_e (IntKind.wrap .u64 (Int.tmod i 32))) 1)
def Zsx (r_:(List Int)) (q:(List Int)):Option ((List Int)×(List Int)):=
 (ZnT q).bind fun q_1=>
 some (q_1,r_)
def Zpp (rec_:(List Int)→(List Int)→(List Int)→Int→(List Int)→Option ((List Int)×(List Int))) (a:(List Int)) (b:(List Int)) (r_:(List Int)) (i:Int) (q:(List Int)):Option ((List Int)×(List Int)):=
 chk (inK .i64 (i - 1)) <|
 rec_ a b r_ (i - 1) q
def ZpS (rec_:(List Int)→(List Int)→(List Int)→Int→(List Int)→Option ((List Int)×(List Int))) (a:(List Int)) (b:(List Int)) (r_:(List Int)) (i:Int) (q:(List Int)):Option ((List Int)×(List Int)):=
 bif (decide (i≥0))then (
  (Zqu a i).bind fun q_1=>
  (ZoU r_ q_1).bind fun r__1=>
  (ZoM r__1 b).bind fun q_2=>
  bif (decide (q_2≥0))then (
   (Zor r__1 b).bind fun r__2=>
   chk (decide ((32:Int)≠0)) <|
   chk (inK .i64 (Int.tdiv i 32)) <|
   chk (inR (Int.tdiv i 32) (q.length:Int)) <|
   (q[((Int.tdiv i 32)).toNat]?).bind fun q_e=>
   chk (decide ((32:Int)≠0)) <|
   chk (decide (0≤(IntKind.wrap .u64 (Int.tmod i 32)))) <|
   chk (inR (Int.tdiv i 32) (q.length:Int)) <|
   Zpp rec_ a b r__2 i (q.set (((Int.tdiv i 32)).toNat) (orK .u32 q_e (shlK .u32 1 (IntKind.wrap .u64 (Int.tmod i 32)))))
  )else (
   Zpp rec_ a b r__1 i q
  )
 )else (
  some (r_,q)
 )
def Zpo:Nat→(List Int)→(List Int)→(List Int)→Int→(List Int)→Option ((List Int)×(List Int))
 |0,_,_,_,_,_=>none
 |n_+1,a,b,r_,i,q=>ZpS (Zpo n_) a b r_ i q
def ZtG (n:Nat) (s:((List Int)×(List Int)×(List Int)×Int×(List Int))):Option ((List Int)×(List Int)):=Zpo n s.1 s.2.1 s.2.2.1 s.2.2.2.1 s.2.2.2.2
def ZrB (rec_:((List Int)×(List Int)×(List Int)×Int×(List Int))→Option ((List Int)×(List Int))) (s:((List Int)×(List Int)×(List Int)×Int×(List Int))):Option ((List Int)×(List Int)):=ZpS (fun a b r_ i q=>rec_ (a,b,r_,i,q)) s.1 s.2.1 s.2.2.1 s.2.2.2.1 s.2.2.2.2
theorem ZvF:∀n s,ZtG (n+1) s=ZrB (ZtG n) s:=fun _ _=>rfl
def Zpj (a:(List Int)) (b:(List Int)):Option ((List Int)×(List Int)):=
 chk (mkOk (a.length:Int) (a.length:Int) 4) <|
 chk (inK .i64 (32*(a.length:Int))) <|
 chk (inK .i64 ((32*(a.length:Int)) - 1)) <|
 (Zpo big a b ([]:(List Int)) ((32*(a.length:Int)) - 1) (List.replicate ((a.length:Int)).toNat (0:Int))).bind fun(x0,x1)=>Zsx x0 x1
def ZoI (num:ZnC) (den:ZnC):Option ZnD:=
 bif ((num.Words.length:Int) == 0)then (
  (ZnO 1).bind fun q=>
  some (ZnD.mk (ZnC.mk false ([]:(List Int))) q)
 )else (
  (Zqt num.Words den.Words).bind fun g=>
  (Zpj num.Words g).bind fun(x_,q_1)=>
  (Zpj den.Words g).bind fun(y,q_2)=>
  (ZnQ (!(num.Neg == den.Neg)) x_).bind fun q_3=>
  (ZnQ false y).bind fun q_4=>
  some (ZnD.mk q_3 q_4)
 )
def Zqo (t13:Bool) (num:ZnC) (den:ZnC) (t4:Bool) (t4_1:Bool) (t4_2:(List Int)) (t4_3:(List Int)):Option (ZnD×Int):=
 bif t13 then (
  some ((ZnD.mk (ZnC.mk false ([]:(List Int))) (ZnC.mk false ([]:(List Int)))),1)
 )else (
  bif ((den.Words.length:Int) == 0)then (
   some ((ZnD.mk (ZnC.mk false ([]:(List Int))) (ZnC.mk false ([]:(List Int)))),8)
  )else (
   (ZoI num den).bind fun q=>
   some (q,0)
  )
 )
def ZpZ (num:ZnC) (den:ZnC):Option (ZnD×Int):=
 (Zo0 num).bind fun q=>
 bif (!q)then (
  Zqo true num den false false ([]:(List Int)) ([]:(List Int))
 )else (
  (Zo0 den).bind fun q_1=>
  Zqo (!q_1) num den false false ([]:(List Int)) ([]:(List Int))
 )
def ZpF (num:Int) (den:Int):Option (ZnD×Int):=
 (ZnO num).bind fun q=>
 (ZnO den).bind fun q_1=>
 (ZpZ q q_1).bind fun(q_2,q_3)=>
 some (q_2,q_3)
def ZpO (n:Int) (d:Int):Option ZnD:=
 (ZpF n d).bind fun(f,q)=>
 some f
def Zqs (n:Int):Option ZnD:=
 (ZpO n 1).bind fun q=>
 some q
def Zq1:Option Bool:=
 some true
def Zo6 (rec_:(List Int)→Int→Int→ZnC→Option (Out Unit Bool)) (t22:(List Int)) (t23:Int) (i:Int) (b:ZnC):Option (Out Unit Bool):=
 bif (decide (i < t23))then (
  (idx t22 i).bind fun w_=>
  (idx b.Words i).bind fun Word=>
  bif (Word != w_)then (
   some (.ret false)
  )else (
   chk (inK .i64 (i+1)) <|
   rec_ t22 t23 (i+1) b
  )
 )else (
  some (.brk ())
 )
def Zpr:Nat→(List Int)→Int→Int→ZnC→Option (Out Unit Bool)
 |0,_,_,_,_=>none
 |n_+1,t22,t23,i,b=>Zo6 (Zpr n_) t22 t23 i b
def ZsQ (n:Nat) (s:((List Int)×Int×Int×ZnC)):Option (Out Unit Bool):=Zpr n s.1 s.2.1 s.2.2.1 s.2.2.2
def Zqw (rec_:((List Int)×Int×Int×ZnC)→Option (Out Unit Bool)) (s:((List Int)×Int×Int×ZnC)):Option (Out Unit Bool):=Zo6 (fun t22 t23 i b=>rec_ (t22,t23,i,b)) s.1 s.2.1 s.2.2.1 s.2.2.2
theorem ZuW:∀n s,ZsQ (n+1) s=Zqw (ZsQ n) s:=fun _ _=>rfl
def Zps (t20:Bool) (a:ZnC) (b:ZnC):Option Bool:=
 bif t20 then (
  some false
 )else (
  (Zpr big a.Words (a.Words.length:Int) (0:Int) b).bind fun
   | .ret q_=>some q_
   | .brk ()=>Zq1
 )
def ZoC (a:ZnC) (b:ZnC):Option Bool:=
 bif (!(a.Neg == b.Neg))then (
  Zps true a b
 )else (
  Zps ((a.Words.length:Int) != (b.Words.length:Int)) a b
 )
def Zqj (t4:Bool):Option Bool:=
 some t4
def ZpN (a:ZnD) (b:ZnD):Option Bool:=
 (ZoC a.Num b.Num).bind fun q=>
 bif q then (
  (ZoC a.Den b.Den).bind fun q_1=>
  Zqj q_1
 )else (
  Zqj false
 )
def ZrG:Option Bool:=
 (Zo9 ([]:Str)).bind fun q=>
 some (q == 14695981039346656037)
def Zo1 (rec_:(List ZnA)→Int→Int→Option (Out Unit Bool)) (t42:(List ZnA)) (t43:Int) (t44:Int) (t62:Bool):Option (Out Unit Bool):=
 bif t62 then (
  some (.ret false)
 )else (
  chk (inK .i64 (t44+1)) <|
  rec_ t42 t43 (t44+1)
 )
def Zpw (rec_:(List ZnA)→Int→Int→Option (Out Unit Bool)) (t42:(List ZnA)) (t43:Int) (t44:Int):Option (Out Unit Bool):=
 bif (decide (t44 < t43))then (
  (idx t42 t44).bind fun x_=>
  bif (x_.Key == ([97]:Str))then (
   bif (x_.Count != 2)then (
    Zo1 rec_ t42 t43 t44 true
   )else (
    (Zqs 3).bind fun q=>
    (ZpN x_.Sum q).bind fun q_1=>
    Zo1 rec_ t42 t43 t44 (!q_1)
   )
  )else (
   Zo1 rec_ t42 t43 t44 false
  )
 )else (
  some (.brk ())
 )
def Zov:Nat→(List ZnA)→Int→Int→Option (Out Unit Bool)
 |0,_,_,_=>none
 |n_+1,t42,t43,t44=>Zpw (Zov n_) t42 t43 t44
def Ztd (n:Nat) (s:((List ZnA)×Int×Int)):Option (Out Unit Bool):=Zov n s.1 s.2.1 s.2.2
def Zq6 (rec_:((List ZnA)×Int×Int)→Option (Out Unit Bool)) (s:((List ZnA)×Int×Int)):Option (Out Unit Bool):=Zpw (fun t42 t43 t44=>rec_ (t42,t43,t44)) s.1 s.2.1 s.2.2
theorem Zu9:∀n s,Ztd (n+1) s=Zq6 (Ztd n) s:=fun _ _=>rfl
def Zow (t40:Bool) (s:ZnG):Option Bool:=
 bif t40 then (
  some false
 )else (
  (Zov big s.Entries (s.Entries.length:Int) (0:Int)).bind fun
   | .ret q_=>some q_
   | .brk ()=>ZrG
 )
def Zox:Option Bool:=
 (Zt2 (ZnI.mk ([]:Str) ([(ZnB.mk false ([97]:Str)),(ZnB.mk false ([97]:Str)),(ZnB.mk false ([98]:Str))]:(List ZnB))) (ZnI.mk ([]:Str) ([(ZnB.mk false ([49]:Str)),(ZnB.mk false ([50]:Str)),(ZnB.mk false ([53]:Str))]:(List ZnB))) 10).bind fun(s,e)=>
 bif (e != 0)then (
  Zow true s
 )else (
  bif (!s.All)then (
   Zow true s
  )else (
   bif ((s.Entries.length:Int) != 2)then (
    Zow true s
   )else (
    (Ztm s).bind fun q=>
    Zow (!q) s
   )
  )
 )
def Zse (t:(List Int)):Option ZnE:=
 some (ZnE.mk t 0)
def Zqe (n:Int) (m:Int):Option Int:=
 bif (decide (m < 1))then (
  some (0:Int)
 )else (
  chk (decide (m≠0)) <|
  chk (inK .i64 ((Int.tmod n m)+m)) <|
  chk (decide (m≠0)) <|
  some (Int.tmod ((Int.tmod n m)+m) m)
 )
def ZnS (d:ZnE) (n:Int):Option (Int×ZnE):=
 bif (decide (d.at_≥(d.l.length:Int)))then (
  some (0,d)
 )else (
  chk (inK .i64 (d.at_+1)) <|
  chk (inK .i64 ((d.at_+1) - 1)) <|
  (idx d.l ((d.at_+1) - 1)).bind fun l_e=>
  (Zqe l_e n).bind fun q=>
  some (q,(ZnE.mk d.l (d.at_+1)))
 )
def Zn5 (d:ZnE) (l:(List Str)):Option (Str×ZnE):=
 (ZnS d (l.length:Int)).bind fun(q,t6)=>
 (idx l q).bind fun l_e=>
 some (l_e,t6)
def ZqT (d:ZnE):Option (ZnB×ZnE):=
 (ZnS d 7).bind fun(q,t3)=>
 bif (q == 1)then (
  some ((ZnB.mk true ([]:Str)),t3)
 )else (
  (Zn5 t3 ([([97]:Str),([98]:Str),([99]:Str),([49]:Str),([50]:Str),([51]:Str),([49,48]:Str),([120]:Str),([45,49,46,53]:Str),([50]:Str)]:(List Str))).bind fun(q_1,t7)=>
  some ((ZnB.mk false q_1),t7)
 )
def Ztk (n:Int):Option Str:=
 some (Lib.itoa n)
def Zp3 (d:ZnE):Option (ZnB×ZnE):=
 (ZnS d 9).bind fun(q,t3)=>
 bif (q == 1)then (
  some ((ZnB.mk true ([]:Str)),t3)
 )else (
  bif (q == 2)then (
   (Zn5 t3 ([([120]:Str),([]:Str),([49,46,50,46,51]:Str),([49,46,53,48]:Str)]:(List Str))).bind fun(q_1,t10)=>
   some ((ZnB.mk false q_1),t10)
  )else (
   (ZnS t3 12).bind fun(q_2,t14)=>
   chk (inK .i64 (q_2 - 3)) <|
   (Ztk (q_2 - 3)).bind fun q_3=>
   some ((ZnB.mk false q_3),t14)
  )
 )
def Zr8 (d:ZnE) (t4:Str) (c:Str) (t4_1:(List ZnB)) (c_1:(List ZnB)):Option (ZnI×ZnE):=
 some ((ZnI.mk c c_1),d)
def Zoh (rec_:Int→Int→Int→ZnE→Str→Str→(List ZnB)→(List ZnB)→Option (ZnE×Str×Str×(List ZnB)×(List ZnB))) (kind:Int) (t15:Int) (i:Int) (d:ZnE) (t4:Str) (c:Str) (x_:ZnB) (t4_1:(List ZnB)) (c_1:(List ZnB)):Option (ZnE×Str×Str×(List ZnB)×(List ZnB)):=
 chk (ZiZ (c_1.length+([x_]:(List ZnB)).length) 24) <|
 chk (inK .i64 (i+1)) <|
 rec_ kind t15 (i+1) d t4 c t4_1 (c_1++([x_]:(List ZnB)))
def ZpM (rec_:Int→Int→Int→ZnE→Str→Str→(List ZnB)→(List ZnB)→Option (ZnE×Str×Str×(List ZnB)×(List ZnB))) (kind:Int) (t15:Int) (i:Int) (d:ZnE) (t4:Str) (c:Str) (t4_1:(List ZnB)) (c_1:(List ZnB)):Option (ZnE×Str×Str×(List ZnB)×(List ZnB)):=
 bif (decide (i < t15))then (
  (ZqT d).bind fun(x_,t19)=>
  bif (kind == 0)then (
   (Zp3 t19).bind fun(x__1,t24)=>
   Zoh rec_ kind t15 i t24 t4 c x__1 t4_1 c_1
  )else (
   bif (kind == 1)then (
    (Ztk i).bind fun q=>
    chk (decide (([107]:Str).length+q.length≤Zq)) <|
    Zoh rec_ kind t15 i t19 t4 c (ZnB.mk false (([107]:Str)++q)) t4_1 c_1
   )else (
    bif (kind == 2)then (
     (Zn5 t19 ([([97]:Str),([98]:Str),([99]:Str),([100]:Str)]:(List Str))).bind fun(q_1,t34)=>
     Zoh rec_ kind t15 i t34 t4 c (ZnB.mk false q_1) t4_1 c_1
    )else (
     Zoh rec_ kind t15 i t19 t4 c x_ t4_1 c_1
    )
   )
  )
 )else (
  some (d,t4,c,t4_1,c_1)
 )
def Zpe:Nat→Int→Int→Int→ZnE→Str→Str→(List ZnB)→(List ZnB)→Option (ZnE×Str×Str×(List ZnB)×(List ZnB))
 |0,_,_,_,_,_,_,_,_=>none
 |n_+1,kind,t15,i,d,t4,c,t4_1,c_1=>ZpM (Zpe n_) kind t15 i d t4 c t4_1 c_1
def Ztw (n:Nat) (s:(Int×Int×Int×ZnE×Str×Str×(List ZnB)×(List ZnB))):Option (ZnE×Str×Str×(List ZnB)×(List ZnB)):=Zpe n s.1 s.2.1 s.2.2.1 s.2.2.2.1 s.2.2.2.2.1 s.2.2.2.2.2.1 s.2.2.2.2.2.2.1 s.2.2.2.2.2.2.2
def Zro (rec_:(Int×Int×Int×ZnE×Str×Str×(List ZnB)×(List ZnB))→Option (ZnE×Str×Str×(List ZnB)×(List ZnB))) (s:(Int×Int×Int×ZnE×Str×Str×(List ZnB)×(List ZnB))):Option (ZnE×Str×Str×(List ZnB)×(List ZnB)):=ZpM (fun kind t15 i d t4 c t4_1 c_1=>rec_ (kind,t15,i,d,t4,c,t4_1,c_1)) s.1 s.2.1 s.2.2.1 s.2.2.2.1 s.2.2.2.2.1 s.2.2.2.2.2.1 s.2.2.2.2.2.2.1 s.2.2.2.2.2.2.2
theorem Zvp:∀n s,Ztw (n+1) s=Zro (Ztw n) s:=fun _ _=>rfl
def Zo8 (d:ZnE) (rows:Int):Option (ZnI×ZnE):=
 (Zn5 d ([([105,100]:Str),([110,97,109,101]:Str),([85,110,105,116,32,80,114,105,99,101]:Str),([99,105,116,121]:Str),([117,110,105,116]:Str),([112,114,105,99,101]:Str),([105,100,50]:Str),([]:Str)]:(List Str))).bind fun(q,t9)=>
 (ZnS t9 5).bind fun(kind,t13)=>
 (Zpe big kind rows (0:Int) t13 ([]:Str) q ([]:(List ZnB)) ([]:(List ZnB))).bind fun(x0,x1,x2,x3,x4)=>Zr8 x0 x1 x2 x3 x4
def Zt5 (s:Str):Option Str:=
 some s
def Zr1 (rec_:Str→Option Str) (s:Str) (t23:Bool):Option Str:=
 bif t23 then (
  chk (inK .i64 ((s.length:Int) - 1)) <|
  chk (Zb9 0 ((s.length:Int) - 1) (s.length:Int)) <|
  rec_ (s.take (((s.length:Int) - 1)).toNat)
 )else (
  some s
 )
def ZvB (rec_:Str→Option Str) (s:Str):Option Str:=
 bif (decide ((s.length:Int) > 0))then (
  chk (inK .i64 ((s.length:Int) - 1)) <|
  (idx s ((s.length:Int) - 1)).bind fun c=>
  Zr1 rec_ s (((c.toNat:Nat):Int) == 32)
 )else (
  Zr1 rec_ s false
 )
def Zqm:Nat→Str→Option Str
 |0,_=>none
 |n_+1,s=>ZvB (Zqm n_) s
def Zt6 (s:Str):Option Str:=
 (Zqm big s).bind fun x0=>Zt5 x0
def Zr2 (rec_:Str→Option Str) (s:Str) (t10:Bool):Option Str:=
 bif t10 then (
  chk (Zb9 1 (s.length:Int) (s.length:Int)) <|
  rec_ (s.drop ((1:Int)).toNat)
 )else (
  some s
 )
def ZvC (rec_:Str→Option Str) (s:Str):Option Str:=
 bif (decide ((s.length:Int) > 0))then (
  (idx s 0).bind fun c=>
  Zr2 rec_ s (((c.toNat:Nat):Int) == 32)
 )else (
  Zr2 rec_ s false
 )
def Zqn:Nat→Str→Option Str
 |0,_=>none
 |n_+1,s=>ZvC (Zqn n_) s
def Zs1 (s:Str):Option Str:=
 (Zqn big s).bind fun x0=>Zt6 x0
def Zt7 (b:(List Int)):Option Str:=
 some (b.map fun n=>UInt8.ofNat (Int.toNat n))
def Zr3 (rec_:Int→Int→(List Int)→Option (List Int)) (t8:Int) (i:Int) (b:(List Int)):Option (List Int):=
 chk (inK .i64 (i+1)) <|
 rec_ t8 (i+1) b
def Zr4 (rec_:Int→Int→(List Int)→Option (List Int)) (i:Int) (t8:Int) (i_1:Int) (t23:Bool) (b:(List Int)):Option (List Int):=
 bif t23 then (
  chk (inR i (b.length:Int)) <|
  (b[(i).toNat]?).bind fun b_e=>
  chk (inR i (b.length:Int)) <|
  Zr3 rec_ t8 i_1 (b.set ((i).toNat) (IntKind.wrap .u8 (b_e+32)))
 )else (
  Zr3 rec_ t8 i_1 b
 )
def ZvD (rec_:Int→Int→(List Int)→Option (List Int)) (t8:Int) (i:Int) (b:(List Int)):Option (List Int):=
 bif (decide (i < t8))then (
  chk (inR i (b.length:Int)) <|
  (b[(i).toNat]?).bind fun b_e=>
  bif (decide (b_e≥65))then (
   chk (inR i (b.length:Int)) <|
   (b[(i).toNat]?).bind fun b_e_1=>
   Zr4 rec_ i t8 i (decide (b_e_1≤90)) b
  )else (
   Zr4 rec_ i t8 i false b
  )
 )else (
  some b
 )
def Zpb:Nat→Int→Int→(List Int)→Option (List Int)
 |0,_,_,_=>none
 |n_+1,t8,i,b=>ZvD (Zpb n_) t8 i b
def Zs2 (s:Str):Option Str:=
 chk (decide (s.length≤281474976710656)) <|
 (Zpb big ((s.map fun b=>((b.toNat:Nat):Int)).length:Int) (0:Int) (s.map fun b=>((b.toNat:Nat):Int))).bind fun x0=>Zt7 x0
def ZtI (neg:Bool) (digits:Str) (places:Str):Option (Bool×Str×Str×Bool):=
 some (neg,digits,places,true)
def ZrD (rec_:Bool→Str→Str→Int→Option (Out (Bool×Str×Str) (Bool×Str×Str×Bool))) (neg:Bool) (digits:Str) (places:Str) (i:Int) (t92:Bool):Option (Out (Bool×Str×Str) (Bool×Str×Str×Bool)):=
 bif t92 then (
  some (.ret (false,([]:Str),([]:Str),false))
 )else (
  chk (inK .i64 (i+1)) <|
  rec_ neg digits places (i+1)
 )
def Zvn (rec_:Bool→Str→Str→Int→Option (Out (Bool×Str×Str) (Bool×Str×Str×Bool))) (neg:Bool) (digits:Str) (places:Str) (i:Int):Option (Out (Bool×Str×Str) (Bool×Str×Str×Bool)):=
 bif (decide (i < (places.length:Int)))then (
  (idx places i).bind fun c=>
  bif (decide (((c.toNat:Nat):Int) < 48))then (
   ZrD rec_ neg digits places i true
  )else (
   (idx places i).bind fun c_1=>
   ZrD rec_ neg digits places i (decide (((c_1.toNat:Nat):Int) > 57))
  )
 )else (
  some (.brk (neg,digits,places))
 )
def ZpU:Nat→Bool→Str→Str→Int→Option (Out (Bool×Str×Str) (Bool×Str×Str×Bool))
 |0,_,_,_,_=>none
 |n_+1,neg,digits,places,i=>Zvn (ZpU n_) neg digits places i
def ZpW (neg:Bool) (digits:Str) (places:Str) (t76:Bool):Option (Bool×Str×Str×Bool):=
 bif t76 then (
  some (false,([]:Str),([]:Str),false)
 )else (
  (ZpU big neg digits places (0:Int)).bind fun
   | .ret q_=>some q_
   | .brk (x0,x1,x2)=>ZtI x0 x1 x2
 )
def ZrE (s:Str) (neg:Bool) (digits:Str) (k:Int) (t52:Bool):Option (Bool×Str×Str×Bool):=
 bif t52 then (
  some (false,([]:Str),([]:Str),false)
 )else (
  bif (k == (s.length:Int))then (
   some (neg,digits,([]:Str),true)
  )else (
   chk (inK .i64 (k+1)) <|
   chk (Zb9 (k+1) (s.length:Int) (s.length:Int)) <|
   (idx s k).bind fun c=>
   bif (((c.toNat:Nat):Int) != 46)then (
    ZpW neg digits (s.drop ((k+1)).toNat) true
   )else (
    bif (decide (((s.drop ((k+1)).toNat).length:Int) < 1))then (
     ZpW neg digits (s.drop ((k+1)).toNat) true
    )else (
     ZpW neg digits (s.drop ((k+1)).toNat) (decide (((s.drop ((k+1)).toNat).length:Int) > 9))
    )
   )
  )
 )
def ZtJ (s:Str) (neg:Bool) (k:Int):Option (Bool×Str×Str×Bool):=
 chk (Zb9 0 k (s.length:Int)) <|
 bif (decide (k < 1))then (
  ZrE s neg (s.take (k).toNat) k true
 )else (
  ZrE s neg (s.take (k).toNat) k (decide (k > 15))
 )
def ZpX (rec_:Str→Bool→Int→Option (Str×Bool×Int)) (s:Str) (neg:Bool) (k:Int) (t41:Bool):Option (Str×Bool×Int):=
 bif t41 then (
  chk (inK .i64 (k+1)) <|
  rec_ s neg (k+1)
 )else (
  some (s,neg,k)
 )
def Zvo (rec_:Str→Bool→Int→Option (Str×Bool×Int)) (s:Str) (neg:Bool) (k:Int):Option (Str×Bool×Int):=
 bif (decide (k < (s.length:Int)))then (
  (idx s k).bind fun c=>
  bif (decide (((c.toNat:Nat):Int)≥48))then (
   (idx s k).bind fun c_1=>
   ZpX rec_ s neg k (decide (((c_1.toNat:Nat):Int)≤57))
  )else (
   ZpX rec_ s neg k false
  )
 )else (
  ZpX rec_ s neg k false
 )
def ZpV:Nat→Str→Bool→Int→Option (Str×Bool×Int)
 |0,_,_,_=>none
 |n_+1,s,neg,k=>Zvo (ZpV n_) s neg k
def ZrF (s:Str) (neg:Bool):Option (Bool×Str×Str×Bool):=
 (ZpV big s neg (0:Int)).bind fun(x0,x1,x2)=>ZtJ x0 x1 x2
def ZpY (s:Str) (neg:Bool) (t20:Bool):Option (Bool×Str×Str×Bool):=
 bif t20 then (
  (idx s 0).bind fun c=>
  chk (Zb9 1 (s.length:Int) (s.length:Int)) <|
  ZrF (s.drop ((1:Int)).toNat) (((c.toNat:Nat):Int) == 45)
 )else (
  ZrF s neg
 )
def ZqW (s:Str):Option (Bool×Str×Str×Bool):=
 bif (decide ((s.length:Int) > 0))then (
  (idx s 0).bind fun c=>
  bif (((c.toNat:Nat):Int) == 43)then (
   ZpY s false true
  )else (
   (idx s 0).bind fun c_1=>
   ZpY s false (((c_1.toNat:Nat):Int) == 45)
  )
 )else (
  ZpY s false false
 )
def Zre (digits:Str):Option Str:=
 some digits
def Zrf (digits:Str) (t43:Bool):Option Str:=
 bif t43 then (
  chk (decide (([45]:Str).length+digits.length≤Zq)) <|
  Zre (([45]:Str)++digits)
 )else (
  Zre digits
 )
def Zrg (neg:Bool) (digits:Str):Option Str:=
 bif neg then (
  Zrf digits (!(digits == ([48]:Str)))
 )else (
  Zrf digits false
 )
def Zts (neg:Bool) (digits:Str) (places:Str):Option Str:=
 bif (!(places == ([]:Str)))then (
  chk (decide (([46]:Str).length+places.length≤Zq)) <|
  chk (decide (digits.length+(([46]:Str)++places).length≤Zq)) <|
  Zrg neg (digits++(([46]:Str)++places))
 )else (
  Zrg neg digits
 )
def Zrh (rec_:Bool→Str→Str→Option (Bool×Str×Str)) (neg:Bool) (digits:Str) (places:Str) (t27:Bool):Option (Bool×Str×Str):=
 bif t27 then (
  chk (inK .i64 ((places.length:Int) - 1)) <|
  chk (Zb9 0 ((places.length:Int) - 1) (places.length:Int)) <|
  rec_ neg digits (places.take (((places.length:Int) - 1)).toNat)
 )else (
  some (neg,digits,places)
 )
def Zu6 (rec_:Bool→Str→Str→Option (Bool×Str×Str)) (neg:Bool) (digits:Str) (places:Str):Option (Bool×Str×Str):=
 bif (decide ((places.length:Int) > 0))then (
  chk (inK .i64 ((places.length:Int) - 1)) <|
  (idx places ((places.length:Int) - 1)).bind fun c=>
  Zrh rec_ neg digits places (((c.toNat:Nat):Int) == 48)
 )else (
  Zrh rec_ neg digits places false
 )
def ZpJ:Nat→Bool→Str→Str→Option (Bool×Str×Str)
 |0,_,_,_=>none
 |n_+1,neg,digits,places=>Zu6 (ZpJ n_) neg digits places
def Ztt (neg:Bool) (digits:Str) (places:Str):Option Str:=
 (ZpJ big neg digits places).bind fun(x0,x1,x2)=>Zts x0 x1 x2
def Zri (rec_:Bool→Str→Str→Option (Bool×Str×Str)) (neg:Bool) (digits:Str) (places:Str) (t14:Bool):Option (Bool×Str×Str):=
 bif t14 then (
  chk (Zb9 1 (digits.length:Int) (digits.length:Int)) <|
  rec_ neg (digits.drop ((1:Int)).toNat) places
 )else (
  some (neg,digits,places)
 )
def Zu7 (rec_:Bool→Str→Str→Option (Bool×Str×Str)) (neg:Bool) (digits:Str) (places:Str):Option (Bool×Str×Str):=
 bif (decide ((digits.length:Int) > 1))then (
  (idx digits 0).bind fun c=>
  Zri rec_ neg digits places (((c.toNat:Nat):Int) == 48)
 )else (
  Zri rec_ neg digits places false
 )
def ZpK:Nat→Bool→Str→Str→Option (Bool×Str×Str)
 |0,_,_,_=>none
 |n_+1,neg,digits,places=>Zu7 (ZpK n_) neg digits places
def Zsn (neg:Bool) (digits:Str) (places:Str):Option Str:=
 (ZpK big neg digits places).bind fun(x0,x1,x2)=>Ztt x0 x1 x2
def Zul (n:Int):Option Int:=
 some n
def Zsm (rec_:Str→Int→Int→Option (Out Int Int)) (s:Str) (n:Int) (i:Int) (t20:Bool):Option (Out Int Int):=
 bif t20 then (
  some (.ret (-1:Int))
 )else (
  chk (inK .i64 (10*n)) <|
  (idx s i).bind fun c=>
  chk (inK .i64 ((10*n)+(IntKind.wrap .i64 (IntKind.wrap .u8 (((c.toNat:Nat):Int) - 48))))) <|
  chk (inK .i64 (i+1)) <|
  rec_ s ((10*n)+(IntKind.wrap .i64 (IntKind.wrap .u8 (((c.toNat:Nat):Int) - 48)))) (i+1)
 )
def ZvP (rec_:Str→Int→Int→Option (Out Int Int)) (s:Str) (n:Int) (i:Int):Option (Out Int Int):=
 bif (decide (i < (s.length:Int)))then (
  (idx s i).bind fun c=>
  bif (decide (((c.toNat:Nat):Int) < 48))then (
   Zsm rec_ s n i true
  )else (
   (idx s i).bind fun c_1=>
   Zsm rec_ s n i (decide (((c_1.toNat:Nat):Int) > 57))
  )
 )else (
  some (.brk n)
 )
def ZqI:Nat→Str→Int→Int→Option (Out Int Int)
 |0,_,_,_=>none
 |n_+1,s,n,i=>ZvP (ZqI n_) s n i
def Zoq (s:Str):Option Int:=
 (ZqI big s (0:Int) (0:Int)).bind fun
  | .ret q_=>some q_
  | .brk x0=>Zul x0
def Zqk (t2:Bool):Option Bool:=
 some t2
def Zrk (y:Int):Option Bool:=
 chk (decide ((4:Int)≠0)) <|
 bif ((Int.tmod y 4) == 0)then (
  chk (decide ((100:Int)≠0)) <|
  bif ((Int.tmod y 100) != 0)then (
   Zqk true
  )else (
   chk (decide ((400:Int)≠0)) <|
   Zqk ((Int.tmod y 400) == 0)
  )
 )else (
  Zqk false
 )
def ZoP (t15:Bool):Option Int:=
 bif t15 then (
  some (30:Int)
 )else (
  some (31:Int)
 )
def Zrj (m:Int) (t5:Bool):Option Int:=
 bif t5 then (
  some (29:Int)
 )else (
  bif (m == 2)then (
   some (28:Int)
  )else (
   bif (m == 4)then (
    ZoP true
   )else (
    bif (m == 6)then (
     ZoP true
    )else (
     bif (m == 9)then (
      ZoP true
     )else (
      ZoP (m == 11)
     )
    )
   )
  )
 )
def ZqJ (y:Int) (m:Int):Option Int:=
 bif (m == 2)then (
  (Zrk y).bind fun q=>
  Zrj m q
 )else (
  Zrj m false
 )
def Zum (day:Int) (n:Int):Option (Int×Bool):=
 chk (inK .i64 (n+day)) <|
 chk (inK .i64 ((n+day) - 1)) <|
 chk (inK .i64 (((n+day) - 1) - 719162)) <|
 some ((((n+day) - 1) - 719162),true)
def ZvQ (rec_:Int→Int→Int→Int→Int→Option (Int×Int)) (year:Int) (month:Int) (day:Int) (n:Int) (m:Int):Option (Int×Int):=
 bif (decide (m < month))then (
  (ZqJ year m).bind fun q=>
  chk (inK .i64 (n+q)) <|
  chk (inK .i64 (m+1)) <|
  rec_ year month day (n+q) (m+1)
 )else (
  some (day,n)
 )
def Zso:Nat→Int→Int→Int→Int→Int→Option (Int×Int)
 |0,_,_,_,_,_=>none
 |n_+1,year,month,day,n,m=>ZvQ (Zso n_) year month day n m
def Zun (year:Int) (month:Int) (day:Int) (n:Int):Option (Int×Bool):=
 (Zso big year month day n (1:Int)).bind fun(x0,x1)=>Zum x0 x1
def Zsp (rec_:Int→Int→Int→Int→Int→Option (Int×Int×Int×Int)) (year:Int) (month:Int) (day:Int) (n:Int) (y:Int):Option (Int×Int×Int×Int):=
 chk (inK .i64 (y+1)) <|
 rec_ year month day n (y+1)
def ZvR (rec_:Int→Int→Int→Int→Int→Option (Int×Int×Int×Int)) (year:Int) (month:Int) (day:Int) (n:Int) (y:Int):Option (Int×Int×Int×Int):=
 bif (decide (y < year))then (
  chk (inK .i64 (n+365)) <|
  (Zrk y).bind fun q=>
  bif q then (
   chk (inK .i64 ((n+365)+1)) <|
   Zsp rec_ year month day ((n+365)+1) y
  )else (
   Zsp rec_ year month day (n+365) y
  )
 )else (
  some (year,month,day,n)
 )
def ZqK:Nat→Int→Int→Int→Int→Int→Option (Int×Int×Int×Int)
 |0,_,_,_,_,_=>none
 |n_+1,year,month,day,n,y=>ZvR (ZqK n_) year month day n y
def Zop (year:Int) (month:Int) (day:Int) (t35:Bool):Option (Int×Bool):=
 bif t35 then (
  some (0,false)
 )else (
  (ZqK big year month day (0:Int) (1:Int)).bind fun(x0,x1,x2,x3)=>Zun x0 x1 x2 x3
 )
def ZrT (year:Int) (month:Int) (day:Int):Option (Int×Bool):=
 bif (decide (year < 1))then (
  Zop year month day true
 )else (
  bif (decide (year > 9999))then (
   Zop year month day true
  )else (
   bif (decide (month < 1))then (
    Zop year month day true
   )else (
    bif (decide (month > 12))then (
     Zop year month day true
    )else (
     bif (decide (day < 1))then (
      Zop year month day true
     )else (
      (ZqJ year month).bind fun q=>
      Zop year month day (decide (day > q))
     )
    )
   )
  )
 )
def ZrY (year:Int) (month:Int) (day:Int):Option (Int×Int×Int×Bool):=
 (ZrT year month day).bind fun(q,ok)=>
 some (year,month,day,ok)
def ZrZ (s:Str) (t35:Bool):Option (Int×Int×Int×Bool):=
 bif t35 then (
  chk (Zb9 6 (s.length:Int) (s.length:Int)) <|
  (Zoq (s.drop ((6:Int)).toNat)).bind fun year=>
  chk (Zb9 3 5 (s.length:Int)) <|
  (Zoq ((s.take ((5:Int)).toNat).drop ((3:Int)).toNat)).bind fun month=>
  chk (Zb9 0 2 (s.length:Int)) <|
  (Zoq (s.take ((2:Int)).toNat)).bind fun day=>
  ZrY year month day
 )else (
  some (0,0,0,false)
 )
def Zql (s:Str) (t9:Bool):Option (Int×Int×Int×Bool):=
 bif t9 then (
  chk (Zb9 0 4 (s.length:Int)) <|
  (Zoq (s.take ((4:Int)).toNat)).bind fun year=>
  chk (Zb9 5 7 (s.length:Int)) <|
  (Zoq ((s.take ((7:Int)).toNat).drop ((5:Int)).toNat)).bind fun month=>
  chk (Zb9 8 (s.length:Int) (s.length:Int)) <|
  (Zoq (s.drop ((8:Int)).toNat)).bind fun day=>
  ZrY year month day
 )else (
  (idx s 2).bind fun c=>
  bif (((c.toNat:Nat):Int) == 46)then (
   (idx s 5).bind fun c_1=>
   ZrZ s (((c_1.toNat:Nat):Int) == 46)
  )else (
   ZrZ s false
  )
 )
def Zr0 (s:Str) (t9:Bool):Option (Int×Int×Int×Bool):=
 bif t9 then (
  Zql s t9
 )else (
  (idx s 4).bind fun c=>
  bif (((c.toNat:Nat):Int) == 47)then (
   (idx s 7).bind fun c_1=>
   Zql s (((c_1.toNat:Nat):Int) == 47)
  )else (
   Zql s false
  )
 )
def Zrl (s:Str):Option (Int×Int×Int×Bool):=
 bif ((s.length:Int) != 10)then (
  some (0,0,0,false)
 )else (
  (idx s 4).bind fun c=>
  bif (((c.toNat:Nat):Int) == 45)then (
   (idx s 7).bind fun c_1=>
   Zr0 s (((c_1.toNat:Nat):Int) == 45)
  )else (
   Zr0 s false
  )
 )
def Ztr (s:Str):Option Str:=
 some s
def Zu5 (rec_:Int→Int→Str→Option Str) (n:Int) (width:Int) (s:Str):Option Str:=
 bif (decide (width > 0))then (
  chk (decide ((10:Int)≠0)) <|
  chk (decide ((([(IntKind.wrap .u8 (48+(IntKind.wrap .u8 (Int.tmod n 10))))]:(List Int)).map fun n=>UInt8.ofNat (Int.toNat n)).length+s.length≤Zq)) <|
  chk (decide ((10:Int)≠0)) <|
  chk (inK .i64 (Int.tdiv n 10)) <|
  chk (inK .i64 (width - 1)) <|
  rec_ (Int.tdiv n 10) (width - 1) ((([(IntKind.wrap .u8 (48+(IntKind.wrap .u8 (Int.tmod n 10))))]:(List Int)).map fun n=>UInt8.ofNat (Int.toNat n))++s)
 )else (
  some s
 )
def Zrd:Nat→Int→Int→Str→Option Str
 |0,_,_,_=>none
 |n_+1,n,width,s=>Zu5 (Zrd n_) n width s
def Zpl (n:Int) (width:Int):Option Str:=
 (Zrd big n width ([]:Str)).bind fun x0=>Ztr x0
def Zou:Option (Str×Bool):=
 some (([]:Str),false)
def Zo7 (neg:Bool) (digits:Str) (places:Str) (t49:Bool):Option (Str×Bool):=
 bif t49 then (
  (Zsn neg digits places).bind fun q=>
  some (q,true)
 )else (
  Zou
 )
def Zqx (kind:Int) (t:Str) (t17:Int) (t31:Bool):Option (Str×Bool):=
 bif t31 then (
  (ZqW t).bind fun(neg,digits,places,ok)=>
  bif ok then (
   bif (kind == 4)then (
    Zo7 neg digits places true
   )else (
    Zo7 neg digits places (places == ([]:Str))
   )
  )else (
   Zo7 neg digits places false
  )
 )else (
  bif (t17 == 5)then (
   (Zrl t).bind fun(y,m,d,ok_1)=>
   bif ok_1 then (
    (Zpl y 4).bind fun q=>
    chk (decide (q.length+([45]:Str).length≤Zq)) <|
    (Zpl m 2).bind fun q_1=>
    chk (decide ((q++([45]:Str)).length+q_1.length≤Zq)) <|
    chk (decide (((q++([45]:Str))++q_1).length+([45]:Str).length≤Zq)) <|
    (Zpl d 2).bind fun q_2=>
    chk (decide ((((q++([45]:Str))++q_1)++([45]:Str)).length+q_2.length≤Zq)) <|
    some (((((q++([45]:Str))++q_1)++([45]:Str))++q_2),true)
   )else (
    Zou
   )
  )else (
   Zou
  )
 )
def Zqy (t28:Bool):Option (Str×Bool):=
 bif t28 then (
  some (([102,97,108,115,101]:Str),true)
 )else (
  Zou
 )
def Zqz (t24:Str) (t25:Bool):Option (Str×Bool):=
 bif t25 then (
  some (([116,114,117,101]:Str),true)
 )else (
  bif (t24 == ([102,97,108,115,101]:Str))then (
   Zqy (t24 == ([102,97,108,115,101]:Str))
  )else (
   Zqy (t24 == ([110,111]:Str))
  )
 )
def Zrm (kind:Int) (s:Str):Option (Str×Bool):=
 (Zs1 s).bind fun t=>
 bif (kind == 1)then (
  some (s,true)
 )else (
  bif (kind == 2)then (
   (Zs2 t).bind fun q=>
   bif (q == ([116,114,117,101]:Str))then (
    Zqz q (q == ([116,114,117,101]:Str))
   )else (
    Zqz q (q == ([121,101,115]:Str))
   )
  )else (
   bif (kind == 3)then (
    Zqx kind t kind (kind == 3)
   )else (
    Zqx kind t kind (kind == 4)
   )
  )
 )
def Zuo (out:(List Int)):Option (List Int):=
 (ZnT out).bind fun q=>
 some q
def Zup (rec_:(List Int)→(List Int)→Int→(List Int)→Option (List Int)) (a:(List Int)) (b:(List Int)) (i:Int) (c:Int) (out:(List Int)):Option (List Int):=
 chk (inK .i64 (i+(b.length:Int))) <|
 chk (inR (i+(b.length:Int)) (out.length:Int)) <|
 chk (inK .i64 (i+1)) <|
 rec_ a b (i+1) (out.set (((i+(b.length:Int))).toNat) (IntKind.wrap .u32 c))
def ZvS (rec_:(List Int)→(List Int)→Int→Int→Int→(List Int)→Option ((List Int)×(List Int)×Int×Int×(List Int))) (a:(List Int)) (b:(List Int)) (i:Int) (c:Int) (j:Int) (out:(List Int)):Option ((List Int)×(List Int)×Int×Int×(List Int)):=
 bif (decide (j < (b.length:Int)))then (
  (idx a i).bind fun a_e=>
  (idx b j).bind fun b_e=>
  chk (inK .i64 (i+j)) <|
  chk (inR (i+j) (out.length:Int)) <|
  (out[((i+j)).toNat]?).bind fun out_e=>
  chk (inK .i64 (i+j)) <|
  chk (inR (i+j) (out.length:Int)) <|
  chk (decide (0≤(32:Int))) <|
  chk (inK .i64 (j+1)) <|
  rec_ a b i (shrK .u64 (IntKind.wrap .u64 (c+(IntKind.wrap .u64 ((IntKind.wrap .u64 ((IntKind.wrap .u64 a_e)*(IntKind.wrap .u64 b_e)))+(IntKind.wrap .u64 out_e))))) 32) (j+1) (out.set (((i+j)).toNat) (IntKind.wrap .u32 (IntKind.wrap .u64 (c+(IntKind.wrap .u64 ((IntKind.wrap .u64 ((IntKind.wrap .u64 a_e)*(IntKind.wrap .u64 b_e)))+(IntKind.wrap .u64 out_e)))))))
 )else (
  some (a,b,i,c,out)
 )
def Zsr:Nat→(List Int)→(List Int)→Int→Int→Int→(List Int)→Option ((List Int)×(List Int)×Int×Int×(List Int))
 |0,_,_,_,_,_,_=>none
 |n_+1,a,b,i,c,j,out=>ZvS (Zsr n_) a b i c j out
def ZvT (rec_:(List Int)→(List Int)→Int→(List Int)→Option (List Int)) (a:(List Int)) (b:(List Int)) (i:Int) (out:(List Int)):Option (List Int):=
 bif (decide (i < (a.length:Int)))then (
  (Zsr big a b i (0:Int) (0:Int) out).bind fun(x0,x1,x2,x3,x4)=>Zup rec_ x0 x1 x2 x3 x4
 )else (
  some out
 )
def ZqL:Nat→(List Int)→(List Int)→Int→(List Int)→Option (List Int)
 |0,_,_,_,_=>none
 |n_+1,a,b,i,out=>ZvT (ZqL n_) a b i out
def Zto (a:(List Int)) (b:(List Int)):Option (List Int):=
 chk (inK .i64 ((a.length:Int)+(b.length:Int))) <|
 chk (mkOk ((a.length:Int)+(b.length:Int)) ((a.length:Int)+(b.length:Int)) 4) <|
 (ZqL big a b (0:Int) (List.replicate (((a.length:Int)+(b.length:Int))).toNat (0:Int))).bind fun x0=>Zuo x0
def ZqV (a:ZnC) (b:ZnC):Option ZnC:=
 (Zto a.Words b.Words).bind fun q=>
 (ZnQ (!(a.Neg == b.Neg)) q).bind fun q_1=>
 some q_1
def Zuq (c:Int) (out:(List Int)):Option (List Int):=
 chk (ZiZ (out.length+([(IntKind.wrap .u32 c)]:(List Int)).length) 4) <|
 some (out++([(IntKind.wrap .u32 c)]:(List Int)))
def Zsz (rec_:(List Int)→(List Int)→Int→Int→(List Int)→Option (Int×(List Int))) (a:(List Int)) (b:(List Int)) (c:Int) (i:Int) (out:(List Int)):Option (Int×(List Int)):=
 chk (ZiZ (out.length+([(IntKind.wrap .u32 c)]:(List Int)).length) 4) <|
 chk (decide (0≤(32:Int))) <|
 chk (inK .i64 (i+1)) <|
 rec_ a b (shrK .u64 c 32) (i+1) (out++([(IntKind.wrap .u32 c)]:(List Int)))
def ZsA (rec_:(List Int)→(List Int)→Int→Int→(List Int)→Option (Int×(List Int))) (a:(List Int)) (b:(List Int)) (c:Int) (i:Int) (out:(List Int)):Option (Int×(List Int)):=
 bif (decide (i < (b.length:Int)))then (
  (idx b i).bind fun b_e=>
  Zsz rec_ a b (IntKind.wrap .u64 (c+(IntKind.wrap .u64 b_e))) i out
 )else (
  Zsz rec_ a b c i out
 )
def ZsB (rec_:(List Int)→(List Int)→Int→Int→(List Int)→Option (Int×(List Int))) (a:(List Int)) (b:(List Int)) (c:Int) (i:Int) (t17:Bool) (out:(List Int)):Option (Int×(List Int)):=
 bif t17 then (
  bif (decide (i < (a.length:Int)))then (
   (idx a i).bind fun a_e=>
   ZsA rec_ a b (IntKind.wrap .u64 (c+(IntKind.wrap .u64 a_e))) i out
  )else (
   ZsA rec_ a b c i out
  )
 )else (
  some (c,out)
 )
def ZvU (rec_:(List Int)→(List Int)→Int→Int→(List Int)→Option (Int×(List Int))) (a:(List Int)) (b:(List Int)) (c:Int) (i:Int) (out:(List Int)):Option (Int×(List Int)):=
 bif (decide (i < (a.length:Int)))then (
  ZsB rec_ a b c i true out
 )else (
  ZsB rec_ a b c i (decide (i < (b.length:Int))) out
 )
def ZoL:Nat→(List Int)→(List Int)→Int→Int→(List Int)→Option (Int×(List Int))
 |0,_,_,_,_,_=>none
 |n_+1,a,b,c,i,out=>ZvU (ZoL n_) a b c i out
def Ztp (a:(List Int)) (b:(List Int)):Option (List Int):=
 (ZoL big a b (0:Int) (0:Int) ([]:(List Int))).bind fun(x0,x1)=>Zuq x0 x1
def Zs3 (a:ZnC) (b:ZnC):Option ZnC:=
 bif (a.Neg == b.Neg)then (
  (Ztp a.Words b.Words).bind fun q=>
  (ZnQ a.Neg q).bind fun q_1=>
  some q_1
 )else (
  (ZoM a.Words b.Words).bind fun q_2=>
  bif (decide (q_2≥0))then (
   (Zor a.Words b.Words).bind fun q_3=>
   (ZnQ a.Neg q_3).bind fun q_4=>
   some q_4
  )else (
   (Zor b.Words a.Words).bind fun q_5=>
   (ZnQ b.Neg q_5).bind fun q_6=>
   some q_6
  )
 )
def ZsS (a:ZnC):Option ZnC:=
 (ZnQ (!a.Neg) a.Words).bind fun q=>
 some q
def Zq4 (t2:Bool) (t2_1:Bool) (n:ZnC) (d:ZnC) (t2_2:(List Int)) (t2_3:(List Int)):Option (ZnD×Bool):=
 (ZoI n d).bind fun q=>
 some (q,true)
def Ztb (neg:Bool) (t2:Bool) (t2_1:Bool) (n:ZnC) (d:ZnC) (t2_2:(List Int)) (t2_3:(List Int)):Option (ZnD×Bool):=
 bif neg then (
  (ZsS n).bind fun n_1=>
  Zq4 t2 t2_1 n_1 d t2_2 t2_3
 )else (
  Zq4 t2 t2_1 n d t2_2 t2_3
 )
def Zq5 (rec_:Bool→Bool→Bool→ZnC→ZnC→Str→Nat→(List Int)→(List Int)→Option (Bool×Bool×Bool×ZnC×ZnC×(List Int)×(List Int))) (neg:Bool) (t45:Bool) (t2:Bool) (t2_1:Bool) (n:ZnC) (d:ZnC) (t43:Str) (t43_pos:Nat) (t2_2:(List Int)) (t2_3:(List Int)):Option (Bool×Bool×Bool×ZnC×ZnC×(List Int)×(List Int)):=
 bif t45 then (
  (ZnO 10).bind fun q=>
  (ZqV d q).bind fun d_1=>
  rec_ neg t2 t2_1 n d_1 t43 t43_pos t2_2 t2_3
 )else (
  some (neg,t2,t2_1,n,d,t2_2,t2_3)
 )
def ZuX (rec_:Bool→Bool→Bool→ZnC→ZnC→Str→Nat→(List Int)→(List Int)→Option (Bool×Bool×Bool×ZnC×ZnC×(List Int)×(List Int))) (neg:Bool) (t2:Bool) (t2_1:Bool) (n:ZnC) (d:ZnC) (t43:Str) (t43_pos:Nat) (t2_2:(List Int)) (t2_3:(List Int)):Option (Bool×Bool×Bool×ZnC×ZnC×(List Int)×(List Int)):=
 bif (decide (t43_pos < t43.length))then (
  Zq5 rec_ neg true t2 t2_1 n d t43 (t43_pos+(Utf8.decode ⟨List.toArray t43⟩ t43_pos).2) t2_2 t2_3
 )else (
  Zq5 rec_ neg false t2 t2_1 n d t43 t43_pos t2_2 t2_3
 )
def Zpv:Nat→Bool→Bool→Bool→ZnC→ZnC→Str→Nat→(List Int)→(List Int)→Option (Bool×Bool×Bool×ZnC×ZnC×(List Int)×(List Int))
 |0,_,_,_,_,_,_,_,_,_=>none
 |n_+1,neg,t2,t2_1,n,d,t43,t43_pos,t2_2,t2_3=>ZuX (Zpv n_) neg t2 t2_1 n d t43 t43_pos t2_2 t2_3
def Ztc (neg:Bool) (places:Str) (t2:Bool) (t2_1:Bool) (n:ZnC) (d:ZnC) (t2_2:(List Int)) (t2_3:(List Int)):Option (ZnD×Bool):=
 (Zpv big neg t2 t2_1 n d places 0 t2_2 t2_3).bind fun(x0,x1,x2,x3,x4,x5,x6)=>Ztb x0 x1 x2 x3 x4 x5 x6
def ZuY (rec_:Bool→Str→Int→Int→Bool→Bool→ZnC→ZnC→(List Int)→(List Int)→(List Int)→Option (Bool×Str×Bool×Bool×ZnC×ZnC×(List Int)×(List Int))) (neg:Bool) (places:Str) (t28:Int) (t29:Int) (t2:Bool) (t2_1:Bool) (n:ZnC) (d:ZnC) (t27:(List Int)) (t2_2:(List Int)) (t2_3:(List Int)):Option (Bool×Str×Bool×Bool×ZnC×ZnC×(List Int)×(List Int)):=
 bif (decide (t29 < t28))then (
  chk (inR t29 (t27.length:Int)) <|
  (t27[(t29).toNat]?).bind fun c=>
  (ZnO 10).bind fun q=>
  (ZqV n q).bind fun q_1=>
  (ZnO (IntKind.wrap .i64 (IntKind.wrap .u8 (c - 48)))).bind fun q_2=>
  (Zs3 q_1 q_2).bind fun n_1=>
  chk (inK .i64 (t29+1)) <|
  rec_ neg places t28 (t29+1) t2 t2_1 n_1 d t27 t2_2 t2_3
 )else (
  some (neg,places,t2,t2_1,n,d,t2_2,t2_3)
 )
def Zq3:Nat→Bool→Str→Int→Int→Bool→Bool→ZnC→ZnC→(List Int)→(List Int)→(List Int)→Option (Bool×Str×Bool×Bool×ZnC×ZnC×(List Int)×(List Int))
 |0,_,_,_,_,_,_,_,_,_,_,_=>none
 |n_+1,neg,places,t28,t29,t2,t2_1,n,d,t27,t2_2,t2_3=>ZuY (Zq3 n_) neg places t28 t29 t2 t2_1 n d t27 t2_2 t2_3
def Zr7 (s:Str):Option (ZnD×Bool):=
 (ZqW s).bind fun(neg,digits,places,ok)=>
 bif (!ok)then (
  some ((ZnD.mk (ZnC.mk false ([]:(List Int))) (ZnC.mk false ([]:(List Int)))),false)
 )else (
  (ZnO 1).bind fun d=>
  chk (decide (digits.length+places.length≤Zq)) <|
  chk (decide ((digits++places).length≤281474976710656)) <|
  (Zq3 big neg places (((digits++places).map fun b=>((b.toNat:Nat):Int)).length:Int) (0:Int) false false (ZnC.mk false ([]:(List Int))) d ((digits++places).map fun b=>((b.toNat:Nat):Int)) ([]:(List Int)) ([]:(List Int))).bind fun(x0,x1,x2,x3,x4,x5,x6,x7)=>Ztc x0 x1 x2 x3 x4 x5 x6 x7
 )
def ZpP (n:Int) (t4:Bool) (t4_1:Bool) (t4_2:(List Int)) (t4_3:(List Int)):Option (ZnD×Bool):=
 (ZpF n 1).bind fun(f,q)=>
 some (f,true)
def Zrw (kind:Int) (t:Str) (t26:Bool) (t4:Bool) (t4_1:Bool) (t4_2:(List Int)) (t4_3:(List Int)):Option (ZnD×Bool):=
 bif t26 then (
  some ((ZnD.mk (ZnC.mk false ([]:(List Int))) (ZnC.mk false ([]:(List Int)))),false)
 )else (
  bif (kind == 2)then (
   bif (t == ([116,114,117,101]:Str))then (
    ZpP (1:Int) t4 t4_1 t4_2 t4_3
   )else (
    ZpP (0:Int) t4 t4_1 t4_2 t4_3
   )
  )else (
   bif (kind == 5)then (
    (Zrl t).bind fun(y,m,d,q)=>
    (ZrT y m d).bind fun(n,q_1)=>
    ZpP n t4 t4_1 t4_2 t4_3
   )else (
    (Zr7 t).bind fun(q_2,q_3)=>
    some (q_2,q_3)
   )
  )
 )
def ZsR (kind:Int) (s:Str):Option (ZnD×Bool):=
 (Zrm kind s).bind fun(t,ok)=>
 bif (!ok)then (
  Zrw kind t true false false ([]:(List Int)) ([]:(List Int))
 )else (
  Zrw kind t (kind == 1) false false ([]:(List Int)) ([]:(List Int))
 )
def ZoH (c:ZnB):Option (ZnD×Bool):=
 bif c.Null then (
  some ((ZnD.mk (ZnC.mk false ([]:(List Int))) (ZnC.mk false ([]:(List Int)))),false)
 )else (
  (ZsR 4 c.Text).bind fun(q,q_1)=>
  some (q,q_1)
 )
def ZnL (t6:Bool):Option Bool:=
 some t6
def Zp0 (s:Str) (m:Int) (e:Int) (rows:Int) (sum:Int) (h_:Int) (x_:ZnG) (keys:(List (Str×Bool))):Option Bool:=
 bif (e == 0)then (
  chk (decide (keys.length≤Zq)) <|
  bif ((x_.Entries.length:Int) == (if (keys.length:Int) < m then (keys.length:Int)else m))then (
   chk (decide (keys.length≤Zq)) <|
   bif (x_.All == (decide ((keys.length:Int)≤m)))then (
    bif (sum == rows)then (
     (Zo9 s).bind fun q=>
     bif (q == h_)then (
      (Zox).bind fun q_1=>
      ZnL q_1
     )else (
      ZnL false
     )
    )else (
     bif (!x_.All)then (
      bif (decide (sum < rows))then (
       (Zo9 s).bind fun q_2=>
       bif (q_2 == h_)then (
        (Zox).bind fun q_3=>
        ZnL q_3
       )else (
        ZnL false
       )
      )else (
       ZnL false
      )
     )else (
      ZnL false
     )
    )
   )else (
    ZnL false
   )
  )else (
   ZnL false
  )
 )else (
  ZnL false
 )
def ZoD (rec_:Str→Int→Int→Int→Int→Int→Int→ZnG→(List (Str×Bool))→Option (Out (Str×Int×Int×Int×Int×Int×ZnG×(List (Str×Bool))) Bool)) (s:Str) (m:Int) (e:Int) (rows:Int) (sum:Int) (h_:Int) (i:Int) (x_:ZnG) (keys:(List (Str×Bool))):Option (Out (Str×Int×Int×Int×Int×Int×ZnG×(List (Str×Bool))) Bool):=
 bif (decide (i < (s.length:Int)))then (
  chk (inK .i64 (i+1)) <|
  chk (Zb9 0 (i+1) (s.length:Int)) <|
  (Zo9 (s.take ((i+1)).toNat)).bind fun q=>
  chk (Zb9 0 i (s.length:Int)) <|
  (Zo9 (s.take (i).toNat)).bind fun q_1=>
  (idx s i).bind fun c=>
  bif (q != (IntKind.wrap .u64 ((xorK .u64 q_1 (IntKind.wrap .u64 ((c.toNat:Nat):Int)))*1099511628211)))then (
   some (.ret false)
  )else (
   chk (inK .i64 (i+1)) <|
   rec_ s m e rows sum h_ (i+1) x_ keys
  )
 )else (
  some (.brk (s,m,e,rows,sum,h_,x_,keys))
 )
def Zom:Nat→Str→Int→Int→Int→Int→Int→Int→ZnG→(List (Str×Bool))→Option (Out (Str×Int×Int×Int×Int×Int×ZnG×(List (Str×Bool))) Bool)
 |0,_,_,_,_,_,_,_,_,_=>none
 |n_+1,s,m,e,rows,sum,h_,i,x_,keys=>ZoD (Zom n_) s m e rows sum h_ i x_ keys
def ZrH (n:Nat) (s:(Str×Int×Int×Int×Int×Int×Int×ZnG×(List (Str×Bool)))):Option (Out (Str×Int×Int×Int×Int×Int×ZnG×(List (Str×Bool))) Bool):=Zom n s.1 s.2.1 s.2.2.1 s.2.2.2.1 s.2.2.2.2.1 s.2.2.2.2.2.1 s.2.2.2.2.2.2.1 s.2.2.2.2.2.2.2.1 s.2.2.2.2.2.2.2.2
def Zpz (rec_:(Str×Int×Int×Int×Int×Int×Int×ZnG×(List (Str×Bool)))→Option (Out (Str×Int×Int×Int×Int×Int×ZnG×(List (Str×Bool))) Bool)) (s:(Str×Int×Int×Int×Int×Int×Int×ZnG×(List (Str×Bool)))):Option (Out (Str×Int×Int×Int×Int×Int×ZnG×(List (Str×Bool))) Bool):=ZoD (fun s m e rows sum h_ i x_ keys=>rec_ (s,m,e,rows,sum,h_,i,x_,keys)) s.1 s.2.1 s.2.2.1 s.2.2.2.1 s.2.2.2.2.1 s.2.2.2.2.2.1 s.2.2.2.2.2.2.1 s.2.2.2.2.2.2.2.1 s.2.2.2.2.2.2.2.2
theorem Zur:∀n s,ZrH (n+1) s=Zpz (ZrH n) s:=fun _ _=>rfl
def Zp1 (s:Str) (m:Int) (e:Int) (rows:Int) (sum:Int) (x_:ZnG) (keys:(List (Str×Bool))):Option Bool:=
 (Zo9 s).bind fun h_=>
 (Zom big s m e rows sum h_ (0:Int) x_ keys).bind fun
  | .ret q_=>some q_
  | .brk (x0,x1,x2,x3,x4,x5,x6,x7)=>Zp0 x0 x1 x2 x3 x4 x5 x6 x7
def ZoQ (rec_:Str→Int→Int→Int→Int→(List ZnA)→Int→Int→ZnG→(List (Str×Bool))→Option (Out (Str×Int×Int×Int×Int×ZnG×(List (Str×Bool))) Bool)) (s:Str) (m:Int) (e:Int) (rows:Int) (sum:Int) (t85:(List ZnA)) (t86:Int) (t87:Int) (t107:Bool) (x_:ZnG) (keys:(List (Str×Bool))):Option (Out (Str×Int×Int×Int×Int×ZnG×(List (Str×Bool))) Bool):=
 bif t107 then (
  some (.ret false)
 )else (
  chk (inK .i64 (t87+1)) <|
  rec_ s m e rows sum t85 t86 (t87+1) x_ keys
 )
def ZoE (rec_:Str→Int→Int→Int→Int→(List ZnA)→Int→Int→ZnG→(List (Str×Bool))→Option (Out (Str×Int×Int×Int×Int×ZnG×(List (Str×Bool))) Bool)) (s:Str) (m:Int) (e:Int) (rows:Int) (sum:Int) (t85:(List ZnA)) (t86:Int) (t87:Int) (x_:ZnG) (keys:(List (Str×Bool))):Option (Out (Str×Int×Int×Int×Int×ZnG×(List (Str×Bool))) Bool):=
 bif (decide (t87 < t86))then (
  (idx t85 t87).bind fun y=>
  chk (inK .i64 (sum+y.Count)) <|
  (Zo9 y.Key).bind fun q=>
  bif (y.Hash != q)then (
   ZoQ rec_ s m e rows (sum+y.Count) t85 t86 t87 true x_ keys
  )else (
   ZoQ rec_ s m e rows (sum+y.Count) t85 t86 t87 (!((Zg3 (k:= .str) (v:= .bool) (car:=ZuU) keys y.Key).getD false)) x_ keys
  )
 )else (
  some (.brk (s,m,e,rows,sum,x_,keys))
 )
def Zn1:Nat→Str→Int→Int→Int→Int→(List ZnA)→Int→Int→ZnG→(List (Str×Bool))→Option (Out (Str×Int×Int×Int×Int×ZnG×(List (Str×Bool))) Bool)
 |0,_,_,_,_,_,_,_,_,_,_=>none
 |n_+1,s,m,e,rows,sum,t85,t86,t87,x_,keys=>ZoE (Zn1 n_) s m e rows sum t85 t86 t87 x_ keys
def ZrI (n:Nat) (s:(Str×Int×Int×Int×Int×(List ZnA)×Int×Int×ZnG×(List (Str×Bool)))):Option (Out (Str×Int×Int×Int×Int×ZnG×(List (Str×Bool))) Bool):=Zn1 n s.1 s.2.1 s.2.2.1 s.2.2.2.1 s.2.2.2.2.1 s.2.2.2.2.2.1 s.2.2.2.2.2.2.1 s.2.2.2.2.2.2.2.1 s.2.2.2.2.2.2.2.2.1 s.2.2.2.2.2.2.2.2.2
def ZpA (rec_:(Str×Int×Int×Int×Int×(List ZnA)×Int×Int×ZnG×(List (Str×Bool)))→Option (Out (Str×Int×Int×Int×Int×ZnG×(List (Str×Bool))) Bool)) (s:(Str×Int×Int×Int×Int×(List ZnA)×Int×Int×ZnG×(List (Str×Bool)))):Option (Out (Str×Int×Int×Int×Int×ZnG×(List (Str×Bool))) Bool):=ZoE (fun s m e rows sum t85 t86 t87 x_ keys=>rec_ (s,m,e,rows,sum,t85,t86,t87,x_,keys)) s.1 s.2.1 s.2.2.1 s.2.2.2.1 s.2.2.2.2.1 s.2.2.2.2.2.1 s.2.2.2.2.2.2.1 s.2.2.2.2.2.2.2.1 s.2.2.2.2.2.2.2.2.1 s.2.2.2.2.2.2.2.2.2
theorem Zus:∀n s,ZrI (n+1) s=ZpA (ZrI n) s:=fun _ _=>rfl
def Zp2 (s:Str) (m:Int) (e:Int) (rows:Int) (x_:ZnG) (keys:(List (Str×Bool))):Option Bool:=
 (Zn1 big s m e rows (0:Int) x_.Entries (x_.Entries.length:Int) (0:Int) x_ keys).bind fun
  | .ret q_=>some q_
  | .brk (x0,x1,x2,x3,x4,x5,x6)=>Zp1 x0 x1 x2 x3 x4 x5 x6
def ZoR (rec_:Str→Int→Int→Int→(List ZnB)→Int→Int→ZnI→ZnG→(List (Str×Bool))→Option (Str×Int×Int×Int×ZnG×(List (Str×Bool)))) (s:Str) (m:Int) (e:Int) (rows:Int) (t56:(List ZnB)) (t57:Int) (i:Int) (value:ZnI) (x_:ZnG) (keys:(List (Str×Bool))):Option (Str×Int×Int×Int×ZnG×(List (Str×Bool))):=
 chk (inK .i64 (i+1)) <|
 rec_ s m e rows t56 t57 (i+1) value x_ keys
def ZoS (rec_:Str→Int→Int→Int→(List ZnB)→Int→Int→ZnI→ZnG→(List (Str×Bool))→Option (Str×Int×Int×Int×ZnG×(List (Str×Bool)))) (s:Str) (m:Int) (e:Int) (rows:Int) (t56:(List ZnB)) (t57:Int) (i:Int) (t77:Bool) (value:ZnI) (x_:ZnG) (keys:(List (Str×Bool))) (c:ZnB):Option (Str×Int×Int×Int×ZnG×(List (Str×Bool))):=
 bif t77 then (
  chk (inK .i64 (rows+1)) <|
  ZoR rec_ s m e (rows+1) t56 t57 i value x_ (setB (k:= .str) (v:= .bool) (car:=ZuU) keys c.Text true)
 )else (
  ZoR rec_ s m e rows t56 t57 i value x_ keys
 )
def ZoF (rec_:Str→Int→Int→Int→(List ZnB)→Int→Int→ZnI→ZnG→(List (Str×Bool))→Option (Str×Int×Int×Int×ZnG×(List (Str×Bool)))) (s:Str) (m:Int) (e:Int) (rows:Int) (t56:(List ZnB)) (t57:Int) (i:Int) (value:ZnI) (x_:ZnG) (keys:(List (Str×Bool))):Option (Str×Int×Int×Int×ZnG×(List (Str×Bool))):=
 bif (decide (i < t57))then (
  (idx t56 i).bind fun c=>
  (idx value.Cells i).bind fun Cell=>
  (ZoH Cell).bind fun(q,ok)=>
  bif ok then (
   ZoS rec_ s m e rows t56 t57 i (!c.Null) value x_ keys c
  )else (
   ZoS rec_ s m e rows t56 t57 i false value x_ keys c
  )
 )else (
  some (s,m,e,rows,x_,keys)
 )
def ZnU:Nat→Str→Int→Int→Int→(List ZnB)→Int→Int→ZnI→ZnG→(List (Str×Bool))→Option (Str×Int×Int×Int×ZnG×(List (Str×Bool)))
 |0,_,_,_,_,_,_,_,_,_,_=>none
 |n_+1,s,m,e,rows,t56,t57,i,value,x_,keys=>ZoF (ZnU n_) s m e rows t56 t57 i value x_ keys
def ZrJ (n:Nat) (s:(Str×Int×Int×Int×(List ZnB)×Int×Int×ZnI×ZnG×(List (Str×Bool)))):Option (Str×Int×Int×Int×ZnG×(List (Str×Bool))):=ZnU n s.1 s.2.1 s.2.2.1 s.2.2.2.1 s.2.2.2.2.1 s.2.2.2.2.2.1 s.2.2.2.2.2.2.1 s.2.2.2.2.2.2.2.1 s.2.2.2.2.2.2.2.2.1 s.2.2.2.2.2.2.2.2.2
def ZpB (rec_:(Str×Int×Int×Int×(List ZnB)×Int×Int×ZnI×ZnG×(List (Str×Bool)))→Option (Str×Int×Int×Int×ZnG×(List (Str×Bool)))) (s:(Str×Int×Int×Int×(List ZnB)×Int×Int×ZnI×ZnG×(List (Str×Bool)))):Option (Str×Int×Int×Int×ZnG×(List (Str×Bool))):=ZoF (fun s m e rows t56 t57 i value x_ keys=>rec_ (s,m,e,rows,t56,t57,i,value,x_,keys)) s.1 s.2.1 s.2.2.1 s.2.2.2.1 s.2.2.2.2.1 s.2.2.2.2.2.1 s.2.2.2.2.2.2.1 s.2.2.2.2.2.2.2.1 s.2.2.2.2.2.2.2.2.1 s.2.2.2.2.2.2.2.2.2
theorem Zut:∀n s,ZrJ (n+1) s=ZpB (ZrJ n) s:=fun _ _=>rfl
def Zn2 (t:(List Int)) (k:Int) (s:Str) (t32:Bool):Option Bool:=
 bif t32 then (
  (Zox).bind fun q=>
  some q
 )else (
  (Zse t).bind fun d=>
  (ZnS d 12).bind fun(n,t36)=>
  (Zo8 t36 n).bind fun(key,t38)=>
  (Zo8 t38 n).bind fun(value,t41)=>
  (Zqe k 8).bind fun q_1=>
  chk (inK .i64 (1+q_1)) <|
  (Zt2 key value (1+q_1)).bind fun(x_,e)=>
  (ZnU big s (1+q_1) e (0:Int) key.Cells (key.Cells.length:Int) (0:Int) value x_ ([]:(List (Str×Bool)))).bind fun(x0,x1,x2,x3,x4,x5)=>Zp2 x0 x1 x2 x3 x4 x5
 )
def Zpg (t:(List Int)) (k:Int) (s:Str):Option Bool:=
 (ZrU t).bind fun q=>
 bif (!q)then (
  Zn2 t k s true
 )else (
  Zn2 t k s (decide ((s.length:Int) > 300))
 )
end
end Go.Proofs
