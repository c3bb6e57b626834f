/- Printed by wip/tools/tgen.py: specs. -/
import Derived.Test.YtamebpdbedglkaaGreatDoorE4
import Derived.Lib.Bytealg
import Derived.Lib.ItoaNum
import Derived.Lib.SlTrimSet
import Derived.Shelf.Strconv.Itoa3
set_option linter.unusedVariables false
set_option linter.unusedSimpArgs false
set_option linter.unusedSectionVars false
namespace Go.Proofs
open Go Eng
set_option maxRecDepth 100000
noncomputable section
structure ZnE where
 Null:Bool
 Text:Str
 deriving DecidableEq,Inhabited
structure ZnL where
 Name:Str
 Cells:(List ZnE)
 deriving DecidableEq,Inhabited
structure ZnI where
 Neg:Bool
 Words:(List Int)
 deriving DecidableEq,Inhabited
structure ZnG where
 Num:ZnI
 Den:ZnI
 deriving DecidableEq,Inhabited
structure ZnA where
 Key:Str
 Hash:Int
 Count:Int
 Sum:ZnG
 deriving DecidableEq,Inhabited
structure ZnC where
 K:Int
 All:Bool
 Entries:(List ZnA)
 deriving DecidableEq,Inhabited
structure Zpb where
 word:Str
 canonical:(Option Nat)
 value:(Option Nat)
 deriving DecidableEq,Inhabited
structure ZnF where
 l:(List Int)
 at_:Int
 deriving DecidableEq,Inhabited
structure ZsU where
 K:Int
 All:Bool
 Entries:(List ZnA)
 deriving DecidableEq,Inhabited
def Zu9:Nat→Type
 |0=>ZnE
 |1=>ZnL
 |2=>ZnI
 |3=>ZnG
 |4=>ZnA
 |5=>ZnC
 |6=>Zpb
 |7=>ZnF
 |8=>ZsU
 |_=>Unit
def ZFc:Nat→Nat
 |0=>2
 |1=>2
 |2=>2
 |3=>4
 |4=>7
 |5=>3
 |6=>3
 |7=>2
 |8=>3
 |_=>0
def ZxL:List (Lf Zu9):=[⟨.sl (.int .u32),([1]:List Int)⟩]
def ZuO:List (Lf Zu9):=(Lib.pow10Tab.map fun n=>⟨.int .u64,n⟩)
def Zsf (t:(List Int)):Option Bool:=
 some (decide ((t.length:Int)≤500))
def Zt0 (w_:(List Int)):Option (List Int):=
 some w_
def Zsu (rec_:(List Int)→Option (List Int)) (w_:(List Int)) (t14:Bool):Option (List Int):=
 bif t14 then (
  chk (inK .i64 ((w_.length:Int) - 1)) <|
  chk (Zb9 0 ((w_.length:Int) - 1) (w_.length:Int)) <|
  rec_ (w_.take (((w_.length:Int) - 1)).toNat)
 )else (
  some w_
 )
def ZrU (rec_:(List Int)→Option (List Int)) (w_:(List Int)):Option (List Int):=
 bif (decide ((w_.length:Int) > 0))then (
  chk (inK .i64 ((w_.length:Int) - 1)) <|
  (idx w_ ((w_.length:Int) - 1)).bind fun w__e=>
  Zsu rec_ w_ (w__e == 0)
 )else (
  Zsu rec_ w_ false
 )
def Zpq:Nat→(List Int)→Option (List Int)
 |0,_=>none
 |n_+1,w_=>ZrU (Zpq n_) w_
def ZuX (n:Nat) (s:(List Int)):Option (List Int):=Zpq n s
def ZuY (rec_:(List Int)→Option (List Int)) (s:(List Int)):Option (List Int):=ZrU (fun w_=>rec_ w_) s
theorem Zws:∀n s,ZuX (n+1) s=ZuY (ZuX n) s:=fun _ _=>rfl
def Zoo (w_:(List Int)):Option (List Int):=
 (Zpq big w_).bind fun x0=>Zt0 x0
def Zq0 (n:Int):Option (List Int):=
 chk (decide (0≤(32:Int))) <|
 (Zoo ([(IntKind.wrap .u32 n),(IntKind.wrap .u32 (shrK .u64 n 32))]:(List Int))).bind fun q=>
 some q
def ZsY (t4:Bool) (t4_1:(List Int)):Option ZnI:=
 some (ZnI.mk t4 t4_1)
def Zoy (neg:Bool) (w_:(List Int)):Option ZnI:=
 bif neg then (
  chk (ZiZ w_.length 4) <|
  ZsY (decide ((w_.length:Int) > 0)) w_
 )else (
  chk (ZiZ w_.length 4) <|
  ZsY false w_
 )
def ZrE (n:Int):Option ZnI:=
 bif (decide (n < 0))then (
  (Zq0 (IntKind.wrap .u64 (0 - (IntKind.wrap .u64 n)))).bind fun q=>
  (Zoy true q).bind fun q_1=>
  some q_1
 )else (
  (Zq0 (IntKind.wrap .u64 n)).bind fun q_2=>
  (Zoy false q_2).bind fun q_3=>
  some q_3
 )
def Zpa (t2:Bool):Option Bool:=
 some t2
def Zrn (a:ZnI):Option Bool:=
 bif (decide ((a.Words.length:Int)≤256))then (
  bif ((a.Words.length:Int) == 0)then (
   bif (!a.Neg)then (
    Zpa true
   )else (
    bif (decide ((a.Words.length:Int) > 0))then (
     chk (inK .i64 ((a.Words.length:Int) - 1)) <|
     (idx a.Words ((a.Words.length:Int) - 1)).bind fun Word=>
     Zpa (Word != 0)
    )else (
     Zpa false
    )
   )
  )else (
   bif (decide ((a.Words.length:Int) > 0))then (
    chk (inK .i64 ((a.Words.length:Int) - 1)) <|
    (idx a.Words ((a.Words.length:Int) - 1)).bind fun Word_1=>
    Zpa (Word_1 != 0)
   )else (
    Zpa false
   )
  )
 )else (
  Zpa false
 )
def Zwj:Option Bool:=
 some true
def Zs0 (rec_:(List ZnI)→Int→Int→Option (Out Unit Bool)) (t5:(List ZnI)) (t6:Int) (t7:Int):Option (Out Unit Bool):=
 bif (decide (t7 < t6))then (
  (idx t5 t7).bind fun a=>
  (Zrn a).bind fun q=>
  bif (!q)then (
   some (.ret false)
  )else (
   chk (inK .i64 (t7+1)) <|
   rec_ t5 t6 (t7+1)
  )
 )else (
  some (.brk ())
 )
def ZtK:Nat→(List ZnI)→Int→Int→Option (Out Unit Bool)
 |0,_,_,_=>none
 |n_+1,t5,t6,t7=>Zs0 (ZtK n_) t5 t6 t7
def ZvG (n:Nat) (s:((List ZnI)×Int×Int)):Option (Out Unit Bool):=ZtK n s.1 s.2.1 s.2.2
def Zuw (rec_:((List ZnI)×Int×Int)→Option (Out Unit Bool)) (s:((List ZnI)×Int×Int)):Option (Out Unit Bool):=Zs0 (fun t5 t6 t7=>rec_ (t5,t6,t7)) s.1 s.2.1 s.2.2
theorem ZwN:∀n s,ZvG (n+1) s=Zuw (ZvG n) s:=fun _ _=>rfl
def Ztb (l:(List ZnI)):Option Bool:=
 (ZtK big l (l.length:Int) (0:Int)).bind fun
  | .ret q_=>some q_
  | .brk ()=>Zwj
def Zt8 (x_:Int):Option Bool:=
 some (x_ != x_)
def Ztc (x_:Int) (y:Int):Option Int:=
 (Zt8 x_).bind fun xNaN=>
 (Zt8 y).bind fun yNaN=>
 bif xNaN then (
  bif yNaN then (
   some (0:Int)
  )else (
   some (-1:Int)
  )
 )else (
  bif yNaN then (
   some (1:Int)
  )else (
   bif (decide (x_ < y))then (
    some (-1:Int)
   )else (
    bif (decide (x_ > y))then (
     some (1:Int)
    )else (
     some (0:Int)
    )
   )
  )
 )
def ZtL (x_:Int):Option Bool:=
 some (x_ != x_)
def Zs2 (x_:Int) (y:Int):Option Int:=
 (ZtL x_).bind fun xNaN=>
 (ZtL y).bind fun yNaN=>
 bif xNaN then (
  bif yNaN then (
   some (0:Int)
  )else (
   some (-1:Int)
  )
 )else (
  bif yNaN then (
   some (1:Int)
  )else (
   bif (decide (x_ < y))then (
    some (-1:Int)
   )else (
    bif (decide (x_ > y))then (
     some (1:Int)
    )else (
     some (0:Int)
    )
   )
  )
 )
def Zsc:Option Int:=
 some (0:Int)
def Zqp (rec_:(List Int)→(List Int)→Int→Option (Out Unit Int)) (w_:(List Int)) (v_:(List Int)) (i:Int):Option (Out Unit Int):=
 bif (decide (i≥0))then (
  (idx w_ i).bind fun w__e=>
  (idx v_ i).bind fun v__e=>
  (Zs2 w__e v__e).bind fun c=>
  bif (c != 0)then (
   some (.ret c)
  )else (
   chk (inK .i64 (i - 1)) <|
   rec_ w_ v_ (i - 1)
  )
 )else (
  some (.brk ())
 )
def ZqX:Nat→(List Int)→(List Int)→Int→Option (Out Unit Int)
 |0,_,_,_=>none
 |n_+1,w_,v_,i=>Zqp (ZqX n_) w_ v_ i
def Ztw (n:Nat) (s:((List Int)×(List Int)×Int)):Option (Out Unit Int):=ZqX n s.1 s.2.1 s.2.2
def ZrM (rec_:((List Int)×(List Int)×Int)→Option (Out Unit Int)) (s:((List Int)×(List Int)×Int)):Option (Out Unit Int):=Zqp (fun w_ v_ i=>rec_ (w_,v_,i)) s.1 s.2.1 s.2.2
theorem Zvn:∀n s,Ztw (n+1) s=ZrM (Ztw n) s:=fun _ _=>rfl
def ZoQ (w_:(List Int)) (v_:(List Int)):Option Int:=
 (Ztc (w_.length:Int) (v_.length:Int)).bind fun c=>
 bif (c != 0)then (
  some c
 )else (
  chk (inK .i64 ((w_.length:Int) - 1)) <|
  (ZqX big w_ v_ ((w_.length:Int) - 1)).bind fun
   | .ret q_=>some q_
   | .brk ()=>Zsc
 )
def ZnO (s:(List Int)) (t4:Bool):Option (List Int):=
 bif t4 then (
  some ([]:(List Int))
 )else (
  chk (ZiZ (([]:(List Int)).length+s.length) 4) <|
  some (([]:(List Int))++s)
 )
def ZoN (s:(List Int)):Option (List Int):=
 bif (List.isEmpty s)then agree (
  ZnO s true
 ) (
  ZnO s false
 )else (
  ZnO s false
 )
def ZrO (hi:Int) (lo:Int) (y:Int) (t15:Bool):Option (Int×Int):=
 bif t15 then (
  none
 )else (
  chk (decide (0≤(32:Int))) <|
  chk (decide ((IntKind.wrap .u64 y)≠0)) <|
  chk (decide ((IntKind.wrap .u64 y)≠0)) <|
  some ((IntKind.wrap .u32 (IntKind.wrap .u64 (Int.tdiv (orK .u64 (shlK .u64 (IntKind.wrap .u64 hi) 32) (IntKind.wrap .u64 lo)) (IntKind.wrap .u64 y)))),(IntKind.wrap .u32 (Int.tmod (orK .u64 (shlK .u64 (IntKind.wrap .u64 hi) 32) (IntKind.wrap .u64 lo)) (IntKind.wrap .u64 y))))
 )
def Zs7 (hi:Int) (lo:Int) (y:Int):Option (Int×Int):=
 bif (y != 0)then (
  ZrO hi lo y (decide (y≤hi))
 )else (
  ZrO hi lo y false
 )
def ZsQ (rest:Int) (out:(List Int)):Option ((List Int)×Int):=
 (Zoo out).bind fun q=>
 some (q,rest)
def ZqU (rec_:(List Int)→Int→Int→Int→(List Int)→Option (Int×(List Int))) (w_:(List Int)) (d:Int) (rest:Int) (i:Int) (out:(List Int)):Option (Int×(List Int)):=
 bif (decide (i≥0))then (
  (idx w_ i).bind fun w__e=>
  (Zs7 rest w__e d).bind fun(q,rest_1)=>
  chk (inR i (out.length:Int)) <|
  chk (inK .i64 (i - 1)) <|
  rec_ w_ d rest_1 (i - 1) (out.set ((i).toNat) q)
 )else (
  some (rest,out)
 )
def Zrv:Nat→(List Int)→Int→Int→Int→(List Int)→Option (Int×(List Int))
 |0,_,_,_,_,_=>none
 |n_+1,w_,d,rest,i,out=>ZqU (Zrv n_) w_ d rest i out
def ZtX (n:Nat) (s:((List Int)×Int×Int×Int×(List Int))):Option (Int×(List Int)):=Zrv n s.1 s.2.1 s.2.2.1 s.2.2.2.1 s.2.2.2.2
def Zr9 (rec_:((List Int)×Int×Int×Int×(List Int))→Option (Int×(List Int))) (s:((List Int)×Int×Int×Int×(List Int))):Option (Int×(List Int)):=ZqU (fun w_ d rest i out=>rec_ (w_,d,rest,i,out)) s.1 s.2.1 s.2.2.1 s.2.2.2.1 s.2.2.2.2
theorem ZvT:∀n s,ZtX (n+1) s=Zr9 (ZtX n) s:=fun _ _=>rfl
def Zre (w_:(List Int)) (d:Int):Option ((List Int)×Int):=
 chk (mkOk (w_.length:Int) (w_.length:Int) 4) <|
 chk (inK .i64 ((w_.length:Int) - 1)) <|
 (Zrv big w_ d (0:Int) ((w_.length:Int) - 1) (List.replicate ((w_.length:Int)).toNat (0:Int))).bind fun(x0,x1)=>ZsQ x0 x1
def Zq1 (x_:Int) (n:Int):Option Int:=
 (idx ([0,1,2,2,3,3,3,3,4,4,4,4,4,4,4,4,5,5,5,5,5,5,5,5,5,5,5,5,5,5,5,5,6,6,6,6,6,6,6,6,6,6,6,6,6,6,6,6,6,6,6,6,6,6,6,6,6,6,6,6,6,6,6,6,7,7,7,7,7,7,7,7,7,7,7,7,7,7,7,7,7,7,7,7,7,7,7,7,7,7,7,7,7,7,7,7,7,7,7,7,7,7,7,7,7,7,7,7,7,7,7,7,7,7,7,7,7,7,7,7,7,7,7,7,7,7,7,7,8,8,8,8,8,8,8,8,8,8,8,8,8,8,8,8,8,8,8,8,8,8,8,8,8,8,8,8,8,8,8,8,8,8,8,8,8,8,8,8,8,8,8,8,8,8,8,8,8,8,8,8,8,8,8,8,8,8,8,8,8,8,8,8,8,8,8,8,8,8,8,8,8,8,8,8,8,8,8,8,8,8,8,8,8,8,8,8,8,8,8,8,8,8,8,8,8,8,8,8,8,8,8,8,8,8,8,8,8,8,8,8,8,8,8,8,8,8,8,8,8,8,8,8,8,8,8,8]:Str) (IntKind.wrap .u8 x_)).bind fun c=>
 chk (inK .i64 (n+(IntKind.wrap .i64 ((c.toNat:Nat):Int)))) <|
 some (n+(IntKind.wrap .i64 ((c.toNat:Nat):Int)))
def ZsW (x_:Int) (n:Int):Option Int:=
 bif (decide (x_≥256))then (
  chk (decide (0≤(8:Int))) <|
  chk (inK .i64 (n+8)) <|
  Zq1 (shrK .u32 x_ 8) (n+8)
 )else (
  Zq1 x_ n
 )
def Zs6 (x_:Int):Option Int:=
 bif (decide (x_≥65536))then (
  chk (decide (0≤(16:Int))) <|
  ZsW (shrK .u32 x_ 16) (16:Int)
 )else (
  ZsW x_ (0:Int)
 )
def Zp4 (x_:Int):Option Int:=
 (Zs6 x_).bind fun q=>
 chk (inK .i64 (32 - q)) <|
 some (32 - q)
def Zsa (out:(List Int)):Option (List Int):=
 some out
def Zqo (rec_:Int→(List Int)→Int→Int→(List Int)→Option (List Int)) (n:Int) (t13:(List Int)) (t14:Int) (i:Int) (out:(List Int)):Option (List Int):=
 bif (decide (i < t14))then (
  (idx t13 i).bind fun d=>
  chk (decide (0≤n)) <|
  chk (inR i (out.length:Int)) <|
  (out[(i).toNat]?).bind fun out_e=>
  chk (inR i (out.length:Int)) <|
  chk (inK .i64 (i+1)) <|
  chk (decide (0≤(32:Int))) <|
  chk (inR (i+1) ((out.set ((i).toNat) (orK .u32 out_e (IntKind.wrap .u32 (shlK .u64 (IntKind.wrap .u64 d) n)))).length:Int)) <|
  chk (inK .i64 (i+1)) <|
  rec_ n t13 t14 (i+1) ((out.set ((i).toNat) (orK .u32 out_e (IntKind.wrap .u32 (shlK .u64 (IntKind.wrap .u64 d) n)))).set (((i+1)).toNat) (IntKind.wrap .u32 (shrK .u64 (shlK .u64 (IntKind.wrap .u64 d) n) 32)))
 )else (
  some out
 )
def ZqV:Nat→Int→(List Int)→Int→Int→(List Int)→Option (List Int)
 |0,_,_,_,_,_=>none
 |n_+1,n,t13,t14,i,out=>Zqo (ZqV n_) n t13 t14 i out
def Ztv (n:Nat) (s:(Int×(List Int)×Int×Int×(List Int))):Option (List Int):=ZqV n s.1 s.2.1 s.2.2.1 s.2.2.2.1 s.2.2.2.2
def ZrL (rec_:(Int×(List Int)×Int×Int×(List Int))→Option (List Int)) (s:(Int×(List Int)×Int×Int×(List Int))):Option (List Int):=Zqo (fun n t13 t14 i out=>rec_ (n,t13,t14,i,out)) s.1 s.2.1 s.2.2.1 s.2.2.2.1 s.2.2.2.2
theorem Zvm:∀n s,Ztv (n+1) s=ZrL (Ztv n) s:=fun _ _=>rfl
def Zpf (w_:(List Int)) (n:Int):Option (List Int):=
 chk (inK .i64 ((w_.length:Int)+1)) <|
 chk (mkOk ((w_.length:Int)+1) ((w_.length:Int)+1) 4) <|
 (ZqV big n w_ (w_.length:Int) (0:Int) (List.replicate (((w_.length:Int)+1)).toNat (0:Int))).bind fun x0=>Zsa x0
def Zrj (x_:Int) (y:Int) (borrow:Int):Option (Int×Int):=
 chk (decide (0≤(31:Int))) <|
 some ((IntKind.wrap .u32 ((IntKind.wrap .u32 (x_ - y)) - borrow)),(shrK .u32 (orK .u32 (andK .u32 (xorK .u32 (if IntKind.signed .u32 then -1 else IntKind.max .u32) x_) y) (andK .u32 (xorK .u32 (if IntKind.signed .u32 then -1 else IntKind.max .u32) (xorK .u32 x_ y)) (IntKind.wrap .u32 ((IntKind.wrap .u32 (x_ - y)) - borrow)))) 31))
def ZrX (x_:Int) (y:Int) (carry:Int):Option (Int×Int):=
 chk (decide (0≤(32:Int))) <|
 some ((IntKind.wrap .u32 (IntKind.wrap .u64 ((IntKind.wrap .u64 ((IntKind.wrap .u64 x_)+(IntKind.wrap .u64 y)))+(IntKind.wrap .u64 carry)))),(IntKind.wrap .u32 (shrK .u64 (IntKind.wrap .u64 ((IntKind.wrap .u64 ((IntKind.wrap .u64 x_)+(IntKind.wrap .u64 y)))+(IntKind.wrap .u64 carry))) 32)))
def Ztn (u_off:Nat) (u_len:Nat) (n:Int) (guess:Int) (add:Int) (u:(List Int)):Option (Int×(List Int)):=
 chk (inR n (u_len:Int)) <|
 (u[(u_off+(n).toNat)]?).bind fun u_e=>
 chk (inR n (u_len:Int)) <|
 some ((IntKind.wrap .u32 (IntKind.wrap .u64 (guess - 1))),(u.set (u_off+(n).toNat) (IntKind.wrap .u32 (u_e+add))))
def Zsv (rec_:Nat→Nat→Int→Int→Int→(List Int)→Int→Int→(List Int)→Option (Nat×Nat×Int×Int×Int×(List Int))) (u_off:Nat) (u_len:Nat) (n:Int) (guess:Int) (add:Int) (t130:(List Int)) (t131:Int) (i:Int) (u:(List Int)):Option (Nat×Nat×Int×Int×Int×(List Int)):=
 bif (decide (i < t131))then (
  (idx t130 i).bind fun x_=>
  chk (inR i (u_len:Int)) <|
  (u[(u_off+(i).toNat)]?).bind fun u_e=>
  (ZrX u_e x_ add).bind fun(q,add_1)=>
  chk (inR i (u_len:Int)) <|
  chk (inK .i64 (i+1)) <|
  rec_ u_off u_len n guess add_1 t130 t131 (i+1) (u.set (u_off+(i).toNat) q)
 )else (
  some (u_off,u_len,n,guess,add,u)
 )
def Zsd:Nat→Nat→Nat→Int→Int→Int→(List Int)→Int→Int→(List Int)→Option (Nat×Nat×Int×Int×Int×(List Int))
 |0,_,_,_,_,_,_,_,_,_=>none
 |n_+1,u_off,u_len,n,guess,add,t130,t131,i,u=>Zsv (Zsd n_) u_off u_len n guess add t130 t131 i u
def Zvo (n:Nat) (s:(Nat×Nat×Int×Int×Int×(List Int)×Int×Int×(List Int))):Option (Nat×Nat×Int×Int×Int×(List Int)):=Zsd n s.1 s.2.1 s.2.2.1 s.2.2.2.1 s.2.2.2.2.1 s.2.2.2.2.2.1 s.2.2.2.2.2.2.1 s.2.2.2.2.2.2.2.1 s.2.2.2.2.2.2.2.2
def Zt1 (rec_:(Nat×Nat×Int×Int×Int×(List Int)×Int×Int×(List Int))→Option (Nat×Nat×Int×Int×Int×(List Int))) (s:(Nat×Nat×Int×Int×Int×(List Int)×Int×Int×(List Int))):Option (Nat×Nat×Int×Int×Int×(List Int)):=Zsv (fun u_off u_len n guess add t130 t131 i u=>rec_ (u_off,u_len,n,guess,add,t130,t131,i,u)) s.1 s.2.1 s.2.2.1 s.2.2.2.1 s.2.2.2.2.1 s.2.2.2.2.2.1 s.2.2.2.2.2.2.1 s.2.2.2.2.2.2.2.1 s.2.2.2.2.2.2.2.2
theorem ZwH:∀n s,Zvo (n+1) s=Zt1 (Zvo n) s:=fun _ _=>rfl
def ZuN (u_off:Nat) (u_len:Nat) (d:(List Int)) (n:Int) (guess:Int) (borrow:Int) (carry:Int) (u:(List Int)):Option (Int×(List Int)):=
 chk (inR n (u_len:Int)) <|
 (u[(u_off+(n).toNat)]?).bind fun u_e=>
 (Zrj u_e (IntKind.wrap .u32 carry) borrow).bind fun(q,borrow_1)=>
 chk (inR n (u_len:Int)) <|
 bif (borrow_1 == 0)then (
  some ((IntKind.wrap .u32 guess),(u.set (u_off+(n).toNat) q))
 )else (
  (Zsd big u_off u_len n guess (0:Int) d (d.length:Int) (0:Int) (u.set (u_off+(n).toNat) q)).bind fun(x0,x1,x2,x3,x4,x5)=>Ztn x0 x1 x2 x3 x4 x5
 )
def Zsw (rec_:Nat→Nat→(List Int)→Int→Int→Int→Int→(List Int)→Int→Int→(List Int)→Option (Nat×Nat×(List Int)×Int×Int×Int×Int×(List Int))) (u_off:Nat) (u_len:Nat) (d:(List Int)) (n:Int) (guess:Int) (borrow:Int) (carry:Int) (t82:(List Int)) (t83:Int) (i:Int) (u:(List Int)):Option (Nat×Nat×(List Int)×Int×Int×Int×Int×(List Int)):=
 bif (decide (i < t83))then (
  (idx t82 i).bind fun x_=>
  chk (inR i (u_len:Int)) <|
  (u[(u_off+(i).toNat)]?).bind fun u_e=>
  (Zrj u_e (IntKind.wrap .u32 (IntKind.wrap .u64 (carry+(IntKind.wrap .u64 (guess*(IntKind.wrap .u64 x_)))))) borrow).bind fun(q,borrow_1)=>
  chk (inR i (u_len:Int)) <|
  chk (decide (0≤(32:Int))) <|
  chk (inK .i64 (i+1)) <|
  rec_ u_off u_len d n guess borrow_1 (shrK .u64 (IntKind.wrap .u64 (carry+(IntKind.wrap .u64 (guess*(IntKind.wrap .u64 x_))))) 32) t82 t83 (i+1) (u.set (u_off+(i).toNat) q)
 )else (
  some (u_off,u_len,d,n,guess,borrow,carry,u)
 )
def Ztm:Nat→Nat→Nat→(List Int)→Int→Int→Int→Int→(List Int)→Int→Int→(List Int)→Option (Nat×Nat×(List Int)×Int×Int×Int×Int×(List Int))
 |0,_,_,_,_,_,_,_,_,_,_,_=>none
 |n_+1,u_off,u_len,d,n,guess,borrow,carry,t82,t83,i,u=>Zsw (Ztm n_) u_off u_len d n guess borrow carry t82 t83 i u
def Zvp (n:Nat) (s:(Nat×Nat×(List Int)×Int×Int×Int×Int×(List Int)×Int×Int×(List Int))):Option (Nat×Nat×(List Int)×Int×Int×Int×Int×(List Int)):=Ztm n s.1 s.2.1 s.2.2.1 s.2.2.2.1 s.2.2.2.2.1 s.2.2.2.2.2.1 s.2.2.2.2.2.2.1 s.2.2.2.2.2.2.2.1 s.2.2.2.2.2.2.2.2.1 s.2.2.2.2.2.2.2.2.2.1 s.2.2.2.2.2.2.2.2.2.2
def Zt2 (rec_:(Nat×Nat×(List Int)×Int×Int×Int×Int×(List Int)×Int×Int×(List Int))→Option (Nat×Nat×(List Int)×Int×Int×Int×Int×(List Int))) (s:(Nat×Nat×(List Int)×Int×Int×Int×Int×(List Int)×Int×Int×(List Int))):Option (Nat×Nat×(List Int)×Int×Int×Int×Int×(List Int)):=Zsw (fun u_off u_len d n guess borrow carry t82 t83 i u=>rec_ (u_off,u_len,d,n,guess,borrow,carry,t82,t83,i,u)) s.1 s.2.1 s.2.2.1 s.2.2.2.1 s.2.2.2.2.1 s.2.2.2.2.2.1 s.2.2.2.2.2.2.1 s.2.2.2.2.2.2.2.1 s.2.2.2.2.2.2.2.2.1 s.2.2.2.2.2.2.2.2.2.1 s.2.2.2.2.2.2.2.2.2.2
theorem ZwI:∀n s,Zvp (n+1) s=Zt2 (Zvp n) s:=fun _ _=>rfl
def Zto (u_off:Nat) (u_len:Nat) (d:(List Int)) (n:Int) (guess:Int) (u:(List Int)):Option (Int×(List Int)):=
 (Ztm big u_off u_len d n guess (0:Int) (0:Int) d (d.length:Int) (0:Int) u).bind fun(x0,x1,x2,x3,x4,x5,x6,x7)=>ZuN x0 x1 x2 x3 x4 x5 x6 x7
def Zse (rec_:Nat→Nat→(List Int)→Int→Int→Int→(List Int)→Option (Nat×Nat×(List Int)×Int×Int×(List Int))) (u_off:Nat) (u_len:Nat) (d:(List Int)) (n:Int) (guess:Int) (rest:Int) (t71:Bool) (u:(List Int)):Option (Nat×Nat×(List Int)×Int×Int×(List Int)):=
 bif t71 then (
  chk (inK .i64 (n - 1)) <|
  (idx d (n - 1)).bind fun d_e=>
  rec_ u_off u_len d n (IntKind.wrap .u64 (guess - 1)) (IntKind.wrap .u64 (rest+(IntKind.wrap .u64 d_e))) u
 )else (
  some (u_off,u_len,d,n,guess,u)
 )
def Zt3 (rec_:Nat→Nat→(List Int)→Int→Int→Int→(List Int)→Option (Nat×Nat×(List Int)×Int×Int×(List Int))) (u_off:Nat) (u_len:Nat) (d:(List Int)) (n:Int) (guess:Int) (rest:Int) (u:(List Int)):Option (Nat×Nat×(List Int)×Int×Int×(List Int)):=
 bif (decide (rest < 4294967296))then (
  chk (inK .i64 (n - 2)) <|
  (idx d (n - 2)).bind fun d_e=>
  chk (decide (0≤(32:Int))) <|
  chk (inK .i64 (n - 2)) <|
  chk (inR (n - 2) (u_len:Int)) <|
  (u[(u_off+((n - 2)).toNat)]?).bind fun u_e=>
  Zse rec_ u_off u_len d n guess rest (decide ((IntKind.wrap .u64 (guess*(IntKind.wrap .u64 d_e))) > (orK .u64 (shlK .u64 rest 32) (IntKind.wrap .u64 u_e)))) u
 )else (
  Zse rec_ u_off u_len d n guess rest false u
 )
def Zrl:Nat→Nat→Nat→(List Int)→Int→Int→Int→(List Int)→Option (Nat×Nat×(List Int)×Int×Int×(List Int))
 |0,_,_,_,_,_,_,_=>none
 |n_+1,u_off,u_len,d,n,guess,rest,u=>Zt3 (Zrl n_) u_off u_len d n guess rest u
def Zvq (n:Nat) (s:(Nat×Nat×(List Int)×Int×Int×Int×(List Int))):Option (Nat×Nat×(List Int)×Int×Int×(List Int)):=Zrl n s.1 s.2.1 s.2.2.1 s.2.2.2.1 s.2.2.2.2.1 s.2.2.2.2.2.1 s.2.2.2.2.2.2
def Zvr (rec_:(Nat×Nat×(List Int)×Int×Int×Int×(List Int))→Option (Nat×Nat×(List Int)×Int×Int×(List Int))) (s:(Nat×Nat×(List Int)×Int×Int×Int×(List Int))):Option (Nat×Nat×(List Int)×Int×Int×(List Int)):=Zt3 (fun u_off u_len d n guess rest u=>rec_ (u_off,u_len,d,n,guess,rest,u)) s.1 s.2.1 s.2.2.1 s.2.2.2.1 s.2.2.2.2.1 s.2.2.2.2.2.1 s.2.2.2.2.2.2
theorem ZwJ:∀n s,Zvq (n+1) s=Zvr (Zvq n) s:=fun _ _=>rfl
def ZuI (u:(List Int)) (u_off:Nat) (u_len:Nat) (d:(List Int)):Option (Int×(List Int)):=
 chk (inR (d.length:Int) (u_len:Int)) <|
 (u[(u_off+((d.length:Int)).toNat)]?).bind fun u_e=>
 chk (decide (0≤(32:Int))) <|
 chk (inK .i64 ((d.length:Int) - 1)) <|
 chk (inR ((d.length:Int) - 1) (u_len:Int)) <|
 (u[(u_off+(((d.length:Int) - 1)).toNat)]?).bind fun u_e_1=>
 chk (inK .i64 ((d.length:Int) - 1)) <|
 (idx d ((d.length:Int) - 1)).bind fun d_e=>
 chk (decide ((IntKind.wrap .u64 d_e)≠0)) <|
 chk (inK .i64 ((d.length:Int) - 1)) <|
 (idx d ((d.length:Int) - 1)).bind fun d_e_1=>
 (Zrl big u_off u_len d (d.length:Int) (if (4294967295:Int) < (IntKind.wrap .u64 (Int.tdiv (orK .u64 (shlK .u64 (IntKind.wrap .u64 u_e) 32) (IntKind.wrap .u64 u_e_1)) (IntKind.wrap .u64 d_e)))then (4294967295:Int)else (IntKind.wrap .u64 (Int.tdiv (orK .u64 (shlK .u64 (IntKind.wrap .u64 u_e) 32) (IntKind.wrap .u64 u_e_1)) (IntKind.wrap .u64 d_e)))) (IntKind.wrap .u64 ((orK .u64 (shlK .u64 (IntKind.wrap .u64 u_e) 32) (IntKind.wrap .u64 u_e_1)) - (IntKind.wrap .u64 ((if (4294967295:Int) < (IntKind.wrap .u64 (Int.tdiv (orK .u64 (shlK .u64 (IntKind.wrap .u64 u_e) 32) (IntKind.wrap .u64 u_e_1)) (IntKind.wrap .u64 d_e)))then (4294967295:Int)else (IntKind.wrap .u64 (Int.tdiv (orK .u64 (shlK .u64 (IntKind.wrap .u64 u_e) 32) (IntKind.wrap .u64 u_e_1)) (IntKind.wrap .u64 d_e))))*(IntKind.wrap .u64 d_e_1))))) u).bind fun(x0,x1,x2,x3,x4,x5)=>Zto x0 x1 x2 x3 x4 x5
def ZtJ (u:(List Int)) (u_off:Nat) (u_len:Nat) (d:(List Int)):Option (Int×(List Int)):=
 (ZuI u u_off u_len d).bind fun r=>chk (decide (r.2.length=u.length)&&true) (some r)
def Ztl (w_off:Nat) (w_len:Nat) (w_:(List Int)):Option (Nat×Nat×(List Int)):=
 some (w_off,w_len,w_)
def ZrV (rec_:Nat→Nat→(List Int)→Option (Nat×Nat×(List Int))) (w_off:Nat) (w_len:Nat) (t14:Bool) (w_:(List Int)):Option (Nat×Nat×(List Int)):=
 bif t14 then (
  chk (inK .i64 (((w_len:Nat):Int) - 1)) <|
  chk (Zb9 0 (((w_len:Nat):Int) - 1) (w_len:Int)) <|
  rec_ (w_off+0) (((((w_len:Nat):Int) - 1)).toNat - 0) w_
 )else (
  some (w_off,w_len,w_)
 )
def ZsS (rec_:Nat→Nat→(List Int)→Option (Nat×Nat×(List Int))) (w_off:Nat) (w_len:Nat) (w_:(List Int)):Option (Nat×Nat×(List Int)):=
 bif (decide (((w_len:Nat):Int) > 0))then (
  chk (inK .i64 (((w_len:Nat):Int) - 1)) <|
  chk (inR (((w_len:Nat):Int) - 1) (w_len:Int)) <|
  (w_[(w_off+((((w_len:Nat):Int) - 1)).toNat)]?).bind fun w__e=>
  ZrV rec_ w_off w_len (w__e == 0) w_
 )else (
  ZrV rec_ w_off w_len false w_
 )
def ZqY:Nat→Nat→Nat→(List Int)→Option (Nat×Nat×(List Int))
 |0,_,_,_=>none
 |n_+1,w_off,w_len,w_=>ZsS (ZqY n_) w_off w_len w_
def ZuB (n:Nat) (s:(Nat×Nat×(List Int))):Option (Nat×Nat×(List Int)):=ZqY n s.1 s.2.1 s.2.2
def ZuC (rec_:(Nat×Nat×(List Int))→Option (Nat×Nat×(List Int))) (s:(Nat×Nat×(List Int))):Option (Nat×Nat×(List Int)):=ZsS (fun w_off w_len w_=>rec_ (w_off,w_len,w_)) s.1 s.2.1 s.2.2
theorem Zwg:∀n s,ZuB (n+1) s=ZuC (ZuB n) s:=fun _ _=>rfl
def ZsX (w_:(List Int)) (w_off:Nat) (w_len:Nat):Option (Nat×Nat×(List Int)):=
 (ZqY big w_off w_len w_).bind fun(x0,x1,x2)=>Ztl x0 x1 x2
def Zsg (w_:(List Int)) (w_off:Nat) (w_len:Nat):Option (Nat×Nat×(List Int)):=
 (ZsX w_ w_off w_len).bind fun r=>chk (decide (r.2.2.length=w_.length)&&true) (some r)
def ZqC (w_:(List Int)) (i:Int):Option Int:=
 bif (decide (i < (w_.length:Int)))then (
  (idx w_ i).bind fun w__e=>
  some w__e
 )else (
  some (0:Int)
 )
def ZtZ (w_:(List Int)) (w_off:Nat) (w_len:Nat) (i:Int):Option (Int×(List Int)):=
 bif (decide (i < ((w_len:Nat):Int)))then (
  chk (inR i (w_len:Int)) <|
  (w_[(w_off+(i).toNat)]?).bind fun w__e=>
  some (w__e,w_)
 )else (
  some (0,w_)
 )
def ZrT (w_:(List Int)) (w_off:Nat) (w_len:Nat) (i:Int):Option (Int×(List Int)):=
 (ZtZ w_ w_off w_len i).bind fun r=>chk (decide (r.2.length=w_.length)&&true) (some r)
def Zs9 (rest_off:Nat) (rest_len:Nat) (q:(List Int)) (rest:(List Int)):Option ((List Int)×(List Int)):=
 (Zoo q).bind fun q_1=>
 (Zoo ((rest.drop rest_off).take rest_len)).bind fun q_2=>
 some (q_1,q_2)
def Zq9 (rec_:Int→Nat→Nat→Int→Int→(List Int)→(List Int)→Option (Nat×Nat×(List Int)×(List Int))) (shift:Int) (rest_off:Nat) (rest_len:Nat) (t86:Int) (i:Int) (q:(List Int)) (rest:(List Int)):Option (Nat×Nat×(List Int)×(List Int)):=
 bif (decide (i < t86))then (
  chk (inK .i64 (i+1)) <|
  (ZrT rest rest_off rest_len (i+1)).bind fun(q_1,t90)=>
  chk (decide (0≤(32:Int))) <|
  chk (inR i (rest_len:Int)) <|
  (t90[(rest_off+(i).toNat)]?).bind fun t90_e=>
  chk (decide (0≤shift)) <|
  chk (inR i (rest_len:Int)) <|
  chk (inK .i64 (i+1)) <|
  rec_ shift rest_off rest_len t86 (i+1) q (t90.set (rest_off+(i).toNat) (IntKind.wrap .u32 (shrK .u64 (orK .u64 (shlK .u64 (IntKind.wrap .u64 q_1) 32) (IntKind.wrap .u64 t90_e)) shift)))
 )else (
  some (rest_off,rest_len,q,rest)
 )
def ZqE:Nat→Int→Nat→Nat→Int→Int→(List Int)→(List Int)→Option (Nat×Nat×(List Int)×(List Int))
 |0,_,_,_,_,_,_,_=>none
 |n_+1,shift,rest_off,rest_len,t86,i,q,rest=>Zq9 (ZqE n_) shift rest_off rest_len t86 i q rest
def Zuq (n:Nat) (s:(Int×Nat×Nat×Int×Int×(List Int)×(List Int))):Option (Nat×Nat×(List Int)×(List Int)):=ZqE n s.1 s.2.1 s.2.2.1 s.2.2.2.1 s.2.2.2.2.1 s.2.2.2.2.2.1 s.2.2.2.2.2.2
def Zsp (rec_:(Int×Nat×Nat×Int×Int×(List Int)×(List Int))→Option (Nat×Nat×(List Int)×(List Int))) (s:(Int×Nat×Nat×Int×Int×(List Int)×(List Int))):Option (Nat×Nat×(List Int)×(List Int)):=Zq9 (fun shift rest_off rest_len t86 i q rest=>rec_ (shift,rest_off,rest_len,t86,i,q,rest)) s.1 s.2.1 s.2.2.1 s.2.2.2.1 s.2.2.2.2.1 s.2.2.2.2.2.1 s.2.2.2.2.2.2
theorem Zv4:∀n s,Zuq (n+1) s=Zsp (Zuq n) s:=fun _ _=>rfl
def Zta (n:Int) (shift:Int) (u:(List Int)) (q:(List Int)):Option ((List Int)×(List Int)):=
 chk (Zb9 0 n (u.length:Int)) <|
 (Zsg u 0 ((n).toNat - 0)).bind fun(rest_off,rest_len,t83)=>
 (ZqE big shift rest_off rest_len ((rest_len:Nat):Int) (0:Int) q t83).bind fun(x0,x1,x2,x3)=>Zs9 x0 x1 x2 x3
def Zra (rec_:Int→Int→(List Int)→Int→(List Int)→(List Int)→Option (Int×Int×(List Int)×(List Int))) (n:Int) (shift:Int) (d:(List Int)) (j:Int) (u:(List Int)) (q:(List Int)):Option (Int×Int×(List Int)×(List Int)):=
 bif (decide (j≥0))then (
  chk (inK .i64 (j+n)) <|
  chk (inK .i64 ((j+n)+1)) <|
  chk (Zb9 j ((j+n)+1) (u.length:Int)) <|
  (ZtJ u ((j).toNat) ((((j+n)+1)).toNat - (j).toNat) d).bind fun(q_1,t77)=>
  chk (inR j (q.length:Int)) <|
  chk (inK .i64 (j - 1)) <|
  rec_ n shift d (j - 1) t77 (q.set ((j).toNat) q_1)
 )else (
  some (n,shift,u,q)
 )
def ZqF:Nat→Int→Int→(List Int)→Int→(List Int)→(List Int)→Option (Int×Int×(List Int)×(List Int))
 |0,_,_,_,_,_,_=>none
 |n_+1,n,shift,d,j,u,q=>Zra (ZqF n_) n shift d j u q
def Zur (n:Nat) (s:(Int×Int×(List Int)×Int×(List Int)×(List Int))):Option (Int×Int×(List Int)×(List Int)):=ZqF n s.1 s.2.1 s.2.2.1 s.2.2.2.1 s.2.2.2.2.1 s.2.2.2.2.2
def Zsq (rec_:(Int×Int×(List Int)×Int×(List Int)×(List Int))→Option (Int×Int×(List Int)×(List Int))) (s:(Int×Int×(List Int)×Int×(List Int)×(List Int))):Option (Int×Int×(List Int)×(List Int)):=Zra (fun n shift d j u q=>rec_ (n,shift,d,j,u,q)) s.1 s.2.1 s.2.2.1 s.2.2.2.1 s.2.2.2.2.1 s.2.2.2.2.2
theorem Zv5:∀n s,Zur (n+1) s=Zsq (Zur n) s:=fun _ _=>rfl
def ZpQ (w_:(List Int)) (v_:(List Int)):Option ((List Int)×(List Int)):=
 (ZoQ w_ v_).bind fun q=>
 bif (decide (q < 0))then (
  (ZoN w_).bind fun q_1=>
  some (([]:(List Int)),q_1)
 )else (
  bif ((v_.length:Int) == 1)then (
   (idx v_ 0).bind fun v__e=>
   (Zre w_ v__e).bind fun(q_2,r_)=>
   (Zoo ([r_]:(List Int))).bind fun q_3=>
   some (q_2,q_3)
  )else (
   chk (inK .i64 ((v_.length:Int) - 1)) <|
   (idx v_ ((v_.length:Int) - 1)).bind fun v__e_1=>
   (Zp4 v__e_1).bind fun shift=>
   (Zpf w_ shift).bind fun u=>
   (Zpf v_ shift).bind fun q_4=>
   chk (Zb9 0 (v_.length:Int) (q_4.length:Int)) <|
   chk (inK .i64 ((w_.length:Int) - (v_.length:Int))) <|
   chk (inK .i64 (((w_.length:Int) - (v_.length:Int))+1)) <|
   chk (mkOk (((w_.length:Int) - (v_.length:Int))+1) (((w_.length:Int) - (v_.length:Int))+1) 4) <|
   chk (inK .i64 (((List.replicate ((((w_.length:Int) - (v_.length:Int))+1)).toNat (0:Int)).length:Int) - 1)) <|
   (ZqF big (v_.length:Int) shift ((q_4.drop 0).take (((v_.length:Int)).toNat - 0)) (((List.replicate ((((w_.length:Int) - (v_.length:Int))+1)).toNat (0:Int)).length:Int) - 1) u (List.replicate ((((w_.length:Int) - (v_.length:Int))+1)).toNat (0:Int))).bind fun(x0,x1,x2,x3)=>Zta x0 x1 x2 x3
  )
 )
def Zsr (w_:(List Int)):Option (List Int):=
 some w_
def ZpE (rec_:(List Int)→(List Int)→Option (List Int)) (w_:(List Int)) (v_:(List Int)):Option (List Int):=
 bif (decide ((v_.length:Int) > 0))then (
  (ZpQ w_ v_).bind fun(q,r_)=>
  rec_ v_ r_
 )else (
  some w_
 )
def ZoX:Nat→(List Int)→(List Int)→Option (List Int)
 |0,_,_=>none
 |n_+1,w_,v_=>ZpE (ZoX n_) w_ v_
def ZpZ (w_:(List Int)) (v_:(List Int)):Option (List Int):=
 (ZoX big w_ v_).bind fun x0=>Zsr x0
def Zp7 (num:ZnI) (den:ZnI):Option ZnG:=
 (ZpZ num.Words den.Words).bind fun g=>
 (ZpQ num.Words g).bind fun(x_,q)=>
 (ZpQ den.Words g).bind fun(y,q_1)=>
 (Zoy (!(num.Neg == den.Neg)) x_).bind fun q_2=>
 (Zoy false y).bind fun q_3=>
 some (ZnG.mk q_2 q_3)
def Zt4 (num:ZnI) (den:ZnI):Option (ZnG×Int):=
 (Ztb ([num,den]:(List ZnI))).bind fun q=>
 bif (!q)then (
  some ((ZnG.mk (ZnI.mk false ([]:(List Int))) (ZnI.mk false ([]:(List Int)))),1)
 )else (
  bif ((den.Words.length:Int) == 0)then (
   some ((ZnG.mk (ZnI.mk false ([]:(List Int))) (ZnI.mk false ([]:(List Int)))),8)
  )else (
   (Zp7 num den).bind fun q_1=>
   some (q_1,0)
  )
 )
def Zu0 (num:Int) (den:Int):Option (ZnG×Int):=
 (ZrE num).bind fun q=>
 (ZrE den).bind fun q_1=>
 (Zt4 q q_1).bind fun(q_2,q_3)=>
 some (q_2,q_3)
def ZvW:Option ZnG:=
 (Zu0 0 1).bind fun(f,q)=>
 some f
def ZvL:Option (List (Int×Zpb)):=
 some (setB (k:=(.int .i64)) (v:=(.st 6)) (car:=Zu9) (setB (k:=(.int .i64)) (v:=(.st 6)) (car:=Zu9) (setB (k:=(.int .i64)) (v:=(.st 6)) (car:=Zu9) (setB (k:=(.int .i64)) (v:=(.st 6)) (car:=Zu9) (setB (k:=(.int .i64)) (v:=(.st 6)) (car:=Zu9) ([]:(List (Int×Zpb))) 1 (Zpb.mk ([116,101,120,116]:Str) (none:Option Nat) (some 135:Option Nat))) 2 (Zpb.mk ([98,111,111,108]:Str) (some 136:Option Nat) (some 137:Option Nat))) 3 (Zpb.mk ([105,110,116,101,103,101,114]:Str) (some 138:Option Nat) (some 139:Option Nat))) 4 (Zpb.mk ([100,101,99,105,109,97,108]:Str) (some 140:Option Nat) (some 139:Option Nat))) 5 (Zpb.mk ([100,97,116,101]:Str) (some 141:Option Nat) (some 142:Option Nat)))
def Zwp (s cs:Str):Option Str:=
 chk (cs.all fun b=>decide (b.toNat < 128)) <| chk (decide (cs.length < 4294967281)) <| some (Lib.trimS s cs)
def Zxe (s:Str):Option Str:=
 (Zwp s ([32]:Str)).bind fun q=>
 some q
def ZqB (t4:Bool):Option Bool:=
 some t4
def ZpI (s:Str) (prefix_:Str):Option Bool:=
 bif (decide ((s.length:Int)≥(prefix_.length:Int)))then (
  chk (Zb9 0 (prefix_.length:Int) (s.length:Int)) <|
  ZqB ((s.take ((prefix_.length:Int)).toNat) == prefix_)
 )else (
  ZqB false
 )
def Zq5 (s:Str) (prefix_:Str):Option (Str×Bool):=
 (ZpI s prefix_).bind fun q=>
 bif (!q)then (
  some (s,false)
 )else (
  chk (Zb9 (prefix_.length:Int) (s.length:Int) (s.length:Int)) <|
  some ((s.drop ((prefix_.length:Int)).toNat),true)
 )
def ZuJ (s:Str) (prefix_:Str):Option (Str×Bool):=
 (Zq5 s prefix_).bind fun(after,found)=>
 some (after,found)
def ZqR (s:Str) (prefix_:Str):Option Str:=
 (ZpI s prefix_).bind fun q=>
 bif q then (
  chk (Zb9 (prefix_.length:Int) (s.length:Int) (s.length:Int)) <|
  some (s.drop ((prefix_.length:Int)).toNat)
 )else (
  some s
 )
def Zus (s:Str) (prefix_:Str):Option Str:=
 (ZqR s prefix_).bind fun q=>
 some q
def Zq4 (s:Str) (c:Int):Option Int:=
 some (Lib.indexByte s c.toNat.toUInt8)
def Zrk (s:Str) (substr:Str) (n:Int) (t16:Bool):Option Int:=
 bif t16 then (
  some (0:Int)
 )else (
  bif (n == 1)then (
   (idx substr 0).bind fun c=>
   (Zq4 s ((c.toNat:Nat):Int)).bind fun q=>
   some q
  )else (
   bif (decide (n≥(s.length:Int)))then (
    some (-1:Int)
   )else (
    none
   )
  )
 )
def ZrS (s:Str) (substr:Str):Option Int:=
 bif ((substr.length:Int) == 0)then (
  Zrk s substr (substr.length:Int) true
 )else (
  Zrk s substr (substr.length:Int) (substr == s)
 )
def Zsn (s:Str) (sep:Str):Option (Str×Str×Bool):=
 (ZrS s sep).bind fun i=>
 bif (decide (i≥0))then (
  chk (Zb9 0 i (s.length:Int)) <|
  chk (inK .i64 (i+(sep.length:Int))) <|
  chk (Zb9 (i+(sep.length:Int)) (s.length:Int) (s.length:Int)) <|
  some ((s.take (i).toNat),(s.drop ((i+(sep.length:Int))).toNat),true)
 )else (
  some (s,([]:Str),false)
 )
def ZvQ (s:Str) (sep:Str):Option (Str×Str×Bool):=
 (Zsn s sep).bind fun(before,after,found)=>
 some (before,after,found)
def ZsZ (t4:Bool):Option Bool:=
 some t4
def Zum (s:Str) (most:Int):Option Bool:=
 bif (decide ((s.length:Int)≥1))then (
  bif (decide ((s.length:Int)≤most))then (
   (Zwp s ([48,49,50,51,52,53,54,55,56,57]:Str)).bind fun q=>
   ZsZ (q == ([]:Str))
  )else (
   ZsZ false
  )
 )else (
  ZsZ false
 )
def ZsO (out:(List Int)):Option (List Int):=
 (Zoo out).bind fun q=>
 some q
def ZsP (rec_:(List Int)→(List Int)→Int→Int→(List Int)→Option (List Int)) (v_:(List Int)) (i:Int) (carry:Int) (t17:(List Int)) (t18:Int) (i_1:Int) (out:(List Int)):Option (List Int):=
 chk (inK .i64 (i+(v_.length:Int))) <|
 chk (inR (i+(v_.length:Int)) (out.length:Int)) <|
 chk (inK .i64 (i_1+1)) <|
 rec_ v_ t17 t18 (i_1+1) (out.set (((i+(v_.length:Int))).toNat) (IntKind.wrap .u32 carry))
def ZqS (rec_:(List Int)→Int→Int→Int→(List Int)→Int→Int→(List Int)→Int→Int→(List Int)→Option ((List Int)×Int×Int×(List Int)×Int×Int×(List Int))) (v_:(List Int)) (i:Int) (x_:Int) (carry:Int) (t17:(List Int)) (t18:Int) (i_1:Int) (t24:(List Int)) (t25:Int) (j:Int) (out:(List Int)):Option ((List Int)×Int×Int×(List Int)×Int×Int×(List Int)):=
 bif (decide (j < t25))then (
  (idx t24 j).bind fun y=>
  chk (inK .i64 (i+j)) <|
  chk (inR (i+j) (out.length:Int)) <|
  (out[((i+j)).toNat]?).bind fun out_e=>
  chk (inK .i64 (i+j)) <|
  chk (inR (i+j) (out.length:Int)) <|
  chk (decide (0≤(32:Int))) <|
  chk (inK .i64 (j+1)) <|
  rec_ v_ i x_ (shrK .u64 (IntKind.wrap .u64 (carry+(IntKind.wrap .u64 ((IntKind.wrap .u64 ((IntKind.wrap .u64 x_)*(IntKind.wrap .u64 y)))+(IntKind.wrap .u64 out_e))))) 32) t17 t18 i_1 t24 t25 (j+1) (out.set (((i+j)).toNat) (IntKind.wrap .u32 (IntKind.wrap .u64 (carry+(IntKind.wrap .u64 ((IntKind.wrap .u64 ((IntKind.wrap .u64 x_)*(IntKind.wrap .u64 y)))+(IntKind.wrap .u64 out_e)))))))
 )else (
  some (v_,i,carry,t17,t18,i_1,out)
 )
def Zru:Nat→(List Int)→Int→Int→Int→(List Int)→Int→Int→(List Int)→Int→Int→(List Int)→Option ((List Int)×Int×Int×(List Int)×Int×Int×(List Int))
 |0,_,_,_,_,_,_,_,_,_,_,_=>none
 |n_+1,v_,i,x_,carry,t17,t18,i_1,t24,t25,j,out=>ZqS (Zru n_) v_ i x_ carry t17 t18 i_1 t24 t25 j out
def ZtV (n:Nat) (s:((List Int)×Int×Int×Int×(List Int)×Int×Int×(List Int)×Int×Int×(List Int))):Option ((List Int)×Int×Int×(List Int)×Int×Int×(List Int)):=Zru n s.1 s.2.1 s.2.2.1 s.2.2.2.1 s.2.2.2.2.1 s.2.2.2.2.2.1 s.2.2.2.2.2.2.1 s.2.2.2.2.2.2.2.1 s.2.2.2.2.2.2.2.2.1 s.2.2.2.2.2.2.2.2.2.1 s.2.2.2.2.2.2.2.2.2.2
def Zr7 (rec_:((List Int)×Int×Int×Int×(List Int)×Int×Int×(List Int)×Int×Int×(List Int))→Option ((List Int)×Int×Int×(List Int)×Int×Int×(List Int))) (s:((List Int)×Int×Int×Int×(List Int)×Int×Int×(List Int)×Int×Int×(List Int))):Option ((List Int)×Int×Int×(List Int)×Int×Int×(List Int)):=ZqS (fun v_ i x_ carry t17 t18 i_1 t24 t25 j out=>rec_ (v_,i,x_,carry,t17,t18,i_1,t24,t25,j,out)) s.1 s.2.1 s.2.2.1 s.2.2.2.1 s.2.2.2.2.1 s.2.2.2.2.2.1 s.2.2.2.2.2.2.1 s.2.2.2.2.2.2.2.1 s.2.2.2.2.2.2.2.2.1 s.2.2.2.2.2.2.2.2.2.1 s.2.2.2.2.2.2.2.2.2.2
theorem ZvR:∀n s,ZtV (n+1) s=Zr7 (ZtV n) s:=fun _ _=>rfl
def ZqT (rec_:(List Int)→(List Int)→Int→Int→(List Int)→Option (List Int)) (v_:(List Int)) (t17:(List Int)) (t18:Int) (i:Int) (out:(List Int)):Option (List Int):=
 bif (decide (i < t18))then (
  (idx t17 i).bind fun x_=>
  (Zru big v_ i x_ (0:Int) t17 t18 i v_ (v_.length:Int) (0:Int) out).bind fun(x0,x1,x2,x3,x4,x5,x6)=>ZsP rec_ x0 x1 x2 x3 x4 x5 x6
 )else (
  some out
 )
def Zqi:Nat→(List Int)→(List Int)→Int→Int→(List Int)→Option (List Int)
 |0,_,_,_,_,_=>none
 |n_+1,v_,t17,t18,i,out=>ZqT (Zqi n_) v_ t17 t18 i out
def ZtW (n:Nat) (s:((List Int)×(List Int)×Int×Int×(List Int))):Option (List Int):=Zqi n s.1 s.2.1 s.2.2.1 s.2.2.2.1 s.2.2.2.2
def Zr8 (rec_:((List Int)×(List Int)×Int×Int×(List Int))→Option (List Int)) (s:((List Int)×(List Int)×Int×Int×(List Int))):Option (List Int):=ZqT (fun v_ t17 t18 i out=>rec_ (v_,t17,t18,i,out)) s.1 s.2.1 s.2.2.1 s.2.2.2.1 s.2.2.2.2
theorem ZvS:∀n s,ZtW (n+1) s=Zr8 (ZtW n) s:=fun _ _=>rfl
def ZpD (w_:(List Int)) (v_:(List Int)):Option (List Int):=
 chk (inK .i64 ((w_.length:Int)+(v_.length:Int))) <|
 chk (mkOk ((w_.length:Int)+(v_.length:Int)) ((w_.length:Int)+(v_.length:Int)) 4) <|
 (Zqi big v_ w_ (w_.length:Int) (0:Int) (List.replicate (((w_.length:Int)+(v_.length:Int))).toNat (0:Int))).bind fun x0=>ZsO x0
def Zs8 (carry:Int) (out:(List Int)):Option (List Int):=
 chk (ZiZ (out.length+([carry]:(List Int)).length) 4) <|
 (Zoo (out++([carry]:(List Int)))).bind fun q=>
 some q
def Zq8 (rec_:(List Int)→(List Int)→Int→Int→Int→(List Int)→Option (Int×(List Int))) (w_:(List Int)) (v_:(List Int)) (carry:Int) (t20:Int) (i:Int) (out:(List Int)):Option (Int×(List Int)):=
 bif (decide (i < t20))then (
  (ZqC w_ i).bind fun q=>
  (ZqC v_ i).bind fun q_1=>
  (ZrX q q_1 carry).bind fun(d,carry_1)=>
  chk (ZiZ (out.length+([d]:(List Int)).length) 4) <|
  chk (inK .i64 (i+1)) <|
  rec_ w_ v_ carry_1 t20 (i+1) (out++([d]:(List Int)))
 )else (
  some (carry,out)
 )
def ZrD:Nat→(List Int)→(List Int)→Int→Int→Int→(List Int)→Option (Int×(List Int))
 |0,_,_,_,_,_,_=>none
 |n_+1,w_,v_,carry,t20,i,out=>Zq8 (ZrD n_) w_ v_ carry t20 i out
def Zup (n:Nat) (s:((List Int)×(List Int)×Int×Int×Int×(List Int))):Option (Int×(List Int)):=ZrD n s.1 s.2.1 s.2.2.1 s.2.2.2.1 s.2.2.2.2.1 s.2.2.2.2.2
def Zso (rec_:((List Int)×(List Int)×Int×Int×Int×(List Int))→Option (Int×(List Int))) (s:((List Int)×(List Int)×Int×Int×Int×(List Int))):Option (Int×(List Int)):=Zq8 (fun w_ v_ carry t20 i out=>rec_ (w_,v_,carry,t20,i,out)) s.1 s.2.1 s.2.2.1 s.2.2.2.1 s.2.2.2.2.1 s.2.2.2.2.2
theorem Zv3:∀n s,Zup (n+1) s=Zso (Zup n) s:=fun _ _=>rfl
def ZqD (w_:(List Int)) (v_:(List Int)):Option (List Int):=
 chk (inK .i64 ((if (v_.length:Int) > (w_.length:Int)then (v_.length:Int)else (w_.length:Int))+1)) <|
 chk (mkOk 0 ((if (v_.length:Int) > (w_.length:Int)then (v_.length:Int)else (w_.length:Int))+1) 4) <|
 (ZrD big w_ v_ (0:Int) (if (v_.length:Int) > (w_.length:Int)then (v_.length:Int)else (w_.length:Int)) (0:Int) (List.replicate ((0:Int)).toNat (0:Int))).bind fun(x0,x1)=>Zs8 x0 x1
def Zsx (neg:Bool) (num:(List Int)) (den:(List Int)) (t2:Bool) (t2_1:Bool) (t2_2:(List Int)) (t2_3:(List Int)):Option (ZnG×Bool):=
 (Zoy neg num).bind fun q=>
 (Zoy false den).bind fun q_1=>
 (Zp7 q q_1).bind fun q_2=>
 some (q_2,true)
def Zwx (rec_:Bool→(List Int)→(List Int)→(List Int)→Int→Int→Bool→Bool→(List Int)→(List Int)→Option (Bool×(List Int)×(List Int)×Bool×Bool×(List Int)×(List Int))) (neg:Bool) (num:(List Int)) (ten:(List Int)) (den:(List Int)) (t63:Int) (t64:Int) (t2:Bool) (t2_1:Bool) (t2_2:(List Int)) (t2_3:(List Int)):Option (Bool×(List Int)×(List Int)×Bool×Bool×(List Int)×(List Int)):=
 bif (decide (t64 < t63))then (
  (ZpD den ten).bind fun den_1=>
  chk (inK .i64 (t64+1)) <|
  rec_ neg num ten den_1 t63 (t64+1) t2 t2_1 t2_2 t2_3
 )else (
  some (neg,num,den,t2,t2_1,t2_2,t2_3)
 )
def Zt5:Nat→Bool→(List Int)→(List Int)→(List Int)→Int→Int→Bool→Bool→(List Int)→(List Int)→Option (Bool×(List Int)×(List Int)×Bool×Bool×(List Int)×(List Int))
 |0,_,_,_,_,_,_,_,_,_,_=>none
 |n_+1,neg,num,ten,den,t63,t64,t2,t2_1,t2_2,t2_3=>Zwx (Zt5 n_) neg num ten den t63 t64 t2 t2_1 t2_2 t2_3
def Zvs (neg:Bool) (back:Str) (num:(List Int)) (ten:(List Int)) (t2:Bool) (t2_1:Bool) (den:(List Int)) (t2_2:(List Int)) (t2_3:(List Int)):Option (ZnG×Bool):=
 (Zt5 big neg num ten den (back.length:Int) (0:Int) t2 t2_1 t2_2 t2_3).bind fun(x0,x1,x2,x3,x4,x5,x6)=>Zsx x0 x1 x2 x3 x4 x5 x6
def Zwy (rec_:Bool→Str→(List Int)→(List Int)→Int→Int→Bool→Bool→(List Int)→(List Int)→(List Int)→(List Int)→Option (Bool×Str×(List Int)×(List Int)×Bool×Bool×(List Int)×(List Int)×(List Int))) (neg:Bool) (back:Str) (num:(List Int)) (ten:(List Int)) (t48:Int) (t49:Int) (t2:Bool) (t2_1:Bool) (den:(List Int)) (t47:(List Int)) (t2_2:(List Int)) (t2_3:(List Int)):Option (Bool×Str×(List Int)×(List Int)×Bool×Bool×(List Int)×(List Int)×(List Int)):=
 bif (decide (t49 < t48))then (
  chk (inR t49 (t47.length:Int)) <|
  (t47[(t49).toNat]?).bind fun d=>
  (ZpD num ten).bind fun q=>
  (Zq0 (IntKind.wrap .u64 (IntKind.wrap .u8 (d - 48)))).bind fun q_1=>
  (ZqD q q_1).bind fun num_1=>
  chk (inK .i64 (t49+1)) <|
  rec_ neg back num_1 ten t48 (t49+1) t2 t2_1 den t47 t2_2 t2_3
 )else (
  some (neg,back,num,ten,t2,t2_1,den,t2_2,t2_3)
 )
def Zt6:Nat→Bool→Str→(List Int)→(List Int)→Int→Int→Bool→Bool→(List Int)→(List Int)→(List Int)→(List Int)→Option (Bool×Str×(List Int)×(List Int)×Bool×Bool×(List Int)×(List Int)×(List Int))
 |0,_,_,_,_,_,_,_,_,_,_,_,_=>none
 |n_+1,neg,back,num,ten,t48,t49,t2,t2_1,den,t47,t2_2,t2_3=>Zwy (Zt6 n_) neg back num ten t48 t49 t2 t2_1 den t47 t2_2 t2_3
def Zsy (neg:Bool) (front:Str) (back:Str) (t39:Bool) (t2:Bool) (t2_1:Bool) (t2_2:(List Int)) (t2_3:(List Int)):Option (ZnG×Bool):=
 bif t39 then (
  some ((ZnG.mk (ZnI.mk false ([]:(List Int))) (ZnI.mk false ([]:(List Int)))),false)
 )else (
  (ZoN ([1]:List Int)).bind fun den=>
  chk (decide (front.length+back.length≤Zq)) <|
  chk (decide ((front++back).length≤281474976710656)) <|
  (Zt6 big neg back ([]:(List Int)) ([10]:(List Int)) (((front++back).map fun b=>((b.toNat:Nat):Int)).length:Int) (0:Int) t2 t2_1 den ((front++back).map fun b=>((b.toNat:Nat):Int)) t2_2 t2_3).bind fun(x0,x1,x2,x3,x4,x5,x6,x7,x8)=>Zvs x0 x1 x2 x3 x4 x5 x6 x7 x8
 )
def Zt7 (body:Str) (neg:Bool) (t2:Bool) (t2_1:Bool) (t2_2:(List Int)) (t2_3:(List Int)):Option (ZnG×Bool):=
 (ZvQ body ([46]:Str)).bind fun(front,back,point)=>
 (Zum front 15).bind fun q=>
 bif (!q)then (
  Zsy neg front back true t2 t2_1 t2_2 t2_3
 )else (
  bif point then (
   (Zum back 9).bind fun q_1=>
   Zsy neg front back (!q_1) t2 t2_1 t2_2 t2_3
  )else (
   Zsy neg front back false t2 t2_1 t2_2 t2_3
  )
 )
def ZrF (text:Str):Option (ZnG×Bool):=
 (ZuJ text ([45]:Str)).bind fun(body,neg)=>
 bif (!neg)then (
  (Zus text ([43]:Str)).bind fun body_1=>
  Zt7 body_1 neg false false ([]:(List Int)) ([]:(List Int))
 )else (
  Zt7 body neg false false ([]:(List Int)) ([]:(List Int))
 )
def ZuS (s cs:Str):Option Str:=
 chk (cs.all fun b=>decide (b.toNat < 128)) <| chk (decide (cs.length < 4294967281)) <| some (Lib.trimLeftS s cs)
def ZvZ (s cs:Str):Option Str:=
 chk (cs.all fun b=>decide (b.toNat < 128)) <| chk (decide (cs.length < 4294967281)) <| some (Lib.trimRightS s cs)
def Zwk (zero:Str):Option Str:=
 some zero
def Zw3 (rec_:Str→(List Str)→Int→Int→Option (Out Str Str)) (zero:Str) (t6:(List Str)) (t7:Int) (t8:Int):Option (Out Str Str):=
 bif (decide (t8 < t7))then (
  (idx t6 t8).bind fun val=>
  bif (!(val == zero))then (
   some (.ret val)
  )else (
   chk (inK .i64 (t8+1)) <|
   rec_ zero t6 t7 (t8+1)
  )
 )else (
  some (.brk zero)
 )
def Zu1:Nat→Str→(List Str)→Int→Int→Option (Out Str Str)
 |0,_,_,_,_=>none
 |n_+1,zero,t6,t7,t8=>Zw3 (Zu1 n_) zero t6 t7 t8
def Zv6 (vals:(List Str)):Option Str:=
 (Zu1 big ([]:Str) vals (vals.length:Int) (0:Int)).bind fun
  | .ret q_=>some q_
  | .brk x0=>Zwk x0
def ZuP (out:Str):Option (Str×Bool):=
 some (out,true)
def ZuQ (out:Str) (t43:Bool):Option (Str×Bool):=
 bif t43 then (
  chk (decide (([45]:Str).length+out.length≤Zq)) <|
  ZuP (([45]:Str)++out)
 )else (
  ZuP out
 )
def ZuR (t:Str) (out:Str):Option (Str×Bool):=
 (idx t 0).bind fun c=>
 bif (((c.toNat:Nat):Int) == 45)then (
  ZuQ out (!(out == ([48]:Str)))
 )else (
  ZuQ out false
 )
def ZtR (t:Str):Option (Str×Bool):=
 (ZrF t).bind fun(q,ok)=>
 bif (!ok)then (
  some (([]:Str),false)
 )else (
  (ZuS t ([43,45]:Str)).bind fun q_1=>
  (ZvQ q_1 ([46]:Str)).bind fun(front,back,q_2)=>
  (ZuS front ([48]:Str)).bind fun front_1=>
  (ZvZ back ([48]:Str)).bind fun back_1=>
  (Zv6 ([front_1,([48]:Str)]:(List Str))).bind fun out=>
  bif (!(back_1 == ([]:Str)))then (
   chk (decide (([46]:Str).length+back_1.length≤Zq)) <|
   chk (decide (out.length+(([46]:Str)++back_1).length≤Zq)) <|
   ZuR t (out++(([46]:Str)++back_1))
  )else (
   ZuR t out
  )
 )
def Zs3 (n:Int) (s:Str):Option (Str×Bool):=
 (ZvL).bind fun q=>
 bif (!(Zg3 (k:=(.int .i64)) (v:=(.st 6)) (car:=Zu9) q n).isSome)then (
  some (([]:Str),false)
 )else (
  bif (Option.isNone (((Zg3 (k:=(.int .i64)) (v:=(.st 6)) (car:=Zu9) q n).getD (Zpb.mk ([]:Str) (none:Option Nat) (none:Option Nat))).canonical))then (
   some (s,true)
  )else (
   (Zxe s).bind fun q_1=>
   chk (decide (((Zg3 (k:=(.int .i64)) (v:=(.st 6)) (car:=Zu9) q n).getD (Zpb.mk ([]:Str) (none:Option Nat) (none:Option Nat))).canonical=some 140)) <|
   (ZtR q_1).bind fun(q_2,q_3)=>
   some (q_2,q_3)
  )
 )
def ZvM (n:Int) (s:Str):Option (ZnG×Bool):=
 (Zs3 n s).bind fun(t,ok)=>
 bif (!ok)then (
  some ((ZnG.mk (ZnI.mk false ([]:(List Int))) (ZnI.mk false ([]:(List Int)))),false)
 )else (
  (ZvL).bind fun q=>
  chk (decide (((Zg3 (k:=(.int .i64)) (v:=(.st 6)) (car:=Zu9) q n).getD (Zpb.mk ([]:Str) (none:Option Nat) (none:Option Nat))).value=some 139)) <|
  (ZrF t).bind fun(q_1,q_2)=>
  some (q_1,q_2)
 )
def Zp6 (c:ZnE):Option (ZnG×Bool):=
 bif c.Null then (
  (ZvW).bind fun q=>
  some (q,false)
 )else (
  (ZvM 4 c.Text).bind fun(q_1,q_2)=>
  some (q_1,q_2)
 )
def ZvB (h_:Int):Option Int:=
 some h_
def ZtI (rec_:Str→Int→Int→Int→Option Int) (s:Str) (h_:Int) (t6:Int) (i:Int):Option Int:=
 bif (decide (i < t6))then (
  (idx s i).bind fun c=>
  chk (inK .i64 (i+1)) <|
  rec_ s (IntKind.wrap .u64 ((xorK .u64 h_ (IntKind.wrap .u64 ((c.toNat:Nat):Int)))*1099511628211)) t6 (i+1)
 )else (
  some h_
 )
def ZuH:Nat→Str→Int→Int→Int→Option Int
 |0,_,_,_,_=>none
 |n_+1,s,h_,t6,i=>ZtI (ZuH n_) s h_ t6 i
def Zwi (n:Nat) (s:(Str×Int×Int×Int)):Option Int:=ZuH n s.1 s.2.1 s.2.2.1 s.2.2.2
def ZuV (rec_:(Str×Int×Int×Int)→Option Int) (s:(Str×Int×Int×Int)):Option Int:=ZtI (fun s h_ t6 i=>rec_ (s,h_,t6,i)) s.1 s.2.1 s.2.2.1 s.2.2.2
theorem Zxg:∀n s,Zwi (n+1) s=ZuV (Zwi n) s:=fun _ _=>rfl
def Ztk (s:Str):Option Int:=
 (ZuH big s (14695981039346656037:Int) (s.length:Int) (0:Int)).bind fun x0=>ZvB x0
def Zrm (t2:Bool):Option Bool:=
 some t2
def ZrN (f:ZnG):Option Bool:=
 (Ztb ([f.Num,f.Den]:(List ZnI))).bind fun q=>
 bif q then (
  bif (decide ((f.Den.Words.length:Int) > 0))then (
   bif (!f.Den.Neg)then (
    (ZpZ f.Num.Words f.Den.Words).bind fun q_1=>
    (ZoQ q_1 ([1]:List Int)).bind fun q_2=>
    Zrm (q_2 == 0)
   )else (
    Zrm false
   )
  )else (
   Zrm false
  )
 )else (
  Zrm false
 )
def Zpg (a:ZnI) (b:ZnI):Option ZnI:=
 (ZpD a.Words b.Words).bind fun q=>
 (Zoy (!(a.Neg == b.Neg)) q).bind fun q_1=>
 some q_1
def ZsR (out:(List Int)):Option (List Int):=
 (Zoo out).bind fun q=>
 some q
def ZqW (rec_:(List Int)→(List Int)→Int→Int→Int→(List Int)→Option (List Int)) (w_:(List Int)) (v_:(List Int)) (borrow:Int) (t12:Int) (i:Int) (out:(List Int)):Option (List Int):=
 bif (decide (i < t12))then (
  (idx w_ i).bind fun w__e=>
  (ZqC v_ i).bind fun q=>
  (Zrj w__e q borrow).bind fun(q_1,borrow_1)=>
  chk (inR i (out.length:Int)) <|
  chk (inK .i64 (i+1)) <|
  rec_ w_ v_ borrow_1 t12 (i+1) (out.set ((i).toNat) q_1)
 )else (
  some out
 )
def Zrw:Nat→(List Int)→(List Int)→Int→Int→Int→(List Int)→Option (List Int)
 |0,_,_,_,_,_,_=>none
 |n_+1,w_,v_,borrow,t12,i,out=>ZqW (Zrw n_) w_ v_ borrow t12 i out
def ZtY (n:Nat) (s:((List Int)×(List Int)×Int×Int×Int×(List Int))):Option (List Int):=Zrw n s.1 s.2.1 s.2.2.1 s.2.2.2.1 s.2.2.2.2.1 s.2.2.2.2.2
def Zsb (rec_:((List Int)×(List Int)×Int×Int×Int×(List Int))→Option (List Int)) (s:((List Int)×(List Int)×Int×Int×Int×(List Int))):Option (List Int):=ZqW (fun w_ v_ borrow t12 i out=>rec_ (w_,v_,borrow,t12,i,out)) s.1 s.2.1 s.2.2.1 s.2.2.2.1 s.2.2.2.2.1 s.2.2.2.2.2
theorem ZvU:∀n s,ZtY (n+1) s=Zsb (ZtY n) s:=fun _ _=>rfl
def Zqc (w_:(List Int)) (v_:(List Int)):Option (List Int):=
 chk (mkOk (w_.length:Int) (w_.length:Int) 4) <|
 (Zrw big w_ v_ (0:Int) (w_.length:Int) (0:Int) (List.replicate ((w_.length:Int)).toNat (0:Int))).bind fun x0=>ZsR x0
def ZtB (a:ZnI) (b:ZnI):Option ZnI:=
 bif (a.Neg == b.Neg)then (
  (ZqD a.Words b.Words).bind fun q=>
  (Zoy a.Neg q).bind fun q_1=>
  some q_1
 )else (
  (ZoQ a.Words b.Words).bind fun q_2=>
  bif (decide (q_2≥0))then (
   (Zqc a.Words b.Words).bind fun q_3=>
   (Zoy a.Neg q_3).bind fun q_4=>
   some q_4
  )else (
   (Zqc b.Words a.Words).bind fun q_5=>
   (Zoy b.Neg q_5).bind fun q_6=>
   some q_6
  )
 )
def ZuZ (a:ZnG) (b:ZnG):Option (ZnI×ZnI):=
 (Zpg a.Num b.Den).bind fun q=>
 (Zpg b.Num a.Den).bind fun q_1=>
 (ZtB q q_1).bind fun num=>
 (Zpg a.Den b.Den).bind fun den=>
 some (num,den)
def Zp8 (t18:Bool) (a:ZnG) (b:ZnG) (t6:Bool) (t6_1:Bool) (t6_2:(List Int)) (t6_3:(List Int)):Option (ZnG×Int):=
 bif t18 then (
  some ((ZnG.mk (ZnI.mk false ([]:(List Int))) (ZnI.mk false ([]:(List Int)))),1)
 )else (
  (ZuZ a b).bind fun(num,den)=>
  bif ((den.Words.length:Int) == 0)then (
   some ((ZnG.mk (ZnI.mk false ([]:(List Int))) (ZnI.mk false ([]:(List Int)))),8)
  )else (
   (Zp7 num den).bind fun f=>
   bif (decide ((if (f.Den.Words.length:Int) > (f.Num.Words.length:Int)then (f.Den.Words.length:Int)else (f.Num.Words.length:Int)) > 256))then (
    some ((ZnG.mk (ZnI.mk false ([]:(List Int))) (ZnI.mk false ([]:(List Int)))),3)
   )else (
    some (f,0)
   )
  )
 )
def ZqZ (a:ZnG) (b:ZnG):Option (ZnG×Int):=
 (ZrN a).bind fun q=>
 bif (!q)then (
  Zp8 true a b false false ([]:(List Int)) ([]:(List Int))
 )else (
  (ZrN b).bind fun q_1=>
  Zp8 (!q_1) a b false false ([]:(List Int)) ([]:(List Int))
 )
def ZuD (a:ZnG) (b:ZnG):Option (ZnG×Int):=
 (ZqZ a b).bind fun(q,q_1)=>
 some (q,q_1)
def Zww (f:ZnG) (a1:Int):Option ZnG:=
 some f
def Zwr (a:ZnG) (b:ZnG):Option ZnG:=
 (ZuD a b).bind fun(q,q_1)=>
 (Zww q q_1).bind fun q_2=>
 some q_2
def Zut (x_:Int) (n:Int):Option Int:=
 (idx ([0,1,2,2,3,3,3,3,4,4,4,4,4,4,4,4,5,5,5,5,5,5,5,5,5,5,5,5,5,5,5,5,6,6,6,6,6,6,6,6,6,6,6,6,6,6,6,6,6,6,6,6,6,6,6,6,6,6,6,6,6,6,6,6,7,7,7,7,7,7,7,7,7,7,7,7,7,7,7,7,7,7,7,7,7,7,7,7,7,7,7,7,7,7,7,7,7,7,7,7,7,7,7,7,7,7,7,7,7,7,7,7,7,7,7,7,7,7,7,7,7,7,7,7,7,7,7,7,8,8,8,8,8,8,8,8,8,8,8,8,8,8,8,8,8,8,8,8,8,8,8,8,8,8,8,8,8,8,8,8,8,8,8,8,8,8,8,8,8,8,8,8,8,8,8,8,8,8,8,8,8,8,8,8,8,8,8,8,8,8,8,8,8,8,8,8,8,8,8,8,8,8,8,8,8,8,8,8,8,8,8,8,8,8,8,8,8,8,8,8,8,8,8,8,8,8,8,8,8,8,8,8,8,8,8,8,8,8,8,8,8,8,8,8,8,8,8,8,8,8,8,8,8,8,8,8]:Str) (IntKind.wrap .u8 x_)).bind fun c=>
 chk (inK .i64 (n+(IntKind.wrap .i64 ((c.toNat:Nat):Int)))) <|
 some (n+(IntKind.wrap .i64 ((c.toNat:Nat):Int)))
def Zuu (x_:Int) (n:Int):Option Int:=
 bif (decide (x_≥256))then (
  chk (decide (0≤(8:Int))) <|
  chk (inK .i64 (n+8)) <|
  Zut (shrK .u64 x_ 8) (n+8)
 )else (
  Zut x_ n
 )
def Zuv (x_:Int) (n:Int):Option Int:=
 bif (decide (x_≥65536))then (
  chk (decide (0≤(16:Int))) <|
  chk (inK .i64 (n+16)) <|
  Zuu (shrK .u64 x_ 16) (n+16)
 )else (
  Zuu x_ n
 )
def Zvd (x_:Int):Option Int:=
 bif (decide (x_≥4294967296))then (
  chk (decide (0≤(32:Int))) <|
  Zuv (shrK .u64 x_ 32) (32:Int)
 )else (
  Zuv x_ (0:Int)
 )
def ZuW (x_:Int):Option Int:=
 (Zvd x_).bind fun q=>
 some q
def Zsz (x_:Int):Option Bool:=
 some (x_ != x_)
def Zs1 (x_:Int) (y:Int):Option Int:=
 (Zsz x_).bind fun xNaN=>
 (Zsz y).bind fun yNaN=>
 bif xNaN then (
  bif yNaN then (
   some (0:Int)
  )else (
   some (-1:Int)
  )
 )else (
  bif yNaN then (
   some (1:Int)
  )else (
   bif (decide (x_ < y))then (
    some (-1:Int)
   )else (
    bif (decide (x_ > y))then (
     some (1:Int)
    )else (
     some (0:Int)
    )
   )
  )
 )
def ZpJ (a b:Str):Option Int:=
 some (Lib.compareBytes a b)
def Zue (a:Str) (b:Str):Option Int:=
 (ZpJ a b).bind fun q=>
 some q
def Zv7 (zero:Int):Option Int:=
 some zero
def Zro (rec_:Int→(List Int)→Int→Int→Option (Out Int Int)) (zero:Int) (t6:(List Int)) (t7:Int) (t8:Int):Option (Out Int Int):=
 bif (decide (t8 < t7))then (
  (idx t6 t8).bind fun val=>
  bif (val != zero)then (
   some (.ret val)
  )else (
   chk (inK .i64 (t8+1)) <|
   rec_ zero t6 t7 (t8+1)
  )
 )else (
  some (.brk zero)
 )
def Zt9:Nat→Int→(List Int)→Int→Int→Option (Out Int Int)
 |0,_,_,_,_=>none
 |n_+1,zero,t6,t7,t8=>Zro (Zt9 n_) zero t6 t7 t8
def Zvt (vals:(List Int)):Option Int:=
 (Zt9 big (0:Int) vals (vals.length:Int) (0:Int)).bind fun
  | .ret q_=>some q_
  | .brk x0=>Zv7 x0
def Zor (a:ZnA) (b:ZnA):Option Int:=
 (Zs1 a.Hash b.Hash).bind fun q=>
 (Zue a.Key b.Key).bind fun q_1=>
 (Zvt ([q,q_1]:(List Int))).bind fun q_2=>
 some q_2
def Zo1 (data:(List ZnA)):Option (List ZnA):=
 some data
def Zo2 (rec_:Int→Int→Int→(List ZnA)→Option (List ZnA)) (a:Int) (b:Int) (i:Int) (data:(List ZnA)):Option (List ZnA):=
 chk (inK .i64 (i+1)) <|
 rec_ a b (i+1) data
def Zol (rec_:Int→Int→Int→Int→(List ZnA)→Option (Int×Int×Int×(List ZnA))) (a:Int) (b:Int) (i:Int) (j:Int) (t34:Bool) (data:(List ZnA)):Option (Int×Int×Int×(List ZnA)):=
 bif t34 then (
  chk (inK .i64 (j - 1)) <|
  chk (inK .i64 (j - 1)) <|
  chk (inR (j - 1) (data.length:Int)) <|
  (data[((j - 1)).toNat]?).bind fun data_e=>
  chk (inR j (data.length:Int)) <|
  (data[(j).toNat]?).bind fun data_e_1=>
  chk (inR j (data.length:Int)) <|
  chk (inR (j - 1) ((data.set ((j).toNat) data_e).length:Int)) <|
  chk (inK .i64 (j - 1)) <|
  rec_ a b i (j - 1) ((data.set ((j).toNat) data_e).set (((j - 1)).toNat) data_e_1)
 )else (
  some (a,b,i,data)
 )
def ZoR (rec_:Int→Int→Int→Int→(List ZnA)→Option (Int×Int×Int×(List ZnA))) (a:Int) (b:Int) (i:Int) (j:Int) (data:(List ZnA)):Option (Int×Int×Int×(List ZnA)):=
 bif (decide (j > a))then (
  chk (inR j (data.length:Int)) <|
  (data[(j).toNat]?).bind fun data_e=>
  chk (inK .i64 (j - 1)) <|
  chk (inR (j - 1) (data.length:Int)) <|
  (data[((j - 1)).toNat]?).bind fun data_e_1=>
  (Zor data_e data_e_1).bind fun q=>
  Zol rec_ a b i j (decide (q < 0)) data
 )else (
  Zol rec_ a b i j false data
 )
def ZnV:Nat→Int→Int→Int→Int→(List ZnA)→Option (Int×Int×Int×(List ZnA))
 |0,_,_,_,_,_=>none
 |n_+1,a,b,i,j,data=>ZoR (ZnV n_) a b i j data
def ZpR (n:Nat) (s:(Int×Int×Int×Int×(List ZnA))):Option (Int×Int×Int×(List ZnA)):=ZnV n s.1 s.2.1 s.2.2.1 s.2.2.2.1 s.2.2.2.2
def ZpS (rec_:(Int×Int×Int×Int×(List ZnA))→Option (Int×Int×Int×(List ZnA))) (s:(Int×Int×Int×Int×(List ZnA))):Option (Int×Int×Int×(List ZnA)):=ZoR (fun a b i j data=>rec_ (a,b,i,j,data)) s.1 s.2.1 s.2.2.1 s.2.2.2.1 s.2.2.2.2
theorem Zr6:∀n s,ZpR (n+1) s=ZpS (ZpR n) s:=fun _ _=>rfl
def Zn6 (rec_:Int→Int→Int→(List ZnA)→Option (List ZnA)) (a:Int) (b:Int) (i:Int) (data:(List ZnA)):Option (List ZnA):=
 bif (decide (i < b))then (
  (ZnV big a b i i data).bind fun(x0,x1,x2,x3)=>Zo2 rec_ x0 x1 x2 x3
 )else (
  some data
 )
def Zn7:Nat→Int→Int→Int→(List ZnA)→Option (List ZnA)
 |0,_,_,_,_=>none
 |n_+1,a,b,i,data=>Zn6 (Zn7 n_) a b i data
def Zox (data:(List ZnA)) (a:Int) (b:Int):Option (List ZnA):=
 chk (inK .i64 (a+1)) <|
 (Zn7 big a b (a+1) data).bind fun x0=>Zo1 x0
def Zoa (data:(List ZnA)) (a:Int) (b:Int):Option (List ZnA):=
 (Zox data a b).bind fun r=>chk (decide (r.length=data.length)&&true) (some r)
def ZpX (data:(List ZnA)) (a:Int) (b:Int) (swaps:Int):Option (Int×Int×(List ZnA)×Int):=
 chk (inR b (data.length:Int)) <|
 (data[(b).toNat]?).bind fun data_e=>
 chk (inR a (data.length:Int)) <|
 (data[(a).toNat]?).bind fun data_e_1=>
 (Zor data_e data_e_1).bind fun q=>
 bif (decide (q < 0))then (
  chk (inK .i64 (swaps+1)) <|
  some (b,a,data,(swaps+1))
 )else (
  some (a,b,data,swaps)
 )
def Zoc (data:(List ZnA)) (a:Int) (b:Int) (swaps:Int):Option (Int×Int×(List ZnA)×Int):=
 (ZpX data a b swaps).bind fun r=>chk (decide (r.2.2.1.length=data.length)&&true) (some r)
def ZpY (data:(List ZnA)) (a:Int) (b:Int) (c:Int) (swaps:Int):Option (Int×(List ZnA)×Int):=
 (Zoc data a b swaps).bind fun(a_1,b_1,t14,t17)=>
 (Zoc t14 b_1 c t17).bind fun(b_2,c_1,t23,t26)=>
 (Zoc t23 a_1 b_2 t26).bind fun(a_2,b_3,t32,t35)=>
 some (b_3,t32,t35)
def ZoS (data:(List ZnA)) (a:Int) (b:Int) (c:Int) (swaps:Int):Option (Int×(List ZnA)×Int):=
 (ZpY data a b c swaps).bind fun r=>chk (decide (r.2.1.length=data.length)&&true) (some r)
def ZqA (data:(List ZnA)) (a:Int) (swaps:Int):Option (Int×(List ZnA)×Int):=
 chk (inK .i64 (a - 1)) <|
 chk (inK .i64 (a+1)) <|
 (ZoS data (a - 1) a (a+1) swaps).bind fun(q,t9,t15)=>
 some (q,t9,t15)
def Zok (data:(List ZnA)) (a:Int) (swaps:Int):Option (Int×(List ZnA)×Int):=
 (ZqA data a swaps).bind fun r=>chk (decide (r.2.1.length=data.length)&&true) (some r)
def Zov (j:Int) (data:(List ZnA)) (swaps:Int):Option (Int×Int×(List ZnA)):=
 bif (swaps == 0)then (
  some (j,1,data)
 )else (
  bif (swaps == 12)then (
   some (j,2,data)
  )else (
   some (j,0,data)
  )
 )
def Zow (i:Int) (j:Int) (k:Int) (data:(List ZnA)) (swaps:Int):Option (Int×Int×(List ZnA)):=
 (ZoS data i j k swaps).bind fun(j_1,t49,swaps_1)=>
 Zov j_1 t49 swaps_1
def Zpv (data:(List ZnA)) (a:Int) (b:Int):Option (Int×Int×(List ZnA)):=
 chk (inK .i64 (b - a)) <|
 chk (decide ((4:Int)≠0)) <|
 chk (inK .i64 (Int.tdiv (b - a) 4)) <|
 chk (inK .i64 ((Int.tdiv (b - a) 4)*1)) <|
 chk (inK .i64 (a+((Int.tdiv (b - a) 4)*1))) <|
 chk (decide ((4:Int)≠0)) <|
 chk (inK .i64 (Int.tdiv (b - a) 4)) <|
 chk (inK .i64 ((Int.tdiv (b - a) 4)*2)) <|
 chk (inK .i64 (a+((Int.tdiv (b - a) 4)*2))) <|
 chk (decide ((4:Int)≠0)) <|
 chk (inK .i64 (Int.tdiv (b - a) 4)) <|
 chk (inK .i64 ((Int.tdiv (b - a) 4)*3)) <|
 chk (inK .i64 (a+((Int.tdiv (b - a) 4)*3))) <|
 bif (decide ((b - a)≥8))then (
  bif (decide ((b - a)≥50))then (
   (Zok data (a+((Int.tdiv (b - a) 4)*1)) 0).bind fun(i,t37,swaps)=>
   (Zok t37 (a+((Int.tdiv (b - a) 4)*2)) swaps).bind fun(j,t41,swaps_1)=>
   (Zok t41 (a+((Int.tdiv (b - a) 4)*3)) swaps_1).bind fun(k,t45,swaps_2)=>
   Zow i j k t45 swaps_2
  )else (
   Zow (a+((Int.tdiv (b - a) 4)*1)) (a+((Int.tdiv (b - a) 4)*2)) (a+((Int.tdiv (b - a) 4)*3)) data (0:Int)
  )
 )else (
  Zov (a+((Int.tdiv (b - a) 4)*2)) data (0:Int)
 )
def Zoe (data:(List ZnA)) (a:Int) (b:Int):Option (Int×Int×(List ZnA)):=
 (Zpv data a b).bind fun r=>chk (decide (r.2.2.length=data.length)&&true) (some r)
def Zpw (data:(List ZnA)):Option (Bool×(List ZnA)):=
 some (false,data)
def Zpx (rec_:Int→Int→Int→Int→(List ZnA)→Option (Out (List ZnA) (Bool×(List ZnA)))) (a:Int) (b:Int) (i:Int) (j:Int) (data:(List ZnA)):Option (Out (List ZnA) (Bool×(List ZnA))):=
 chk (inK .i64 (j+1)) <|
 rec_ a b i (j+1) data
def ZrA (rec_:Int→Int→Int→Int→Int→(List ZnA)→Option (Int×Int×Int×Int×(List ZnA))) (a:Int) (b:Int) (i:Int) (j:Int) (j_1:Int) (data:(List ZnA)):Option (Int×Int×Int×Int×(List ZnA)):=
 bif (decide (j_1 < b))then (
  chk (inR j_1 (data.length:Int)) <|
  (data[(j_1).toNat]?).bind fun data_e=>
  chk (inK .i64 (j_1 - 1)) <|
  chk (inR (j_1 - 1) (data.length:Int)) <|
  (data[((j_1 - 1)).toNat]?).bind fun data_e_1=>
  (Zor data_e data_e_1).bind fun q=>
  bif (!(decide (q < 0)))then (
   some (a,b,i,j,data)
  )else (
   chk (inK .i64 (j_1 - 1)) <|
   chk (inK .i64 (j_1 - 1)) <|
   chk (inR (j_1 - 1) (data.length:Int)) <|
   (data[((j_1 - 1)).toNat]?).bind fun data_e_2=>
   chk (inR j_1 (data.length:Int)) <|
   (data[(j_1).toNat]?).bind fun data_e_3=>
   chk (inR j_1 (data.length:Int)) <|
   chk (inR (j_1 - 1) ((data.set ((j_1).toNat) data_e_2).length:Int)) <|
   chk (inK .i64 (j_1+1)) <|
   rec_ a b i j (j_1+1) ((data.set ((j_1).toNat) data_e_2).set (((j_1 - 1)).toNat) data_e_3)
  )
 )else (
  some (a,b,i,j,data)
 )
def ZoA:Nat→Int→Int→Int→Int→Int→(List ZnA)→Option (Int×Int×Int×Int×(List ZnA))
 |0,_,_,_,_,_,_=>none
 |n_+1,a,b,i,j,j_1,data=>ZrA (ZoA n_) a b i j j_1 data
def ZoD (rec_:Int→Int→Int→Int→(List ZnA)→Option (Out (List ZnA) (Bool×(List ZnA)))) (a:Int) (b:Int) (i:Int) (j:Int) (t104:Bool) (data:(List ZnA)):Option (Out (List ZnA) (Bool×(List ZnA))):=
 bif t104 then (
  chk (inK .i64 (i+1)) <|
  (ZoA big a b i j (i+1) data).bind fun(x0,x1,x2,x3,x4)=>Zpx rec_ x0 x1 x2 x3 x4
 )else (
  chk (inK .i64 (j+1)) <|
  rec_ a b i (j+1) data
 )
def Zpy (rec_:Int→Int→Int→Int→(List ZnA)→Option (Out (List ZnA) (Bool×(List ZnA)))) (a:Int) (b:Int) (i:Int) (j:Int) (data:(List ZnA)):Option (Out (List ZnA) (Bool×(List ZnA))):=
 chk (inK .i64 (b - i)) <|
 ZoD rec_ a b i j (decide ((b - i)≥2)) data
def ZrB (rec_:Int→Int→Int→Int→Int→(List ZnA)→Option (Int×Int×Int×Int×(List ZnA))) (a:Int) (b:Int) (i:Int) (j:Int) (j_1:Int) (data:(List ZnA)):Option (Int×Int×Int×Int×(List ZnA)):=
 bif (decide (j_1≥1))then (
  chk (inR j_1 (data.length:Int)) <|
  (data[(j_1).toNat]?).bind fun data_e=>
  chk (inK .i64 (j_1 - 1)) <|
  chk (inR (j_1 - 1) (data.length:Int)) <|
  (data[((j_1 - 1)).toNat]?).bind fun data_e_1=>
  (Zor data_e data_e_1).bind fun q=>
  bif (!(decide (q < 0)))then (
   some (a,b,i,j,data)
  )else (
   chk (inK .i64 (j_1 - 1)) <|
   chk (inK .i64 (j_1 - 1)) <|
   chk (inR (j_1 - 1) (data.length:Int)) <|
   (data[((j_1 - 1)).toNat]?).bind fun data_e_2=>
   chk (inR j_1 (data.length:Int)) <|
   (data[(j_1).toNat]?).bind fun data_e_3=>
   chk (inR j_1 (data.length:Int)) <|
   chk (inR (j_1 - 1) ((data.set ((j_1).toNat) data_e_2).length:Int)) <|
   chk (inK .i64 (j_1 - 1)) <|
   rec_ a b i j (j_1 - 1) ((data.set ((j_1).toNat) data_e_2).set (((j_1 - 1)).toNat) data_e_3)
  )
 )else (
  some (a,b,i,j,data)
 )
def ZoB:Nat→Int→Int→Int→Int→Int→(List ZnA)→Option (Int×Int×Int×Int×(List ZnA))
 |0,_,_,_,_,_,_=>none
 |n_+1,a,b,i,j,j_1,data=>ZrB (ZoB n_) a b i j j_1 data
def ZoC (rec_:Int→Int→Int→Int→(List ZnA)→Option (Out (List ZnA) (Bool×(List ZnA)))) (a:Int) (b:Int) (i:Int) (j:Int) (data:(List ZnA)):Option (Out (List ZnA) (Bool×(List ZnA))):=
 bif (i == b)then (
  some (.ret (true,data))
 )else (
  chk (inK .i64 (b - a)) <|
  bif (decide ((b - a) < 50))then (
   some (.ret (false,data))
  )else (
   chk (inK .i64 (i - 1)) <|
   chk (inK .i64 (i - 1)) <|
   chk (inR (i - 1) (data.length:Int)) <|
   (data[((i - 1)).toNat]?).bind fun data_e=>
   chk (inR i (data.length:Int)) <|
   (data[(i).toNat]?).bind fun data_e_1=>
   chk (inR i (data.length:Int)) <|
   chk (inR (i - 1) ((data.set ((i).toNat) data_e).length:Int)) <|
   chk (inK .i64 (i - a)) <|
   bif (decide ((i - a)≥2))then (
    chk (inK .i64 (i - 1)) <|
    (ZoB big a b i j (i - 1) ((data.set ((i).toNat) data_e).set (((i - 1)).toNat) data_e_1)).bind fun(x0,x1,x2,x3,x4)=>Zpy rec_ x0 x1 x2 x3 x4
   )else (
    chk (inK .i64 (b - i)) <|
    ZoD rec_ a b i j (decide ((b - i)≥2)) ((data.set ((i).toNat) data_e).set (((i - 1)).toNat) data_e_1)
   )
  )
 )
def Zob (rec_:Int→Int→Int→Int→(List ZnA)→Option (Int×Int×Int×Int×(List ZnA))) (a:Int) (b:Int) (i:Int) (j:Int) (t36:Bool) (data:(List ZnA)):Option (Int×Int×Int×Int×(List ZnA)):=
 bif t36 then (
  chk (inK .i64 (i+1)) <|
  rec_ a b (i+1) j data
 )else (
  some (a,b,i,j,data)
 )
def Zot (rec_:Int→Int→Int→Int→(List ZnA)→Option (Int×Int×Int×Int×(List ZnA))) (a:Int) (b:Int) (i:Int) (j:Int) (data:(List ZnA)):Option (Int×Int×Int×Int×(List ZnA)):=
 bif (decide (i < b))then (
  chk (inR i (data.length:Int)) <|
  (data[(i).toNat]?).bind fun data_e=>
  chk (inK .i64 (i - 1)) <|
  chk (inR (i - 1) (data.length:Int)) <|
  (data[((i - 1)).toNat]?).bind fun data_e_1=>
  (Zor data_e data_e_1).bind fun q=>
  Zob rec_ a b i j (!(decide (q < 0))) data
 )else (
  Zob rec_ a b i j false data
 )
def ZnW:Nat→Int→Int→Int→Int→(List ZnA)→Option (Int×Int×Int×Int×(List ZnA))
 |0,_,_,_,_,_=>none
 |n_+1,a,b,i,j,data=>Zot (ZnW n_) a b i j data
def Zpo (n:Nat) (s:(Int×Int×Int×Int×(List ZnA))):Option (Int×Int×Int×Int×(List ZnA)):=ZnW n s.1 s.2.1 s.2.2.1 s.2.2.2.1 s.2.2.2.2
def Zpp (rec_:(Int×Int×Int×Int×(List ZnA))→Option (Int×Int×Int×Int×(List ZnA))) (s:(Int×Int×Int×Int×(List ZnA))):Option (Int×Int×Int×Int×(List ZnA)):=Zot (fun a b i j data=>rec_ (a,b,i,j,data)) s.1 s.2.1 s.2.2.1 s.2.2.2.1 s.2.2.2.2
theorem Zrt:∀n s,Zpo (n+1) s=Zpp (Zpo n) s:=fun _ _=>rfl
def Zou (rec_:Int→Int→Int→Int→(List ZnA)→Option (Out (List ZnA) (Bool×(List ZnA)))) (a:Int) (b:Int) (i:Int) (j:Int) (data:(List ZnA)):Option (Out (List ZnA) (Bool×(List ZnA))):=
 bif (decide (j < 5))then (
  (ZnW big a b i j data).bind fun(x0,x1,x2,x3,x4)=>ZoC rec_ x0 x1 x2 x3 x4
 )else (
  some (.brk data)
 )
def ZnM:Nat→Int→Int→Int→Int→(List ZnA)→Option (Out (List ZnA) (Bool×(List ZnA)))
 |0,_,_,_,_,_=>none
 |n_+1,a,b,i,j,data=>Zou (ZnM n_) a b i j data
def Zof (data:(List ZnA)) (a:Int) (b:Int):Option (Bool×(List ZnA)):=
 chk (inK .i64 (a+1)) <|
 (ZnM big a b (a+1) (0:Int) data).bind fun
  | .ret q_=>some q_
  | .brk x0=>Zpw x0
def ZnY (data:(List ZnA)) (a:Int) (b:Int):Option (Bool×(List ZnA)):=
 (Zof data a b).bind fun r=>chk (decide (r.2.length=data.length)&&true) (some r)
def Zpj (a:Int) (j:Int) (data:(List ZnA)):Option (Int×Bool×(List ZnA)):=
 chk (inR a (data.length:Int)) <|
 (data[(a).toNat]?).bind fun data_e=>
 chk (inR j (data.length:Int)) <|
 (data[(j).toNat]?).bind fun data_e_1=>
 chk (inR j (data.length:Int)) <|
 chk (inR a ((data.set ((j).toNat) data_e).length:Int)) <|
 some (j,false,((data.set ((j).toNat) data_e).set ((a).toNat) data_e_1))
def Zpk (rec_:Int→Int→Int→(List ZnA)→Option (Int×Int×(List ZnA))) (a:Int) (i:Int) (j:Int) (data:(List ZnA)):Option (Int×Int×(List ZnA)):=
 bif (decide (i > j))then (
  some (a,j,data)
 )else (
  chk (inR j (data.length:Int)) <|
  (data[(j).toNat]?).bind fun data_e=>
  chk (inR i (data.length:Int)) <|
  (data[(i).toNat]?).bind fun data_e_1=>
  chk (inR i (data.length:Int)) <|
  chk (inR j ((data.set ((i).toNat) data_e).length:Int)) <|
  chk (inK .i64 (i+1)) <|
  chk (inK .i64 (j - 1)) <|
  rec_ a (i+1) (j - 1) ((data.set ((i).toNat) data_e).set ((j).toNat) data_e_1)
 )
def ZoG (rec_:Int→Int→Int→(List ZnA)→Option (Int×Int×Int×(List ZnA))) (a:Int) (i:Int) (j:Int) (t139:Bool) (data:(List ZnA)):Option (Int×Int×Int×(List ZnA)):=
 bif t139 then (
  chk (inK .i64 (j - 1)) <|
  rec_ a i (j - 1) data
 )else (
  some (a,i,j,data)
 )
def Zo4 (rec_:Int→Int→Int→(List ZnA)→Option (Int×Int×Int×(List ZnA))) (a:Int) (i:Int) (j:Int) (data:(List ZnA)):Option (Int×Int×Int×(List ZnA)):=
 bif (decide (i≤j))then (
  chk (inR j (data.length:Int)) <|
  (data[(j).toNat]?).bind fun data_e=>
  chk (inR a (data.length:Int)) <|
  (data[(a).toNat]?).bind fun data_e_1=>
  (Zor data_e data_e_1).bind fun q=>
  ZoG rec_ a i j (!(decide (q < 0))) data
 )else (
  ZoG rec_ a i j false data
 )
def Zn2:Nat→Int→Int→Int→(List ZnA)→Option (Int×Int×Int×(List ZnA))
 |0,_,_,_,_=>none
 |n_+1,a,i,j,data=>Zo4 (Zn2 n_) a i j data
def Zqq (n:Nat) (s:(Int×Int×Int×(List ZnA))):Option (Int×Int×Int×(List ZnA)):=Zn2 n s.1 s.2.1 s.2.2.1 s.2.2.2
def Zqr (rec_:(Int×Int×Int×(List ZnA))→Option (Int×Int×Int×(List ZnA))) (s:(Int×Int×Int×(List ZnA))):Option (Int×Int×Int×(List ZnA)):=Zo4 (fun a i j data=>rec_ (a,i,j,data)) s.1 s.2.1 s.2.2.1 s.2.2.2
theorem ZsJ:∀n s,Zqq (n+1) s=Zqr (Zqq n) s:=fun _ _=>rfl
def Zpl (rec_:Int→Int→Int→(List ZnA)→Option (Int×Int×(List ZnA))) (a:Int) (i:Int) (j:Int) (data:(List ZnA)):Option (Int×Int×(List ZnA)):=
 (Zn2 big a i j data).bind fun(x0,x1,x2,x3)=>Zpk rec_ x0 x1 x2 x3
def ZoH (rec_:Int→Int→Int→(List ZnA)→Option (Int×Int×Int×(List ZnA))) (a:Int) (i:Int) (j:Int) (t120:Bool) (data:(List ZnA)):Option (Int×Int×Int×(List ZnA)):=
 bif t120 then (
  chk (inK .i64 (i+1)) <|
  rec_ a (i+1) j data
 )else (
  some (a,i,j,data)
 )
def Zo5 (rec_:Int→Int→Int→(List ZnA)→Option (Int×Int×Int×(List ZnA))) (a:Int) (i:Int) (j:Int) (data:(List ZnA)):Option (Int×Int×Int×(List ZnA)):=
 bif (decide (i≤j))then (
  chk (inR i (data.length:Int)) <|
  (data[(i).toNat]?).bind fun data_e=>
  chk (inR a (data.length:Int)) <|
  (data[(a).toNat]?).bind fun data_e_1=>
  (Zor data_e data_e_1).bind fun q=>
  ZoH rec_ a i j (decide (q < 0)) data
 )else (
  ZoH rec_ a i j false data
 )
def Zn3:Nat→Int→Int→Int→(List ZnA)→Option (Int×Int×Int×(List ZnA))
 |0,_,_,_,_=>none
 |n_+1,a,i,j,data=>Zo5 (Zn3 n_) a i j data
def Zqs (n:Nat) (s:(Int×Int×Int×(List ZnA))):Option (Int×Int×Int×(List ZnA)):=Zn3 n s.1 s.2.1 s.2.2.1 s.2.2.2
def Zqt (rec_:(Int×Int×Int×(List ZnA))→Option (Int×Int×Int×(List ZnA))) (s:(Int×Int×Int×(List ZnA))):Option (Int×Int×Int×(List ZnA)):=Zo5 (fun a i j data=>rec_ (a,i,j,data)) s.1 s.2.1 s.2.2.1 s.2.2.2
theorem ZsK:∀n s,Zqs (n+1) s=Zqt (Zqs n) s:=fun _ _=>rfl
def Zo6 (rec_:Int→Int→Int→(List ZnA)→Option (Int×Int×(List ZnA))) (a:Int) (i:Int) (j:Int) (data:(List ZnA)):Option (Int×Int×(List ZnA)):=
 (Zn3 big a i j data).bind fun(x0,x1,x2,x3)=>Zpl rec_ x0 x1 x2 x3
def ZnU:Nat→Int→Int→Int→(List ZnA)→Option (Int×Int×(List ZnA))
 |0,_,_,_,_=>none
 |n_+1,a,i,j,data=>Zo6 (ZnU n_) a i j data
def Zqu (n:Nat) (s:(Int×Int×Int×(List ZnA))):Option (Int×Int×(List ZnA)):=ZnU n s.1 s.2.1 s.2.2.1 s.2.2.2
def Zqv (rec_:(Int×Int×Int×(List ZnA))→Option (Int×Int×(List ZnA))) (s:(Int×Int×Int×(List ZnA))):Option (Int×Int×(List ZnA)):=Zo6 (fun a i j data=>rec_ (a,i,j,data)) s.1 s.2.1 s.2.2.1 s.2.2.2
theorem ZsL:∀n s,Zqu (n+1) s=Zqv (Zqu n) s:=fun _ _=>rfl
def Zpm (a:Int) (i:Int) (j:Int) (data:(List ZnA)):Option (Int×Bool×(List ZnA)):=
 bif (decide (i > j))then (
  chk (inR a (data.length:Int)) <|
  (data[(a).toNat]?).bind fun data_e=>
  chk (inR j (data.length:Int)) <|
  (data[(j).toNat]?).bind fun data_e_1=>
  chk (inR j (data.length:Int)) <|
  chk (inR a ((data.set ((j).toNat) data_e).length:Int)) <|
  some (j,true,((data.set ((j).toNat) data_e).set ((a).toNat) data_e_1))
 )else (
  chk (inR j (data.length:Int)) <|
  (data[(j).toNat]?).bind fun data_e_2=>
  chk (inR i (data.length:Int)) <|
  (data[(i).toNat]?).bind fun data_e_3=>
  chk (inR i (data.length:Int)) <|
  chk (inR j ((data.set ((i).toNat) data_e_2).length:Int)) <|
  chk (inK .i64 (i+1)) <|
  chk (inK .i64 (j - 1)) <|
  (ZnU big a (i+1) (j - 1) ((data.set ((i).toNat) data_e_2).set ((j).toNat) data_e_3)).bind fun(x0,x1,x2)=>Zpj x0 x1 x2
 )
def ZoI (rec_:Int→Int→Int→(List ZnA)→Option (Int×Int×Int×(List ZnA))) (a:Int) (i:Int) (j:Int) (t66:Bool) (data:(List ZnA)):Option (Int×Int×Int×(List ZnA)):=
 bif t66 then (
  chk (inK .i64 (j - 1)) <|
  rec_ a i (j - 1) data
 )else (
  some (a,i,j,data)
 )
def Zo7 (rec_:Int→Int→Int→(List ZnA)→Option (Int×Int×Int×(List ZnA))) (a:Int) (i:Int) (j:Int) (data:(List ZnA)):Option (Int×Int×Int×(List ZnA)):=
 bif (decide (i≤j))then (
  chk (inR j (data.length:Int)) <|
  (data[(j).toNat]?).bind fun data_e=>
  chk (inR a (data.length:Int)) <|
  (data[(a).toNat]?).bind fun data_e_1=>
  (Zor data_e data_e_1).bind fun q=>
  ZoI rec_ a i j (!(decide (q < 0))) data
 )else (
  ZoI rec_ a i j false data
 )
def Zn4:Nat→Int→Int→Int→(List ZnA)→Option (Int×Int×Int×(List ZnA))
 |0,_,_,_,_=>none
 |n_+1,a,i,j,data=>Zo7 (Zn4 n_) a i j data
def Zqw (n:Nat) (s:(Int×Int×Int×(List ZnA))):Option (Int×Int×Int×(List ZnA)):=Zn4 n s.1 s.2.1 s.2.2.1 s.2.2.2
def Zqx (rec_:(Int×Int×Int×(List ZnA))→Option (Int×Int×Int×(List ZnA))) (s:(Int×Int×Int×(List ZnA))):Option (Int×Int×Int×(List ZnA)):=Zo7 (fun a i j data=>rec_ (a,i,j,data)) s.1 s.2.1 s.2.2.1 s.2.2.2
theorem ZsM:∀n s,Zqw (n+1) s=Zqx (Zqw n) s:=fun _ _=>rfl
def Zpn (a:Int) (i:Int) (j:Int) (data:(List ZnA)):Option (Int×Bool×(List ZnA)):=
 (Zn4 big a i j data).bind fun(x0,x1,x2,x3)=>Zpm x0 x1 x2 x3
def ZoJ (rec_:Int→Int→Int→(List ZnA)→Option (Int×Int×Int×(List ZnA))) (a:Int) (i:Int) (j:Int) (t47:Bool) (data:(List ZnA)):Option (Int×Int×Int×(List ZnA)):=
 bif t47 then (
  chk (inK .i64 (i+1)) <|
  rec_ a (i+1) j data
 )else (
  some (a,i,j,data)
 )
def Zo8 (rec_:Int→Int→Int→(List ZnA)→Option (Int×Int×Int×(List ZnA))) (a:Int) (i:Int) (j:Int) (data:(List ZnA)):Option (Int×Int×Int×(List ZnA)):=
 bif (decide (i≤j))then (
  chk (inR i (data.length:Int)) <|
  (data[(i).toNat]?).bind fun data_e=>
  chk (inR a (data.length:Int)) <|
  (data[(a).toNat]?).bind fun data_e_1=>
  (Zor data_e data_e_1).bind fun q=>
  ZoJ rec_ a i j (decide (q < 0)) data
 )else (
  ZoJ rec_ a i j false data
 )
def Zn5:Nat→Int→Int→Int→(List ZnA)→Option (Int×Int×Int×(List ZnA))
 |0,_,_,_,_=>none
 |n_+1,a,i,j,data=>Zo8 (Zn5 n_) a i j data
def Zqy (n:Nat) (s:(Int×Int×Int×(List ZnA))):Option (Int×Int×Int×(List ZnA)):=Zn5 n s.1 s.2.1 s.2.2.1 s.2.2.2
def Zqz (rec_:(Int×Int×Int×(List ZnA))→Option (Int×Int×Int×(List ZnA))) (s:(Int×Int×Int×(List ZnA))):Option (Int×Int×Int×(List ZnA)):=Zo8 (fun a i j data=>rec_ (a,i,j,data)) s.1 s.2.1 s.2.2.1 s.2.2.2
theorem ZsN:∀n s,Zqy (n+1) s=Zqz (Zqy n) s:=fun _ _=>rfl
def ZoP (data:(List ZnA)) (a:Int) (b:Int) (pivot:Int):Option (Int×Bool×(List ZnA)):=
 chk (inR pivot (data.length:Int)) <|
 (data[(pivot).toNat]?).bind fun data_e=>
 chk (inR a (data.length:Int)) <|
 (data[(a).toNat]?).bind fun data_e_1=>
 chk (inR a (data.length:Int)) <|
 chk (inR pivot ((data.set ((a).toNat) data_e).length:Int)) <|
 chk (inK .i64 (a+1)) <|
 chk (inK .i64 (b - 1)) <|
 (Zn5 big a (a+1) (b - 1) ((data.set ((a).toNat) data_e).set ((pivot).toNat) data_e_1)).bind fun(x0,x1,x2,x3)=>Zpn x0 x1 x2 x3
def ZoK (data:(List ZnA)) (a:Int) (b:Int) (pivot:Int):Option (Int×Bool×(List ZnA)):=
 (ZoP data a b pivot).bind fun r=>chk (decide (r.2.2.length=data.length)&&true) (some r)
def Zph (rec_:Int→Int→Int→Bool→Bool→(List ZnA)→Option (Out Unit (List ZnA))) (a:Int) (b:Int) (limit:Int) (wasBalanced:Bool) (wasPartitioned:Bool) (length:Int) (pivot:Int) (t97:Bool) (data:(List ZnA)):Option (Out Unit (List ZnA)):=
 bif t97 then (
  none
 )else (
  (ZoK data a b pivot).bind fun(mid,alreadyPartitioned,t106)=>
  chk (inK .i64 (mid - a)) <|
  chk (inK .i64 (b - mid)) <|
  chk (decide ((8:Int)≠0)) <|
  chk (inK .i64 (Int.tdiv length 8)) <|
  bif (decide ((mid - a) < (b - mid)))then (
   none
  )else (
   chk (inK .i64 (mid+1)) <|
   none
  )
 )
def Zpi (rec_:Int→Int→Int→Bool→Bool→(List ZnA)→Option (Out Unit (List ZnA))) (a:Int) (b:Int) (limit:Int) (wasBalanced:Bool) (wasPartitioned:Bool) (length:Int) (pivot:Int) (data:(List ZnA)):Option (Out Unit (List ZnA)):=
 bif (decide (a > 0))then (
  chk (inK .i64 (a - 1)) <|
  chk (inR (a - 1) (data.length:Int)) <|
  (data[((a - 1)).toNat]?).bind fun data_e=>
  chk (inR pivot (data.length:Int)) <|
  (data[(pivot).toNat]?).bind fun data_e_1=>
  (Zor data_e data_e_1).bind fun q=>
  Zph rec_ a b limit wasBalanced wasPartitioned length pivot (!(decide (q < 0))) data
 )else (
  Zph rec_ a b limit wasBalanced wasPartitioned length pivot false data
 )
def ZoF (rec_:Int→Int→Int→Bool→Bool→(List ZnA)→Option (Out Unit (List ZnA))) (a:Int) (b:Int) (limit:Int) (wasBalanced:Bool) (wasPartitioned:Bool) (length:Int) (pivot:Int) (t75:Bool) (data:(List ZnA)):Option (Out Unit (List ZnA)):=
 bif t75 then (
  (ZnY data a b).bind fun(q,t76)=>
  bif q then (
   some (.ret t76)
  )else (
   Zpi rec_ a b limit wasBalanced wasPartitioned length pivot t76
  )
 )else (
  Zpi rec_ a b limit wasBalanced wasPartitioned length pivot data
 )
def Zo3 (rec_:Int→Int→Int→Bool→Bool→(List ZnA)→Option (Out Unit (List ZnA))) (a:Int) (b:Int) (limit:Int) (wasBalanced:Bool) (wasPartitioned:Bool) (data:(List ZnA)):Option (Out Unit (List ZnA)):=
 chk (inK .i64 (b - a)) <|
 bif (decide ((b - a)≤12))then (
  (Zoa data a b).bind fun t26=>
  some (.ret t26)
 )else (
  bif (limit == 0)then (
   none
  )else (
   bif (!wasBalanced)then (
    none
   )else (
    (Zoe data a b).bind fun(pivot,hint,t48)=>
    bif (hint == 2)then (
     none
    )else (
     bif wasBalanced then (
      bif wasPartitioned then (
       ZoF rec_ a b limit wasBalanced wasPartitioned (b - a) pivot (hint == 1) t48
      )else (
       ZoF rec_ a b limit wasBalanced wasPartitioned (b - a) pivot false t48
      )
     )else (
      ZoF rec_ a b limit wasBalanced wasPartitioned (b - a) pivot false t48
     )
    )
   )
  )
 )
def Zn1:Nat→Int→Int→Int→Bool→Bool→(List ZnA)→Option (Out Unit (List ZnA))
 |0,_,_,_,_,_,_=>none
 |n_+1,a,b,limit,wasBalanced,wasPartitioned,data=>Zo3 (Zn1 n_) a b limit wasBalanced wasPartitioned data
def ZpB (data:(List ZnA)) (a:Int) (b:Int) (limit:Int):Option (List ZnA):=
 (Zn1 big a b limit true true data).bind fun
  | .ret q_=>some q_
  | .brk _=>none
def Zog (data:(List ZnA)) (a:Int) (b:Int) (limit:Int):Option (List ZnA):=
 (ZpB data a b limit).bind fun r=>chk (decide (r.length=data.length)&&true) (some r)
def Zoh (rec_:Int→Int→Int→Bool→Bool→(List ZnA)→Option (Out Unit (List ZnA))) (a:Int) (b:Int) (limit:Int) (wasBalanced:Bool) (wasPartitioned:Bool) (length:Int) (pivot:Int) (t97:Bool) (data:(List ZnA)):Option (Out Unit (List ZnA)):=
 bif t97 then (
  none
 )else (
  (ZoK data a b pivot).bind fun(mid,alreadyPartitioned,t106)=>
  chk (inK .i64 (mid - a)) <|
  chk (inK .i64 (b - mid)) <|
  chk (decide ((8:Int)≠0)) <|
  chk (inK .i64 (Int.tdiv length 8)) <|
  bif (decide ((mid - a) < (b - mid)))then (
   (Zog t106 a mid limit).bind fun t129=>
   chk (inK .i64 (mid+1)) <|
   rec_ (mid+1) b limit (decide ((mid - a)≥(Int.tdiv length 8))) alreadyPartitioned t129
  )else (
   chk (inK .i64 (mid+1)) <|
   (Zog t106 (mid+1) b limit).bind fun t140=>
   rec_ a mid limit (decide ((b - mid)≥(Int.tdiv length 8))) alreadyPartitioned t140
  )
 )
def Zoi (rec_:Int→Int→Int→Bool→Bool→(List ZnA)→Option (Out Unit (List ZnA))) (a:Int) (b:Int) (limit:Int) (wasBalanced:Bool) (wasPartitioned:Bool) (length:Int) (pivot:Int) (data:(List ZnA)):Option (Out Unit (List ZnA)):=
 bif (decide (a > 0))then (
  chk (inK .i64 (a - 1)) <|
  chk (inR (a - 1) (data.length:Int)) <|
  (data[((a - 1)).toNat]?).bind fun data_e=>
  chk (inR pivot (data.length:Int)) <|
  (data[(pivot).toNat]?).bind fun data_e_1=>
  (Zor data_e data_e_1).bind fun q=>
  Zoh rec_ a b limit wasBalanced wasPartitioned length pivot (!(decide (q < 0))) data
 )else (
  Zoh rec_ a b limit wasBalanced wasPartitioned length pivot false data
 )
def Zoj (rec_:Int→Int→Int→Bool→Bool→(List ZnA)→Option (Out Unit (List ZnA))) (a:Int) (b:Int) (limit:Int) (wasBalanced:Bool) (wasPartitioned:Bool) (length:Int) (pivot:Int) (t75:Bool) (data:(List ZnA)):Option (Out Unit (List ZnA)):=
 bif t75 then (
  (ZnY data a b).bind fun(q,t76)=>
  bif q then (
   some (.ret t76)
  )else (
   Zoi rec_ a b limit wasBalanced wasPartitioned length pivot t76
  )
 )else (
  Zoi rec_ a b limit wasBalanced wasPartitioned length pivot data
 )
def ZnN (rec_:Int→Int→Int→Bool→Bool→(List ZnA)→Option (Out Unit (List ZnA))) (a:Int) (b:Int) (limit:Int) (wasBalanced:Bool) (wasPartitioned:Bool) (data:(List ZnA)):Option (Out Unit (List ZnA)):=
 chk (inK .i64 (b - a)) <|
 bif (decide ((b - a)≤12))then (
  (Zoa data a b).bind fun t26=>
  some (.ret t26)
 )else (
  bif (limit == 0)then (
   none
  )else (
   bif (!wasBalanced)then (
    none
   )else (
    (Zoe data a b).bind fun(pivot,hint,t48)=>
    bif (hint == 2)then (
     none
    )else (
     bif wasBalanced then (
      bif wasPartitioned then (
       Zoj rec_ a b limit wasBalanced wasPartitioned (b - a) pivot (hint == 1) t48
      )else (
       Zoj rec_ a b limit wasBalanced wasPartitioned (b - a) pivot false t48
      )
     )else (
      Zoj rec_ a b limit wasBalanced wasPartitioned (b - a) pivot false t48
     )
    )
   )
  )
 )
def ZnJ:Nat→Int→Int→Int→Bool→Bool→(List ZnA)→Option (Out Unit (List ZnA))
 |0,_,_,_,_,_,_=>none
 |n_+1,a,b,limit,wasBalanced,wasPartitioned,data=>ZnN (ZnJ n_) a b limit wasBalanced wasPartitioned data
def Zo0 (data:(List ZnA)) (a:Int) (b:Int) (limit:Int):Option (List ZnA):=
 (ZnJ big a b limit true true data).bind fun
  | .ret q_=>some q_
  | .brk _=>none
def Zn8 (data:(List ZnA)) (a:Int) (b:Int) (limit:Int):Option (List ZnA):=
 (Zo0 data a b limit).bind fun r=>chk (decide (r.length=data.length)&&true) (some r)
def ZoW (x_:(List ZnA)):Option (List ZnA):=
 (ZuW (IntKind.wrap .u64 (x_.length:Int))).bind fun q=>
 (Zn8 x_ 0 (x_.length:Int) q).bind fun t7=>
 some t7
def ZnT (x_:(List ZnA)):Option (List ZnA):=
 (ZoW x_).bind fun r=>chk (decide (r.length=x_.length)&&true) (some r)
def ZvA (out:(List ZnA)):Option (List ZnA):=
 (ZnT out).bind fun t82=>
 some t82
def Ztt (rec_:(List ZnE)→Int→Int→ZnL→(List (Str×Int))→(List ZnA)→Option (List ZnA)) (t15:(List ZnE)) (t16:Int) (i:Int) (value:ZnL) (at_:(List (Str×Int))) (out:(List ZnA)):Option (List ZnA):=
 chk (inK .i64 (i+1)) <|
 rec_ t15 t16 (i+1) value at_ out
def Ztu (rec_:(List ZnE)→Int→Int→ZnL→(List (Str×Int))→(List ZnA)→Option (List ZnA)) (n:Int) (t15:(List ZnE)) (t16:Int) (i:Int) (value:ZnL) (at_:(List (Str×Int))) (out:(List ZnA)) (v_:ZnG):Option (List ZnA):=
 chk (inR n (out.length:Int)) <|
 (out[(n).toNat]?).bind fun out_e=>
 chk (inK .i64 (out_e.Count+1)) <|
 chk (inR n (out.length:Int)) <|
 (out[(n).toNat]?).bind fun el=>
 chk (inR n ((out.set ((n).toNat) (ZnA.mk el.Key el.Hash (out_e.Count+1) el.Sum)).length:Int)) <|
 ((out.set ((n).toNat) (ZnA.mk el.Key el.Hash (out_e.Count+1) el.Sum))[(n).toNat]?).bind fun Sum_e=>
 (Zwr Sum_e.Sum v_).bind fun q=>
 chk (inR n ((out.set ((n).toNat) (ZnA.mk el.Key el.Hash (out_e.Count+1) el.Sum)).length:Int)) <|
 ((out.set ((n).toNat) (ZnA.mk el.Key el.Hash (out_e.Count+1) el.Sum))[(n).toNat]?).bind fun el_1=>
 Ztt rec_ t15 t16 i value at_ ((out.set ((n).toNat) (ZnA.mk el.Key el.Hash (out_e.Count+1) el.Sum)).set ((n).toNat) (ZnA.mk el_1.Key el_1.Hash el_1.Count q))
def ZrK (rec_:(List ZnE)→Int→Int→ZnL→(List (Str×Int))→(List ZnA)→Option (List ZnA)) (t15:(List ZnE)) (t16:Int) (i:Int) (t36:Bool) (value:ZnL) (at_:(List (Str×Int))) (out:(List ZnA)) (k:ZnE) (v_:ZnG):Option (List ZnA):=
 bif t36 then (
  Ztt rec_ t15 t16 i value at_ out
 )else (
  bif (!(Zg3 (k:= .str) (v:=(.int .i64)) (car:=Zu9) at_ k.Text).isSome)then (
   (Ztk k.Text).bind fun q=>
   (ZvW).bind fun q_1=>
   chk (ZiZ (out.length+([(ZnA.mk k.Text q 0 q_1)]:(List ZnA)).length) 96) <|
   Ztu rec_ (out.length:Int) t15 t16 i value (setB (k:= .str) (v:=(.int .i64)) (car:=Zu9) at_ k.Text (out.length:Int)) (out++([(ZnA.mk k.Text q 0 q_1)]:(List ZnA))) v_
  )else (
   Ztu rec_ ((Zg3 (k:= .str) (v:=(.int .i64)) (car:=Zu9) at_ k.Text).getD (0:Int)) t15 t16 i value at_ out v_
  )
 )
def ZtH (rec_:(List ZnE)→Int→Int→ZnL→(List (Str×Int))→(List ZnA)→Option (List ZnA)) (t15:(List ZnE)) (t16:Int) (i:Int) (value:ZnL) (at_:(List (Str×Int))) (out:(List ZnA)):Option (List ZnA):=
 bif (decide (i < t16))then (
  (idx t15 i).bind fun k=>
  (idx value.Cells i).bind fun Cell=>
  (Zp6 Cell).bind fun(v_,ok)=>
  bif k.Null then (
   ZrK rec_ t15 t16 i true value at_ out k v_
  )else (
   ZrK rec_ t15 t16 i (!ok) value at_ out k v_
  )
 )else (
  some out
 )
def Zq3:Nat→(List ZnE)→Int→Int→ZnL→(List (Str×Int))→(List ZnA)→Option (List ZnA)
 |0,_,_,_,_,_,_=>none
 |n_+1,t15,t16,i,value,at_,out=>ZtH (Zq3 n_) t15 t16 i value at_ out
def Zwh (n:Nat) (s:((List ZnE)×Int×Int×ZnL×(List (Str×Int))×(List ZnA))):Option (List ZnA):=Zq3 n s.1 s.2.1 s.2.2.1 s.2.2.2.1 s.2.2.2.2.1 s.2.2.2.2.2
def ZuT (rec_:((List ZnE)×Int×Int×ZnL×(List (Str×Int))×(List ZnA))→Option (List ZnA)) (s:((List ZnE)×Int×Int×ZnL×(List (Str×Int))×(List ZnA))):Option (List ZnA):=ZtH (fun t15 t16 i value at_ out=>rec_ (t15,t16,i,value,at_,out)) s.1 s.2.1 s.2.2.1 s.2.2.2.1 s.2.2.2.2.1 s.2.2.2.2.2
theorem Zxf:∀n s,Zwh (n+1) s=ZuT (Zwh n) s:=fun _ _=>rfl
def ZuU (key:ZnL) (value:ZnL):Option (List ZnA):=
 (Zq3 big key.Cells (key.Cells.length:Int) (0:Int) value ([]:(List (Str×Int))) ([]:(List ZnA))).bind fun x0=>ZvA x0
def ZuF (k:Int) (t17:Bool) (key:ZnL) (value:ZnL) (t6:Int) (t6_1:Bool) (t6_2:(List ZnA)):Option (ZnC×Int):=
 bif t17 then (
  some ((ZnC.mk 0 false ([]:(List ZnA))),1)
 )else (
  (ZuU key value).bind fun l=>
  chk (Zb9 0 (if (l.length:Int) < k then (l.length:Int)else k) (l.length:Int)) <|
  some ((ZnC.mk k (decide ((l.length:Int)≤k)) ((l.drop 0).take (((if (l.length:Int) < k then (l.length:Int)else k)).toNat - 0))),0)
 )
def ZuG (k:Int) (t9:Bool) (key:ZnL) (value:ZnL) (t6:Int) (t6_1:Bool) (t6_2:(List ZnA)):Option (ZnC×Int):=
 bif t9 then (
  some ((ZnC.mk 0 false ([]:(List ZnA))),2)
 )else (
  bif ((key.Cells.length:Int) != (value.Cells.length:Int))then (
   ZuF k true key value t6 t6_1 t6_2
  )else (
   ZuF k (decide ((key.Cells.length:Int) > 4096)) key value t6 t6_1 t6_2
  )
 )
def Zst (key:ZnL) (value:ZnL) (k:Int):Option (ZnC×Int):=
 bif (decide (k < 1))then (
  ZuG k true key value (0:Int) false ([]:(List ZnA))
 )else (
  ZuG k (decide (k > 256)) key value (0:Int) false ([]:(List ZnA))
 )
def Zuf:Option Bool:=
 some true
def Zrg (rec_:(List ZnA)→Int→Int→ZnC→Option (Out Unit Bool)) (t35:(List ZnA)) (t36:Int) (i:Int) (t73:Bool) (s:ZnC):Option (Out Unit Bool):=
 bif t73 then (
  some (.ret false)
 )else (
  chk (inK .i64 (i+1)) <|
  rec_ t35 t36 (i+1) s
 )
def Zth (rec_:(List ZnA)→Int→Int→ZnC→Option (Out Unit Bool)) (t35:(List ZnA)) (t36:Int) (i:Int) (s:ZnC):Option (Out Unit Bool):=
 bif (decide (i < t36))then (
  (idx t35 i).bind fun e=>
  (Ztk e.Key).bind fun q=>
  bif (e.Hash != q)then (
   Zrg rec_ t35 t36 i true s
  )else (
   bif (decide (e.Count < 1))then (
    Zrg rec_ t35 t36 i true s
   )else (
    (ZrN e.Sum).bind fun q_1=>
    bif (!q_1)then (
     Zrg rec_ t35 t36 i true s
    )else (
     bif (decide (i > 0))then (
      chk (inK .i64 (i - 1)) <|
      (idx s.Entries (i - 1)).bind fun Entrie=>
      (Zor Entrie e).bind fun q_2=>
      Zrg rec_ t35 t36 i (decide (q_2≥0)) s
     )else (
      Zrg rec_ t35 t36 i false s
     )
    )
   )
  )
 )else (
  some (.brk ())
 )
def ZrW:Nat→(List ZnA)→Int→Int→ZnC→Option (Out Unit Bool)
 |0,_,_,_,_=>none
 |n_+1,t35,t36,i,s=>Zth (ZrW n_) t35 t36 i s
def Zv0 (n:Nat) (s:((List ZnA)×Int×Int×ZnC)):Option (Out Unit Bool):=ZrW n s.1 s.2.1 s.2.2.1 s.2.2.2
def ZuK (rec_:((List ZnA)×Int×Int×ZnC)→Option (Out Unit Bool)) (s:((List ZnA)×Int×Int×ZnC)):Option (Out Unit Bool):=Zth (fun t35 t36 i s=>rec_ (t35,t36,i,s)) s.1 s.2.1 s.2.2.1 s.2.2.2
theorem Zw0:∀n s,Zv0 (n+1) s=ZuK (Zv0 n) s:=fun _ _=>rfl
def Zpe (t33:Bool) (s:ZnC):Option Bool:=
 bif t33 then (
  some false
 )else (
  (ZrW big s.Entries (s.Entries.length:Int) (0:Int) s).bind fun
   | .ret q_=>some q_
   | .brk ()=>Zuf
 )
def ZqJ (s:ZnC):Option Bool:=
 bif (decide (s.K < 1))then (
  Zpe true s
 )else (
  bif (decide (s.K > 256))then (
   Zpe true s
  )else (
   bif (decide ((s.Entries.length:Int) > s.K))then (
    Zpe true s
   )else (
    bif (!s.All)then (
     Zpe (decide ((s.Entries.length:Int) < s.K)) s
    )else (
     Zpe false s
    )
   )
  )
 )
def Zuo (w_:(List Int)):Option (List Int):=
 some w_
def Zsk (rec_:(List Int)→Option (List Int)) (w_:(List Int)) (t14:Bool):Option (List Int):=
 bif t14 then (
  chk (inK .i64 ((w_.length:Int) - 1)) <|
  chk (Zb9 0 ((w_.length:Int) - 1) (w_.length:Int)) <|
  rec_ (w_.take (((w_.length:Int) - 1)).toNat)
 )else (
  some w_
 )
def ZtE (rec_:(List Int)→Option (List Int)) (w_:(List Int)):Option (List Int):=
 bif (decide ((w_.length:Int) > 0))then (
  chk (inK .i64 ((w_.length:Int) - 1)) <|
  (idx w_ ((w_.length:Int) - 1)).bind fun w__e=>
  Zsk rec_ w_ (w__e == 0)
 )else (
  Zsk rec_ w_ false
 )
def ZoT:Nat→(List Int)→Option (List Int)
 |0,_=>none
 |n_+1,w_=>ZtE (ZoT n_) w_
def Zoq (w_:(List Int)):Option (List Int):=
 (ZoT big w_).bind fun x0=>Zuo x0
def Zrs (t4:ZnI):Option ZnI:=
 some t4
def Zo9 (neg:Bool) (w_:(List Int)):Option ZnI:=
 (Zoq w_).bind fun w__1=>
 bif neg then (
  Zrs (ZnI.mk (decide ((w__1.length:Int) > 0)) w__1)
 )else (
  Zrs (ZnI.mk false w__1)
 )
def Zqm (n:Int) (u:Int) (t2:Bool) (t2_1:(List Int)):Option ZnI:=
 chk (decide (0≤(32:Int))) <|
 (Zo9 (decide (n < 0)) ([(IntKind.wrap .u32 u),(IntKind.wrap .u32 (shrK .u64 u 32))]:(List Int))).bind fun q=>
 some q
def ZoU (n:Int):Option ZnI:=
 bif (decide (n < 0))then (
  Zqm n (IntKind.wrap .u64 (0 - (IntKind.wrap .u64 n))) false ([]:(List Int))
 )else (
  Zqm n (IntKind.wrap .u64 n) false ([]:(List Int))
 )
def Zos (t2:Bool):Option Bool:=
 some t2
def ZpN (a:ZnI):Option Bool:=
 bif (decide ((a.Words.length:Int)≤256))then (
  bif ((a.Words.length:Int) == 0)then (
   bif (!a.Neg)then (
    Zos true
   )else (
    bif (decide ((a.Words.length:Int) > 0))then (
     chk (inK .i64 ((a.Words.length:Int) - 1)) <|
     (idx a.Words ((a.Words.length:Int) - 1)).bind fun Word=>
     Zos (Word != 0)
    )else (
     Zos false
    )
   )
  )else (
   bif (decide ((a.Words.length:Int) > 0))then (
    chk (inK .i64 ((a.Words.length:Int) - 1)) <|
    (idx a.Words ((a.Words.length:Int) - 1)).bind fun Word_1=>
    Zos (Word_1 != 0)
   )else (
    Zos false
   )
  )
 )else (
  Zos false
 )
def Zsl (out:(List Int)):Option (List Int):=
 (Zoq out).bind fun q=>
 some q
def Zp2 (rec_:(List Int)→Int→Int→(List Int)→Option (List Int)) (a:(List Int)) (t9:Int) (i:Int) (out:(List Int)):Option (List Int):=
 chk (inK .i64 (i+1)) <|
 rec_ a t9 (i+1) out
def ZqH (rec_:(List Int)→Int→Int→(List Int)→Option (List Int)) (a:(List Int)) (t9:Int) (i:Int) (out:(List Int)):Option (List Int):=
 bif (decide (i < t9))then (
  chk (inR i (out.length:Int)) <|
  (out[(i).toNat]?).bind fun out_e=>
  chk (decide (0≤(1:Int))) <|
  chk (inR i (out.length:Int)) <|
  chk (inK .i64 (i+1)) <|
  bif (decide ((i+1) < (a.length:Int)))then (
   chk (inR i ((out.set ((i).toNat) (shrK .u32 out_e 1)).length:Int)) <|
   ((out.set ((i).toNat) (shrK .u32 out_e 1))[(i).toNat]?).bind fun e_e=>
   chk (inK .i64 (i+1)) <|
   (idx a (i+1)).bind fun a_e=>
   chk (decide (0≤(31:Int))) <|
   chk (inR i ((out.set ((i).toNat) (shrK .u32 out_e 1)).length:Int)) <|
   Zp2 rec_ a t9 i ((out.set ((i).toNat) (shrK .u32 out_e 1)).set ((i).toNat) (orK .u32 e_e (shlK .u32 a_e 31)))
  )else (
   Zp2 rec_ a t9 i (out.set ((i).toNat) (shrK .u32 out_e 1))
  )
 )else (
  some out
 )
def Zp1:Nat→(List Int)→Int→Int→(List Int)→Option (List Int)
 |0,_,_,_,_=>none
 |n_+1,a,t9,i,out=>ZqH (Zp1 n_) a t9 i out
def ZtF (n:Nat) (s:((List Int)×Int×Int×(List Int))):Option (List Int):=Zp1 n s.1 s.2.1 s.2.2.1 s.2.2.2
def ZrQ (rec_:((List Int)×Int×Int×(List Int))→Option (List Int)) (s:((List Int)×Int×Int×(List Int))):Option (List Int):=ZqH (fun a t9 i out=>rec_ (a,t9,i,out)) s.1 s.2.1 s.2.2.1 s.2.2.2
theorem Zvy:∀n s,ZtF (n+1) s=ZrQ (ZtF n) s:=fun _ _=>rfl
def ZoZ (a:(List Int)):Option (List Int):=
 chk (ZiZ (([]:(List Int)).length+a.length) 4) <|
 (Zp1 big a ((([]:(List Int))++a).length:Int) (0:Int) (([]:(List Int))++a)).bind fun x0=>Zsl x0
def ZsI:Option Int:=
 some (0:Int)
def ZqO (rec_:(List Int)→(List Int)→Int→Option (Out Unit Int)) (a:(List Int)) (b:(List Int)) (i:Int):Option (Out Unit Int):=
 bif (decide (i≥0))then (
  (idx a i).bind fun a_e=>
  (idx b i).bind fun b_e=>
  bif (decide (a_e < b_e))then (
   some (.ret (-1:Int))
  )else (
   (idx a i).bind fun a_e_1=>
   (idx b i).bind fun b_e_1=>
   bif (decide (a_e_1 > b_e_1))then (
    some (.ret (1:Int))
   )else (
    chk (inK .i64 (i - 1)) <|
    rec_ a b (i - 1)
   )
  )
 )else (
  some (.brk ())
 )
def Zrr:Nat→(List Int)→(List Int)→Int→Option (Out Unit Int)
 |0,_,_,_=>none
 |n_+1,a,b,i=>ZqO (Zrr n_) a b i
def ZtU (n:Nat) (s:((List Int)×(List Int)×Int)):Option (Out Unit Int):=Zrr n s.1 s.2.1 s.2.2
def Zr4 (rec_:((List Int)×(List Int)×Int)→Option (Out Unit Int)) (s:((List Int)×(List Int)×Int)):Option (Out Unit Int):=ZqO (fun a b i=>rec_ (a,b,i)) s.1 s.2.1 s.2.2
theorem ZvP:∀n s,ZtU (n+1) s=Zr4 (ZtU n) s:=fun _ _=>rfl
def Zqb (a:(List Int)) (b:(List Int)):Option Int:=
 bif ((a.length:Int) != (b.length:Int))then (
  bif (decide ((a.length:Int) < (b.length:Int)))then (
   some (-1:Int)
  )else (
   some (1:Int)
  )
 )else (
  chk (inK .i64 ((a.length:Int) - 1)) <|
  (Zrr big a b ((a.length:Int) - 1)).bind fun
   | .ret q_=>some q_
   | .brk ()=>ZsI
 )
def ZsB (out:(List Int)):Option (List Int):=
 (Zoq out).bind fun q=>
 some q
def Zqe (rec_:(List Int)→(List Int)→Int→Int→(List Int)→Option (List Int)) (a:(List Int)) (b:(List Int)) (c:Int) (i:Int) (out:(List Int)):Option (List Int):=
 chk (ZiZ (out.length+([(IntKind.wrap .u32 c)]:(List Int)).length) 4) <|
 chk (decide (0≤(32:Int))) <|
 chk (inK .i64 (i+1)) <|
 rec_ a b (shrK .i64 c 32) (i+1) (out++([(IntKind.wrap .u32 c)]:(List Int)))
def ZqM (rec_:(List Int)→(List Int)→Int→Int→(List Int)→Option (List Int)) (a:(List Int)) (b:(List Int)) (c:Int) (i:Int) (out:(List Int)):Option (List Int):=
 bif (decide (i < (a.length:Int)))then (
  (idx a i).bind fun a_e=>
  chk (inK .i64 (c+(IntKind.wrap .i64 a_e))) <|
  bif (decide (i < (b.length:Int)))then (
   (idx b i).bind fun b_e=>
   chk (inK .i64 ((c+(IntKind.wrap .i64 a_e)) - (IntKind.wrap .i64 b_e))) <|
   Zqe rec_ a b ((c+(IntKind.wrap .i64 a_e)) - (IntKind.wrap .i64 b_e)) i out
  )else (
   Zqe rec_ a b (c+(IntKind.wrap .i64 a_e)) i out
  )
 )else (
  some out
 )
def Zqd:Nat→(List Int)→(List Int)→Int→Int→(List Int)→Option (List Int)
 |0,_,_,_,_,_=>none
 |n_+1,a,b,c,i,out=>ZqM (Zqd n_) a b c i out
def ZtS (n:Nat) (s:((List Int)×(List Int)×Int×Int×(List Int))):Option (List Int):=Zqd n s.1 s.2.1 s.2.2.1 s.2.2.2.1 s.2.2.2.2
def Zr0 (rec_:((List Int)×(List Int)×Int×Int×(List Int))→Option (List Int)) (s:((List Int)×(List Int)×Int×Int×(List Int))):Option (List Int):=ZqM (fun a b c i out=>rec_ (a,b,c,i,out)) s.1 s.2.1 s.2.2.1 s.2.2.2.1 s.2.2.2.2
theorem ZvN:∀n s,ZtS (n+1) s=Zr0 (ZtS n) s:=fun _ _=>rfl
def Zp9 (a:(List Int)) (b:(List Int)):Option (List Int):=
 (Zqd big a b (0:Int) (0:Int) ([]:(List Int))).bind fun x0=>ZsB x0
def ZrZ (d:Int) (out:(List Int)):Option (List Int):=
 chk (ZiZ (out.length+([d]:(List Int)).length) 4) <|
 (Zoq (out++([d]:(List Int)))).bind fun q=>
 some q
def Zql (rec_:(List Int)→Int→Int→(List Int)→Option (Int×(List Int))) (a:(List Int)) (d:Int) (i:Int) (out:(List Int)):Option (Int×(List Int)):=
 bif (decide (i < (a.length:Int)))then (
  (idx a i).bind fun a_e=>
  chk (decide (0≤(1:Int))) <|
  chk (ZiZ (out.length+([(orK .u32 (shlK .u32 a_e 1) d)]:(List Int)).length) 4) <|
  (idx a i).bind fun a_e_1=>
  chk (decide (0≤(31:Int))) <|
  chk (inK .i64 (i+1)) <|
  rec_ a (shrK .u32 a_e_1 31) (i+1) (out++([(orK .u32 (shlK .u32 a_e 1) d)]:(List Int)))
 )else (
  some (d,out)
 )
def ZqL:Nat→(List Int)→Int→Int→(List Int)→Option (Int×(List Int))
 |0,_,_,_,_=>none
 |n_+1,a,d,i,out=>Zql (ZqL n_) a d i out
def Ztr (n:Nat) (s:((List Int)×Int×Int×(List Int))):Option (Int×(List Int)):=ZqL n s.1 s.2.1 s.2.2.1 s.2.2.2
def ZrI (rec_:((List Int)×Int×Int×(List Int))→Option (Int×(List Int))) (s:((List Int)×Int×Int×(List Int))):Option (Int×(List Int)):=Zql (fun a d i out=>rec_ (a,d,i,out)) s.1 s.2.1 s.2.2.1 s.2.2.2
theorem Zvj:∀n s,Ztr (n+1) s=ZrI (Ztr n) s:=fun _ _=>rfl
def ZpG (a:(List Int)) (d:Int):Option (List Int):=
 (ZqL big a d (0:Int) ([]:(List Int))).bind fun(x0,x1)=>ZrZ x0 x1
def ZsC (a:(List Int)):Option (List Int):=
 some a
def ZpK (rec_:(List Int)→Int→Option (List Int)) (a:(List Int)) (k:Int):Option (List Int):=
 bif (decide (k > 0))then (
  (ZpG a 0).bind fun a_1=>
  chk (inK .i64 (k - 1)) <|
  rec_ a_1 (k - 1)
 )else (
  some a
 )
def Zpz:Nat→(List Int)→Int→Option (List Int)
 |0,_,_=>none
 |n_+1,a,k=>ZpK (Zpz n_) a k
def ZsD (a:(List Int)) (k:Int):Option (List Int):=
 (Zpz big a k).bind fun x0=>ZsC x0
def Zrp (rec_:(List Int)→(List Int)→Int→Option ((List Int)×Int)) (a:(List Int)) (b:(List Int)) (k:Int):Option ((List Int)×Int):=
 (Zp9 b a).bind fun b_1=>
 rec_ a b_1 k
def ZsE (rec_:(List Int)→(List Int)→Int→Option ((List Int)×Int)) (a:(List Int)) (b:(List Int)) (k:Int):Option ((List Int)×Int):=
 (Zqb a b).bind fun q=>
 bif (decide (q > 0))then (
  Zrp rec_ b a k
 )else (
  Zrp rec_ a b k
 )
def Zr1 (rec_:(List Int)→(List Int)→Int→Option ((List Int)×(List Int)×Int)) (a:(List Int)) (b:(List Int)) (k:Int):Option ((List Int)×(List Int)×Int):=
 (idx b 0).bind fun b_e=>
 bif ((andK .u32 b_e 1) == 0)then (
  (ZoZ b).bind fun b_1=>
  rec_ a b_1 k
 )else (
  some (a,b,k)
 )
def ZoL:Nat→(List Int)→(List Int)→Int→Option ((List Int)×(List Int)×Int)
 |0,_,_,_=>none
 |n_+1,a,b,k=>Zr1 (ZoL n_) a b k
def ZsF (rec_:(List Int)→(List Int)→Int→Option ((List Int)×Int)) (a:(List Int)) (b:(List Int)) (k:Int):Option ((List Int)×Int):=
 (ZoL big a b k).bind fun(x0,x1,x2)=>ZsE rec_ x0 x1 x2
def ZpL (rec_:(List Int)→(List Int)→Int→Option ((List Int)×(List Int)×Int)) (a:(List Int)) (b:(List Int)) (k:Int):Option ((List Int)×(List Int)×Int):=
 (idx a 0).bind fun a_e=>
 bif ((andK .u32 a_e 1) == 0)then (
  (ZoZ a).bind fun a_1=>
  rec_ a_1 b k
 )else (
  some (a,b,k)
 )
def ZoM:Nat→(List Int)→(List Int)→Int→Option ((List Int)×(List Int)×Int)
 |0,_,_,_=>none
 |n_+1,a,b,k=>ZpL (ZoM n_) a b k
def ZpM (rec_:(List Int)→(List Int)→Int→Option ((List Int)×Int)) (a:(List Int)) (b:(List Int)) (k:Int):Option ((List Int)×Int):=
 bif (decide ((b.length:Int) > 0))then (
  (ZoM big a b k).bind fun(x0,x1,x2)=>ZsF rec_ x0 x1 x2
 )else (
  some (a,k)
 )
def Zn9:Nat→(List Int)→(List Int)→Int→Option ((List Int)×Int)
 |0,_,_,_=>none
 |n_+1,a,b,k=>ZpM (Zn9 n_) a b k
def ZsG (a:(List Int)) (b:(List Int)) (k:Int):Option (List Int):=
 (Zn9 big a b k).bind fun(x0,x1)=>ZsD x0 x1
def Zrq (rec_:(List Int)→(List Int)→Int→Option ((List Int)×(List Int)×Int)) (a:(List Int)) (b:(List Int)) (k:Int) (t17:Bool):Option ((List Int)×(List Int)×Int):=
 bif t17 then (
  (ZoZ a).bind fun a_1=>
  (ZoZ b).bind fun b_1=>
  chk (inK .i64 (k+1)) <|
  rec_ a_1 b_1 (k+1)
 )else (
  some (a,b,k)
 )
def Zr2 (rec_:(List Int)→(List Int)→Int→Option ((List Int)×(List Int)×Int)) (a:(List Int)) (b:(List Int)) (k:Int):Option ((List Int)×(List Int)×Int):=
 (idx a 0).bind fun a_e=>
 bif ((andK .u32 a_e 1) == 0)then (
  (idx b 0).bind fun b_e=>
  Zrq rec_ a b k ((andK .u32 b_e 1) == 0)
 )else (
  Zrq rec_ a b k false
 )
def ZpA:Nat→(List Int)→(List Int)→Int→Option ((List Int)×(List Int)×Int)
 |0,_,_,_=>none
 |n_+1,a,b,k=>Zr2 (ZpA n_) a b k
def Zrc (a:(List Int)) (b:(List Int)):Option (List Int):=
 (ZpA big a b (0:Int)).bind fun(x0,x1,x2)=>ZsG x0 x1 x2
def Zrd (a:(List Int)) (i:Int):Option Int:=
 chk (decide ((32:Int)≠0)) <|
 chk (inK .i64 (Int.tdiv i 32)) <|
 (idx a (Int.tdiv i 32)).bind fun a_e=>
 chk (decide ((32:Int)≠0)) <|
 chk (decide (0≤(IntKind.wrap .u64 (Int.tmod i 32)))) <|
 some (andK .u32 (shrK .u32 a_e (IntKind.wrap .u64 (Int.tmod i 32))) 1)
def ZsH (r_:(List Int)) (q:(List Int)):Option ((List Int)×(List Int)):=
 (Zoq q).bind fun q_1=>
 some (q_1,r_)
def Zqh (rec_:(List Int)→(List Int)→(List Int)→Int→(List Int)→Option ((List Int)×(List Int))) (a:(List Int)) (b:(List Int)) (r_:(List Int)) (i:Int) (q:(List Int)):Option ((List Int)×(List Int)):=
 chk (inK .i64 (i - 1)) <|
 rec_ a b r_ (i - 1) q
def ZqN (rec_:(List Int)→(List Int)→(List Int)→Int→(List Int)→Option ((List Int)×(List Int))) (a:(List Int)) (b:(List Int)) (r_:(List Int)) (i:Int) (q:(List Int)):Option ((List Int)×(List Int)):=
 bif (decide (i≥0))then (
  (Zrd a i).bind fun q_1=>
  (ZpG r_ q_1).bind fun r__1=>
  (Zqb r__1 b).bind fun q_2=>
  bif (decide (q_2≥0))then (
   (Zp9 r__1 b).bind fun r__2=>
   chk (decide ((32:Int)≠0)) <|
   chk (inK .i64 (Int.tdiv i 32)) <|
   chk (inR (Int.tdiv i 32) (q.length:Int)) <|
   (q[((Int.tdiv i 32)).toNat]?).bind fun q_e=>
   chk (decide ((32:Int)≠0)) <|
   chk (decide (0≤(IntKind.wrap .u64 (Int.tmod i 32)))) <|
   chk (inR (Int.tdiv i 32) (q.length:Int)) <|
   Zqh rec_ a b r__2 i (q.set (((Int.tdiv i 32)).toNat) (orK .u32 q_e (shlK .u32 1 (IntKind.wrap .u64 (Int.tmod i 32)))))
  )else (
   Zqh rec_ a b r__1 i q
  )
 )else (
  some (r_,q)
 )
def Zqg:Nat→(List Int)→(List Int)→(List Int)→Int→(List Int)→Option ((List Int)×(List Int))
 |0,_,_,_,_,_=>none
 |n_+1,a,b,r_,i,q=>ZqN (Zqg n_) a b r_ i q
def ZtT (n:Nat) (s:((List Int)×(List Int)×(List Int)×Int×(List Int))):Option ((List Int)×(List Int)):=Zqg n s.1 s.2.1 s.2.2.1 s.2.2.2.1 s.2.2.2.2
def Zr3 (rec_:((List Int)×(List Int)×(List Int)×Int×(List Int))→Option ((List Int)×(List Int))) (s:((List Int)×(List Int)×(List Int)×Int×(List Int))):Option ((List Int)×(List Int)):=ZqN (fun a b r_ i q=>rec_ (a,b,r_,i,q)) s.1 s.2.1 s.2.2.1 s.2.2.2.1 s.2.2.2.2
theorem ZvO:∀n s,ZtT (n+1) s=Zr3 (ZtT n) s:=fun _ _=>rfl
def Zqa (a:(List Int)) (b:(List Int)):Option ((List Int)×(List Int)):=
 chk (mkOk (a.length:Int) (a.length:Int) 4) <|
 chk (inK .i64 (32*(a.length:Int))) <|
 chk (inK .i64 ((32*(a.length:Int)) - 1)) <|
 (Zqg big a b ([]:(List Int)) ((32*(a.length:Int)) - 1) (List.replicate ((a.length:Int)).toNat (0:Int))).bind fun(x0,x1)=>ZsH x0 x1
def Zqf (num:ZnI) (den:ZnI):Option ZnG:=
 bif ((num.Words.length:Int) == 0)then (
  (ZoU 1).bind fun q=>
  some (ZnG.mk (ZnI.mk false ([]:(List Int))) q)
 )else (
  (Zrc num.Words den.Words).bind fun g=>
  (Zqa num.Words g).bind fun(x_,q_1)=>
  (Zqa den.Words g).bind fun(y,q_2)=>
  (Zo9 (!(num.Neg == den.Neg)) x_).bind fun q_3=>
  (Zo9 false y).bind fun q_4=>
  some (ZnG.mk q_3 q_4)
 )
def Zq7 (t13:Bool) (num:ZnI) (den:ZnI) (t4:Bool) (t4_1:Bool) (t4_2:(List Int)) (t4_3:(List Int)):Option (ZnG×Int):=
 bif t13 then (
  some ((ZnG.mk (ZnI.mk false ([]:(List Int))) (ZnI.mk false ([]:(List Int)))),1)
 )else (
  bif ((den.Words.length:Int) == 0)then (
   some ((ZnG.mk (ZnI.mk false ([]:(List Int))) (ZnI.mk false ([]:(List Int)))),8)
  )else (
   (Zqf num den).bind fun q=>
   some (q,0)
  )
 )
def ZqP (num:ZnI) (den:ZnI):Option (ZnG×Int):=
 (ZpN num).bind fun q=>
 bif (!q)then (
  Zq7 true num den false false ([]:(List Int)) ([]:(List Int))
 )else (
  (ZpN den).bind fun q_1=>
  Zq7 (!q_1) num den false false ([]:(List Int)) ([]:(List Int))
 )
def Zry (num:Int) (den:Int):Option (ZnG×Int):=
 (ZoU num).bind fun q=>
 (ZoU den).bind fun q_1=>
 (ZqP q q_1).bind fun(q_2,q_3)=>
 some (q_2,q_3)
def ZqK (n:Int) (d:Int):Option ZnG:=
 (Zry n d).bind fun(f,q)=>
 some f
def Zrb (n:Int):Option ZnG:=
 (ZqK n 1).bind fun q=>
 some q
def ZrH:Option Bool:=
 some true
def ZpT (rec_:(List Int)→Int→Int→ZnI→Option (Out Unit Bool)) (t22:(List Int)) (t23:Int) (i:Int) (b:ZnI):Option (Out Unit Bool):=
 bif (decide (i < t23))then (
  (idx t22 i).bind fun w_=>
  (idx b.Words i).bind fun Word=>
  bif (Word != w_)then (
   some (.ret false)
  )else (
   chk (inK .i64 (i+1)) <|
   rec_ t22 t23 (i+1) b
  )
 )else (
  some (.brk ())
 )
def Zqj:Nat→(List Int)→Int→Int→ZnI→Option (Out Unit Bool)
 |0,_,_,_,_=>none
 |n_+1,t22,t23,i,b=>ZpT (Zqj n_) t22 t23 i b
def Zs4 (n:Nat) (s:((List Int)×Int×Int×ZnI)):Option (Out Unit Bool):=Zqj n s.1 s.2.1 s.2.2.1 s.2.2.2
def Zrf (rec_:((List Int)×Int×Int×ZnI)→Option (Out Unit Bool)) (s:((List Int)×Int×Int×ZnI)):Option (Out Unit Bool):=ZpT (fun t22 t23 i b=>rec_ (t22,t23,i,b)) s.1 s.2.1 s.2.2.1 s.2.2.2
theorem Zu7:∀n s,Zs4 (n+1) s=Zrf (Zs4 n) s:=fun _ _=>rfl
def Zqk (t20:Bool) (a:ZnI) (b:ZnI):Option Bool:=
 bif t20 then (
  some false
 )else (
  (Zqj big a.Words (a.Words.length:Int) (0:Int) b).bind fun
   | .ret q_=>some q_
   | .brk ()=>ZrH
 )
def Zpt (a:ZnI) (b:ZnI):Option Bool:=
 bif (!(a.Neg == b.Neg))then (
  Zqk true a b
 )else (
  Zqk ((a.Words.length:Int) != (b.Words.length:Int)) a b
 )
def Zq6 (t4:Bool):Option Bool:=
 some t4
def ZpU (a:ZnG) (b:ZnG):Option Bool:=
 (Zpt a.Num b.Num).bind fun q=>
 bif q then (
  (Zpt a.Den b.Den).bind fun q_1=>
  Zq6 q_1
 )else (
  Zq6 false
 )
def Zr5:Option Bool:=
 (Ztk ([]:Str)).bind fun q=>
 some (q == 14695981039346656037)
def ZpO (rec_:(List ZnA)→Int→Int→Option (Out Unit Bool)) (t42:(List ZnA)) (t43:Int) (t44:Int) (t62:Bool):Option (Out Unit Bool):=
 bif t62 then (
  some (.ret false)
 )else (
  chk (inK .i64 (t44+1)) <|
  rec_ t42 t43 (t44+1)
 )
def Zqn (rec_:(List ZnA)→Int→Int→Option (Out Unit Bool)) (t42:(List ZnA)) (t43:Int) (t44:Int):Option (Out Unit Bool):=
 bif (decide (t44 < t43))then (
  (idx t42 t44).bind fun x_=>
  bif (x_.Key == ([97]:Str))then (
   bif (x_.Count != 2)then (
    ZpO rec_ t42 t43 t44 true
   )else (
    (Zrb 3).bind fun q=>
    (ZpU x_.Sum q).bind fun q_1=>
    ZpO rec_ t42 t43 t44 (!q_1)
   )
  )else (
   ZpO rec_ t42 t43 t44 false
  )
 )else (
  some (.brk ())
 )
def Zpc:Nat→(List ZnA)→Int→Int→Option (Out Unit Bool)
 |0,_,_,_=>none
 |n_+1,t42,t43,t44=>Zqn (Zpc n_) t42 t43 t44
def Zts (n:Nat) (s:((List ZnA)×Int×Int)):Option (Out Unit Bool):=Zpc n s.1 s.2.1 s.2.2
def ZrJ (rec_:((List ZnA)×Int×Int)→Option (Out Unit Bool)) (s:((List ZnA)×Int×Int)):Option (Out Unit Bool):=Zqn (fun t42 t43 t44=>rec_ (t42,t43,t44)) s.1 s.2.1 s.2.2
theorem Zvk:∀n s,Zts (n+1) s=ZrJ (Zts n) s:=fun _ _=>rfl
def Zpd (t40:Bool) (s:ZnC):Option Bool:=
 bif t40 then (
  some false
 )else (
  (Zpc big s.Entries (s.Entries.length:Int) (0:Int)).bind fun
   | .ret q_=>some q_
   | .brk ()=>Zr5
 )
def ZpH:Option Bool:=
 (Zst (ZnL.mk ([]:Str) ([(ZnE.mk false ([97]:Str)),(ZnE.mk false ([97]:Str)),(ZnE.mk false ([98]:Str))]:(List ZnE))) (ZnL.mk ([]:Str) ([(ZnE.mk false ([49]:Str)),(ZnE.mk false ([50]:Str)),(ZnE.mk false ([53]:Str))]:(List ZnE))) 10).bind fun(s,e)=>
 bif (e != 0)then (
  Zpd true s
 )else (
  bif (!s.All)then (
   Zpd true s
  )else (
   bif ((s.Entries.length:Int) != 2)then (
    Zpd true s
   )else (
    (ZqJ s).bind fun q=>
    Zpd (!q) s
   )
  )
 )
def Zss (t:(List Int)):Option ZnF:=
 some (ZnF.mk t 0)
def Zp5 (n:Int) (m:Int):Option Int:=
 bif (decide (m < 1))then (
  some (0:Int)
 )else (
  chk (decide (m≠0)) <|
  chk (inK .i64 ((Int.tmod n m)+m)) <|
  chk (decide (m≠0)) <|
  some (Int.tmod ((Int.tmod n m)+m) m)
 )
def Zod (d:ZnF) (n:Int):Option (Int×ZnF):=
 bif (decide (d.at_≥(d.l.length:Int)))then (
  some (0,d)
 )else (
  chk (inK .i64 (d.at_+1)) <|
  chk (inK .i64 ((d.at_+1) - 1)) <|
  (idx d.l ((d.at_+1) - 1)).bind fun l_e=>
  (Zp5 l_e n).bind fun q=>
  some (q,(ZnF.mk d.l (d.at_+1)))
 )
def ZoE (d:ZnF) (l:(List Str)):Option (Str×ZnF):=
 (Zod d (l.length:Int)).bind fun(q,t6)=>
 (idx l q).bind fun l_e=>
 some (l_e,t6)
def Zrz (d:ZnF):Option (ZnE×ZnF):=
 (Zod d 7).bind fun(q,t3)=>
 bif (q == 1)then (
  some ((ZnE.mk true ([]:Str)),t3)
 )else (
  (ZoE t3 ([([97]:Str),([98]:Str),([99]:Str),([49]:Str),([50]:Str),([51]:Str),([49,48]:Str),([120]:Str),([45,49,46,53]:Str),([50]:Str)]:(List Str))).bind fun(q_1,t7)=>
  some ((ZnE.mk false q_1),t7)
 )
def Ztz (n:Int):Option Str:=
 some (Lib.itoa n)
def ZqQ (d:ZnF):Option (ZnE×ZnF):=
 (Zod d 9).bind fun(q,t3)=>
 bif (q == 1)then (
  some ((ZnE.mk true ([]:Str)),t3)
 )else (
  bif (q == 2)then (
   (ZoE t3 ([([120]:Str),([]:Str),([49,46,50,46,51]:Str),([49,46,53,48]:Str)]:(List Str))).bind fun(q_1,t10)=>
   some ((ZnE.mk false q_1),t10)
  )else (
   (Zod t3 12).bind fun(q_2,t14)=>
   chk (inK .i64 (q_2 - 3)) <|
   (Ztz (q_2 - 3)).bind fun q_3=>
   some ((ZnE.mk false q_3),t14)
  )
 )
def Zsm (d:ZnF) (t4:Str) (c:Str) (t4_1:(List ZnE)) (c_1:(List ZnE)):Option (ZnL×ZnF):=
 some ((ZnL.mk c c_1),d)
def ZoV (rec_:Int→Int→Int→ZnF→Str→Str→(List ZnE)→(List ZnE)→Option (ZnF×Str×Str×(List ZnE)×(List ZnE))) (kind:Int) (t15:Int) (i:Int) (d:ZnF) (t4:Str) (c:Str) (x_:ZnE) (t4_1:(List ZnE)) (c_1:(List ZnE)):Option (ZnF×Str×Str×(List ZnE)×(List ZnE)):=
 chk (ZiZ (c_1.length+([x_]:(List ZnE)).length) 24) <|
 chk (inK .i64 (i+1)) <|
 rec_ kind t15 (i+1) d t4 c t4_1 (c_1++([x_]:(List ZnE)))
def ZqI (rec_:Int→Int→Int→ZnF→Str→Str→(List ZnE)→(List ZnE)→Option (ZnF×Str×Str×(List ZnE)×(List ZnE))) (kind:Int) (t15:Int) (i:Int) (d:ZnF) (t4:Str) (c:Str) (t4_1:(List ZnE)) (c_1:(List ZnE)):Option (ZnF×Str×Str×(List ZnE)×(List ZnE)):=
 bif (decide (i < t15))then (
  (Zrz d).bind fun(x_,t19)=>
  bif (kind == 0)then (
   (ZqQ t19).bind fun(x__1,t24)=>
   ZoV rec_ kind t15 i t24 t4 c x__1 t4_1 c_1
  )else (
   bif (kind == 1)then (
    (Ztz i).bind fun q=>
    chk (decide (([107]:Str).length+q.length≤Zq)) <|
    ZoV rec_ kind t15 i t19 t4 c (ZnE.mk false (([107]:Str)++q)) t4_1 c_1
   )else (
    bif (kind == 2)then (
     (ZoE t19 ([([97]:Str),([98]:Str),([99]:Str),([100]:Str)]:(List Str))).bind fun(q_1,t34)=>
     ZoV rec_ kind t15 i t34 t4 c (ZnE.mk false q_1) t4_1 c_1
    )else (
     ZoV rec_ kind t15 i t19 t4 c x_ t4_1 c_1
    )
   )
  )
 )else (
  some (d,t4,c,t4_1,c_1)
 )
def Zp3:Nat→Int→Int→Int→ZnF→Str→Str→(List ZnE)→(List ZnE)→Option (ZnF×Str×Str×(List ZnE)×(List ZnE))
 |0,_,_,_,_,_,_,_,_=>none
 |n_+1,kind,t15,i,d,t4,c,t4_1,c_1=>ZqI (Zp3 n_) kind t15 i d t4 c t4_1 c_1
def ZtG (n:Nat) (s:(Int×Int×Int×ZnF×Str×Str×(List ZnE)×(List ZnE))):Option (ZnF×Str×Str×(List ZnE)×(List ZnE)):=Zp3 n s.1 s.2.1 s.2.2.1 s.2.2.2.1 s.2.2.2.2.1 s.2.2.2.2.2.1 s.2.2.2.2.2.2.1 s.2.2.2.2.2.2.2
def ZrR (rec_:(Int×Int×Int×ZnF×Str×Str×(List ZnE)×(List ZnE))→Option (ZnF×Str×Str×(List ZnE)×(List ZnE))) (s:(Int×Int×Int×ZnF×Str×Str×(List ZnE)×(List ZnE))):Option (ZnF×Str×Str×(List ZnE)×(List ZnE)):=ZqI (fun kind t15 i d t4 c t4_1 c_1=>rec_ (kind,t15,i,d,t4,c,t4_1,c_1)) s.1 s.2.1 s.2.2.1 s.2.2.2.1 s.2.2.2.2.1 s.2.2.2.2.2.1 s.2.2.2.2.2.2.1 s.2.2.2.2.2.2.2
theorem Zvz:∀n s,ZtG (n+1) s=ZrR (ZtG n) s:=fun _ _=>rfl
def ZpW (d:ZnF) (rows:Int):Option (ZnL×ZnF):=
 (ZoE d ([([105,100]:Str),([110,97,109,101]:Str),([85,110,105,116,32,80,114,105,99,101]:Str),([99,105,116,121]:Str),([117,110,105,116]:Str),([112,114,105,99,101]:Str),([105,100,50]:Str),([]:Str)]:(List Str))).bind fun(q,t9)=>
 (Zod t9 5).bind fun(kind,t13)=>
 (Zp3 big kind rows (0:Int) t13 ([]:Str) q ([]:(List ZnE)) ([]:(List ZnE))).bind fun(x0,x1,x2,x3,x4)=>Zsm x0 x1 x2 x3 x4
def ZnQ (t6:Int) (t7:Bool):Option (Int×Bool):=
 some (t6,t7)
def Zn0 (x_:(List ZnA)) (n:Int) (i:Int) (target:ZnA):Option (Int×Bool):=
 bif (decide (i < n))then (
  (idx x_ i).bind fun x__e=>
  (Zor x__e target).bind fun q=>
  ZnQ i (q == 0)
 )else (
  ZnQ i false
 )
def ZnZ (rec_:(List ZnA)→Int→Int→Int→ZnA→Option ((List ZnA)×Int×Int×ZnA)) (x_:(List ZnA)) (n:Int) (i:Int) (j:Int) (target:ZnA):Option ((List ZnA)×Int×Int×ZnA):=
 bif (decide (i < j))then (
  chk (inK .i64 (i+j)) <|
  chk (decide (0≤(1:Int))) <|
  (idx x_ (IntKind.wrap .i64 (shrK .u64 (IntKind.wrap .u64 (i+j)) 1))).bind fun x__e=>
  (Zor x__e target).bind fun q=>
  bif (decide (q < 0))then (
   chk (inK .i64 ((IntKind.wrap .i64 (shrK .u64 (IntKind.wrap .u64 (i+j)) 1))+1)) <|
   rec_ x_ n ((IntKind.wrap .i64 (shrK .u64 (IntKind.wrap .u64 (i+j)) 1))+1) j target
  )else (
   rec_ x_ n i (IntKind.wrap .i64 (shrK .u64 (IntKind.wrap .u64 (i+j)) 1)) target
  )
 )else (
  some (x_,n,i,target)
 )
def ZnP:Nat→(List ZnA)→Int→Int→Int→ZnA→Option ((List ZnA)×Int×Int×ZnA)
 |0,_,_,_,_,_=>none
 |n_+1,x_,n,i,j,target=>ZnZ (ZnP n_) x_ n i j target
def Zom (n:Nat) (s:((List ZnA)×Int×Int×Int×ZnA)):Option ((List ZnA)×Int×Int×ZnA):=ZnP n s.1 s.2.1 s.2.2.1 s.2.2.2.1 s.2.2.2.2
def Zon (rec_:((List ZnA)×Int×Int×Int×ZnA)→Option ((List ZnA)×Int×Int×ZnA)) (s:((List ZnA)×Int×Int×Int×ZnA)):Option ((List ZnA)×Int×Int×ZnA):=ZnZ (fun x_ n i j target=>rec_ (x_,n,i,j,target)) s.1 s.2.1 s.2.2.1 s.2.2.2.1 s.2.2.2.2
theorem ZpC:∀n s,Zom (n+1) s=Zon (Zom n) s:=fun _ _=>rfl
def ZnR (x_:(List ZnA)) (target:ZnA):Option (Int×Bool):=
 (ZnP big x_ (x_.length:Int) (0:Int) (x_.length:Int) target).bind fun(x0,x1,x2,x3)=>Zn0 x0 x1 x2 x3
def Ztg (s:ZnC) (e:ZnA):Option (ZnA×Bool):=
 (ZnR s.Entries e).bind fun(i,ok)=>
 bif (!ok)then (
  some ((ZnA.mk ([]:Str) 0 0 (ZnG.mk (ZnI.mk false ([]:(List Int))) (ZnI.mk false ([]:(List Int))))),false)
 )else (
  (idx s.Entries i).bind fun Entrie=>
  some (Entrie,true)
 )
def ZrC (t4:Bool):Option Bool:=
 some t4
def ZpP (s:ZnC) (e:ZnA):Option Bool:=
 bif (!s.All)then (
  chk (inK .i64 ((s.Entries.length:Int) - 1)) <|
  (idx s.Entries ((s.Entries.length:Int) - 1)).bind fun Entrie=>
  (Zor e Entrie).bind fun q=>
  ZrC (decide (q > 0))
 )else (
  ZrC false
 )
def Zvl (f:ZnG):Option ZnG:=
 chk (ZiZ f.Num.Words.length 4) <|
 chk (ZiZ f.Den.Words.length 4) <|
 some f
def Zug (t4:Int) (t4_1:Bool) (out:ZnC) (t4_2:(List ZnA)):Option (ZnC×Int):=
 some (out,0)
def Zvb (t4:Int) (t4_1:Bool) (out:Int) (out_1:Bool) (t4_2:(List ZnA)) (out_2:(List ZnA)):Option (ZnC×Int):=
 (ZnT out_2).bind fun t114=>
 bif (decide ((t114.length:Int) > out))then (
  chk (Zb9 0 out (t114.length:Int)) <|
  Zug t4 t4_1 (ZnC.mk out false ((t114.drop 0).take ((out).toNat - 0))) t4_2
 )else (
  Zug t4 t4_1 (ZnC.mk out out_1 t114) t4_2
 )
def Zuh (rec_:(List ZnA)→Int→Int→ZnC→Int→Bool→Int→Bool→(List ZnA)→(List ZnA)→Option (Int×Bool×Int×Bool×(List ZnA)×(List ZnA))) (t82:(List ZnA)) (t83:Int) (t84:Int) (a:ZnC) (t4:Int) (t4_1:Bool) (out:Int) (out_1:Bool) (t4_2:(List ZnA)) (out_2:(List ZnA)):Option (Int×Bool×Int×Bool×(List ZnA)×(List ZnA)):=
 chk (inK .i64 (t84+1)) <|
 rec_ t82 t83 (t84+1) a t4 t4_1 out out_1 t4_2 out_2
def Zui (rec_:(List ZnA)→Int→Int→ZnC→Int→Bool→Int→Bool→(List ZnA)→(List ZnA)→Option (Int×Bool×Int×Bool×(List ZnA)×(List ZnA))) (t82:(List ZnA)) (t83:Int) (t84:Int) (t101:Bool) (a:ZnC) (t4:Int) (t4_1:Bool) (out:Int) (out_1:Bool) (e:ZnA) (t4_2:(List ZnA)) (out_2:(List ZnA)):Option (Int×Bool×Int×Bool×(List ZnA)×(List ZnA)):=
 bif t101 then (
  (Zvl e.Sum).bind fun q=>
  chk (ZiZ (out_2.length+([(ZnA.mk e.Key e.Hash e.Count q)]:(List ZnA)).length) 96) <|
  Zuh rec_ t82 t83 t84 a t4 t4_1 out out_1 t4_2 (out_2++([(ZnA.mk e.Key e.Hash e.Count q)]:(List ZnA)))
 )else (
  Zuh rec_ t82 t83 t84 a t4 t4_1 out out_1 t4_2 out_2
 )
def Zti (rec_:(List ZnA)→Int→Int→ZnC→Int→Bool→Int→Bool→(List ZnA)→(List ZnA)→Option (Int×Bool×Int×Bool×(List ZnA)×(List ZnA))) (t82:(List ZnA)) (t83:Int) (t84:Int) (a:ZnC) (t4:Int) (t4_1:Bool) (out:Int) (out_1:Bool) (t4_2:(List ZnA)) (out_2:(List ZnA)):Option (Int×Bool×Int×Bool×(List ZnA)×(List ZnA)):=
 bif (decide (t84 < t83))then (
  (idx t82 t84).bind fun e=>
  (Ztg a e).bind fun(q,ok)=>
  bif (!ok)then (
   (ZpP a e).bind fun q_1=>
   Zui rec_ t82 t83 t84 (!q_1) a t4 t4_1 out out_1 e t4_2 out_2
  )else (
   Zui rec_ t82 t83 t84 false a t4 t4_1 out out_1 e t4_2 out_2
  )
 )else (
  some (t4,t4_1,out,out_1,t4_2,out_2)
 )
def Zrh:Nat→(List ZnA)→Int→Int→ZnC→Int→Bool→Int→Bool→(List ZnA)→(List ZnA)→Option (Int×Bool×Int×Bool×(List ZnA)×(List ZnA))
 |0,_,_,_,_,_,_,_,_,_,_=>none
 |n_+1,t82,t83,t84,a,t4,t4_1,out,out_1,t4_2,out_2=>Zti (Zrh n_) t82 t83 t84 a t4 t4_1 out out_1 t4_2 out_2
def Zv1 (n:Nat) (s:((List ZnA)×Int×Int×ZnC×Int×Bool×Int×Bool×(List ZnA)×(List ZnA))):Option (Int×Bool×Int×Bool×(List ZnA)×(List ZnA)):=Zrh n s.1 s.2.1 s.2.2.1 s.2.2.2.1 s.2.2.2.2.1 s.2.2.2.2.2.1 s.2.2.2.2.2.2.1 s.2.2.2.2.2.2.2.1 s.2.2.2.2.2.2.2.2.1 s.2.2.2.2.2.2.2.2.2
def ZuL (rec_:((List ZnA)×Int×Int×ZnC×Int×Bool×Int×Bool×(List ZnA)×(List ZnA))→Option (Int×Bool×Int×Bool×(List ZnA)×(List ZnA))) (s:((List ZnA)×Int×Int×ZnC×Int×Bool×Int×Bool×(List ZnA)×(List ZnA))):Option (Int×Bool×Int×Bool×(List ZnA)×(List ZnA)):=Zti (fun t82 t83 t84 a t4 t4_1 out out_1 t4_2 out_2=>rec_ (t82,t83,t84,a,t4,t4_1,out,out_1,t4_2,out_2)) s.1 s.2.1 s.2.2.1 s.2.2.2.1 s.2.2.2.2.1 s.2.2.2.2.2.1 s.2.2.2.2.2.2.1 s.2.2.2.2.2.2.2.1 s.2.2.2.2.2.2.2.2.1 s.2.2.2.2.2.2.2.2.2
theorem Zw1:∀n s,Zv1 (n+1) s=ZuL (Zv1 n) s:=fun _ _=>rfl
def Zvc (a:ZnC) (b:ZnC) (t4:Int) (t4_1:Bool) (out:Int) (out_1:Bool) (t4_2:(List ZnA)) (out_2:(List ZnA)):Option (ZnC×Int):=
 (Zrh big b.Entries (b.Entries.length:Int) (0:Int) a t4 t4_1 out out_1 t4_2 out_2).bind fun(x0,x1,x2,x3,x4,x5)=>Zvb x0 x1 x2 x3 x4 x5
def Zuj (rec_:(List ZnA)→Int→Int→ZnC→ZnC→Int→Bool→Int→Bool→(List ZnA)→(List ZnA)→Option (ZnC×ZnC×Int×Bool×Int×Bool×(List ZnA)×(List ZnA))) (t42:(List ZnA)) (t43:Int) (t44:Int) (a:ZnC) (b:ZnC) (t4:Int) (t4_1:Bool) (out:Int) (out_1:Bool) (t4_2:(List ZnA)) (out_2:(List ZnA)):Option (ZnC×ZnC×Int×Bool×Int×Bool×(List ZnA)×(List ZnA)):=
 chk (inK .i64 (t44+1)) <|
 rec_ t42 t43 (t44+1) a b t4 t4_1 out out_1 t4_2 out_2
def Zuk (rec_:(List ZnA)→Int→Int→ZnC→ZnC→Int→Bool→Int→Bool→(List ZnA)→(List ZnA)→Option (ZnC×ZnC×Int×Bool×Int×Bool×(List ZnA)×(List ZnA))) (t42:(List ZnA)) (t43:Int) (t44:Int) (a:ZnC) (b:ZnC) (t4:Int) (t4_1:Bool) (out:Int) (out_1:Bool) (e:ZnA) (t4_2:(List ZnA)) (out_2:(List ZnA)):Option (ZnC×ZnC×Int×Bool×Int×Bool×(List ZnA)×(List ZnA)):=
 (Zvl e.Sum).bind fun q=>
 chk (ZiZ (out_2.length+([(ZnA.mk e.Key e.Hash e.Count q)]:(List ZnA)).length) 96) <|
 Zuj rec_ t42 t43 t44 a b t4 t4_1 out out_1 t4_2 (out_2++([(ZnA.mk e.Key e.Hash e.Count q)]:(List ZnA)))
def Ztj (rec_:(List ZnA)→Int→Int→ZnC→ZnC→Int→Bool→Int→Bool→(List ZnA)→(List ZnA)→Option (ZnC×ZnC×Int×Bool×Int×Bool×(List ZnA)×(List ZnA))) (t42:(List ZnA)) (t43:Int) (t44:Int) (a:ZnC) (b:ZnC) (t4:Int) (t4_1:Bool) (out:Int) (out_1:Bool) (t4_2:(List ZnA)) (out_2:(List ZnA)):Option (ZnC×ZnC×Int×Bool×Int×Bool×(List ZnA)×(List ZnA)):=
 bif (decide (t44 < t43))then (
  (idx t42 t44).bind fun e=>
  (Ztg b e).bind fun(f,ok)=>
  bif ok then (
   chk (inK .i64 (e.Count+f.Count)) <|
   (Zwr e.Sum f.Sum).bind fun q=>
   Zuk rec_ t42 t43 t44 a b t4 t4_1 out out_1 (ZnA.mk e.Key e.Hash (e.Count+f.Count) q) t4_2 out_2
  )else (
   (ZpP b e).bind fun q_1=>
   bif q_1 then (
    Zuj rec_ t42 t43 t44 a b t4 t4_1 out out_1 t4_2 out_2
   )else (
    Zuk rec_ t42 t43 t44 a b t4 t4_1 out out_1 e t4_2 out_2
   )
  )
 )else (
  some (a,b,t4,t4_1,out,out_1,t4_2,out_2)
 )
def Zri:Nat→(List ZnA)→Int→Int→ZnC→ZnC→Int→Bool→Int→Bool→(List ZnA)→(List ZnA)→Option (ZnC×ZnC×Int×Bool×Int×Bool×(List ZnA)×(List ZnA))
 |0,_,_,_,_,_,_,_,_,_,_,_=>none
 |n_+1,t42,t43,t44,a,b,t4,t4_1,out,out_1,t4_2,out_2=>Ztj (Zri n_) t42 t43 t44 a b t4 t4_1 out out_1 t4_2 out_2
def Zv2 (n:Nat) (s:((List ZnA)×Int×Int×ZnC×ZnC×Int×Bool×Int×Bool×(List ZnA)×(List ZnA))):Option (ZnC×ZnC×Int×Bool×Int×Bool×(List ZnA)×(List ZnA)):=Zri n s.1 s.2.1 s.2.2.1 s.2.2.2.1 s.2.2.2.2.1 s.2.2.2.2.2.1 s.2.2.2.2.2.2.1 s.2.2.2.2.2.2.2.1 s.2.2.2.2.2.2.2.2.1 s.2.2.2.2.2.2.2.2.2.1 s.2.2.2.2.2.2.2.2.2.2
def ZuM (rec_:((List ZnA)×Int×Int×ZnC×ZnC×Int×Bool×Int×Bool×(List ZnA)×(List ZnA))→Option (ZnC×ZnC×Int×Bool×Int×Bool×(List ZnA)×(List ZnA))) (s:((List ZnA)×Int×Int×ZnC×ZnC×Int×Bool×Int×Bool×(List ZnA)×(List ZnA))):Option (ZnC×ZnC×Int×Bool×Int×Bool×(List ZnA)×(List ZnA)):=Ztj (fun t42 t43 t44 a b t4 t4_1 out out_1 t4_2 out_2=>rec_ (t42,t43,t44,a,b,t4,t4_1,out,out_1,t4_2,out_2)) s.1 s.2.1 s.2.2.1 s.2.2.2.1 s.2.2.2.2.1 s.2.2.2.2.2.1 s.2.2.2.2.2.2.1 s.2.2.2.2.2.2.2.1 s.2.2.2.2.2.2.2.2.1 s.2.2.2.2.2.2.2.2.2.1 s.2.2.2.2.2.2.2.2.2.2
theorem Zw2:∀n s,Zv2 (n+1) s=ZuM (Zv2 n) s:=fun _ _=>rfl
def Zs5 (a:ZnC) (b:ZnC) (t4:Int) (t4_1:Bool) (out:Int) (out_1:Bool) (t4_2:(List ZnA)) (out_2:(List ZnA)):Option (ZnC×Int):=
 (Zri big a.Entries (a.Entries.length:Int) (0:Int) a b t4 t4_1 out out_1 t4_2 out_2).bind fun(x0,x1,x2,x3,x4,x5,x6,x7)=>Zvc x0 x1 x2 x3 x4 x5 x6 x7
def Zul (t15:Bool) (a:ZnC) (b:ZnC) (t4:Int) (t4_1:Bool) (t4_2:(List ZnA)):Option (ZnC×Int):=
 bif t15 then (
  some ((ZnC.mk 0 false ([]:(List ZnA))),1)
 )else (
  bif (a.K != b.K)then (
   some ((ZnC.mk 0 false ([]:(List ZnA))),2)
  )else (
   bif a.All then (
    Zs5 a b t4 t4_1 a.K b.All t4_2 ([]:(List ZnA))
   )else (
    Zs5 a b t4 t4_1 a.K false t4_2 ([]:(List ZnA))
   )
  )
 )
def ZtA (a:ZnC) (b:ZnC):Option (ZnC×Int):=
 (ZqJ a).bind fun q=>
 bif (!q)then (
  Zul true a b (0:Int) false ([]:(List ZnA))
 )else (
  (ZqJ b).bind fun q_1=>
  Zul (!q_1) a b (0:Int) false ([]:(List ZnA))
 )
def Zsj:Option Bool:=
 some true
def Zps (rec_:(List ZnA)→Int→Int→ZnC→Option (Out Unit Bool)) (t30:(List ZnA)) (t31:Int) (i:Int) (t68:Bool) (b:ZnC):Option (Out Unit Bool):=
 bif t68 then (
  some (.ret false)
 )else (
  chk (inK .i64 (i+1)) <|
  rec_ t30 t31 (i+1) b
 )
def ZqG (rec_:(List ZnA)→Int→Int→ZnC→Option (Out Unit Bool)) (t30:(List ZnA)) (t31:Int) (i:Int) (b:ZnC):Option (Out Unit Bool):=
 bif (decide (i < t31))then (
  (idx t30 i).bind fun e=>
  (idx b.Entries i).bind fun x_=>
  bif (!(e.Key == x_.Key))then (
   Zps rec_ t30 t31 i true b
  )else (
   bif (e.Hash != x_.Hash)then (
    Zps rec_ t30 t31 i true b
   )else (
    bif (e.Count != x_.Count)then (
     Zps rec_ t30 t31 i true b
    )else (
     (ZpU e.Sum x_.Sum).bind fun q=>
     Zps rec_ t30 t31 i (!q) b
    )
   )
  )
 )else (
  some (.brk ())
 )
def Zpr:Nat→(List ZnA)→Int→Int→ZnC→Option (Out Unit Bool)
 |0,_,_,_,_=>none
 |n_+1,t30,t31,i,b=>ZqG (Zpr n_) t30 t31 i b
def ZtD (n:Nat) (s:((List ZnA)×Int×Int×ZnC)):Option (Out Unit Bool):=Zpr n s.1 s.2.1 s.2.2.1 s.2.2.2
def ZrP (rec_:((List ZnA)×Int×Int×ZnC)→Option (Out Unit Bool)) (s:((List ZnA)×Int×Int×ZnC)):Option (Out Unit Bool):=ZqG (fun t30 t31 i b=>rec_ (t30,t31,i,b)) s.1 s.2.1 s.2.2.1 s.2.2.2
theorem Zvx:∀n s,ZtD (n+1) s=ZrP (ZtD n) s:=fun _ _=>rfl
def Zp0 (t28:Bool) (a:ZnC) (b:ZnC):Option Bool:=
 bif t28 then (
  some false
 )else (
  (Zpr big a.Entries (a.Entries.length:Int) (0:Int) b).bind fun
   | .ret q_=>some q_
   | .brk ()=>Zsj
 )
def Zpu (a:ZnC) (b:ZnC):Option Bool:=
 bif (a.K != b.K)then (
  Zp0 true a b
 )else (
  bif (!(a.All == b.All))then (
   Zp0 true a b
  )else (
   Zp0 ((a.Entries.length:Int) != (b.Entries.length:Int)) a b
  )
 )
def ZnS (t6:Bool):Option Bool:=
 some t6
def ZpV (t:(List Int)) (k:Int) (cut_:Int):Option Bool:=
 (Zsf t).bind fun q=>
 bif (!q)then (
  (ZpH).bind fun q_1=>
  some q_1
 )else (
  (Zss t).bind fun d=>
  (Zod d 14).bind fun(n,t29)=>
  (ZpW t29 n).bind fun(key,t31)=>
  (ZpW t31 n).bind fun(value,t34)=>
  (Zp5 k 5).bind fun q_2=>
  chk (inK .i64 (1+q_2)) <|
  chk (inK .i64 (n+1)) <|
  (Zp5 cut_ (n+1)).bind fun c=>
  chk (Zb9 0 c (key.Cells.length:Int)) <|
  chk (Zb9 0 c (value.Cells.length:Int)) <|
  (Zst (ZnL.mk ([]:Str) (key.Cells.take (c).toNat)) (ZnL.mk ([]:Str) (value.Cells.take (c).toNat)) (1+q_2)).bind fun(a,e)=>
  chk (Zb9 c (key.Cells.length:Int) (key.Cells.length:Int)) <|
  chk (Zb9 c (value.Cells.length:Int) (value.Cells.length:Int)) <|
  (Zst (ZnL.mk ([]:Str) (key.Cells.drop (c).toNat)) (ZnL.mk ([]:Str) (value.Cells.drop (c).toNat)) (1+q_2)).bind fun(b,f)=>
  (Zst key value (1+q_2)).bind fun(all,g)=>
  (ZtA a b).bind fun(x_,h_)=>
  (ZtA b a).bind fun(y,i)=>
  bif (e == 0)then (
   bif (f == 0)then (
    bif (g == 0)then (
     bif (h_ == 0)then (
      bif (i == 0)then (
       (Zpu x_ all).bind fun q_3=>
       bif q_3 then (
        (Zpu y all).bind fun q_4=>
        bif q_4 then (
         (ZpH).bind fun q_5=>
         ZnS q_5
        )else (
         ZnS false
        )
       )else (
        ZnS false
       )
      )else (
       ZnS false
      )
     )else (
      ZnS false
     )
    )else (
     ZnS false
    )
   )else (
    ZnS false
   )
  )else (
   ZnS false
  )
 )
end
end Go.Proofs
