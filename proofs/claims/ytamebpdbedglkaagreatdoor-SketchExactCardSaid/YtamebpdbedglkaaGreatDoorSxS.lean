/- Printed by wip/tools/tgen.py: specs. -/
import Derived.Test.YtamebpdbedglkaaGreatDoorE4
import Derived.Lib.Bytealg
import Derived.Lib.ItoaNum
import Derived.Lib.SlTrimSet
import Derived.Shelf.Strconv.Itoa3
set_option linter.unusedVariables false
set_option linter.unusedSimpArgs false
set_option linter.unusedSectionVars false
namespace Go.Proofs
open Go Eng
set_option maxRecDepth 100000
noncomputable section
structure ZnC where
 Null:Bool
 Text:Str
 deriving DecidableEq,Inhabited
structure ZnD where
 Name:Str
 Cells:(List ZnC)
 deriving DecidableEq,Inhabited
structure ZnF where
 Neg:Bool
 Words:(List Int)
 deriving DecidableEq,Inhabited
structure ZnB where
 Num:ZnF
 Den:ZnF
 deriving DecidableEq,Inhabited
structure ZnA where
 Key:Str
 Hash:Int
 Count:Int
 Sum:ZnB
 deriving DecidableEq,Inhabited
structure ZnI where
 K:Int
 All:Bool
 Entries:(List ZnA)
 deriving DecidableEq,Inhabited
structure Zpj where
 word:Str
 canonical:(Option Nat)
 value:(Option Nat)
 deriving DecidableEq,Inhabited
structure ZnH where
 l:(List Int)
 at_:Int
 deriving DecidableEq,Inhabited
def Zw1:Nat→Type
 |0=>ZnC
 |1=>ZnD
 |2=>ZnF
 |3=>ZnB
 |4=>ZnA
 |5=>ZnI
 |6=>Zpj
 |7=>ZnH
 |_=>Unit
def ZGK:Nat→Nat
 |0=>2
 |1=>2
 |2=>2
 |3=>4
 |4=>7
 |5=>3
 |6=>3
 |7=>2
 |_=>0
def Zze:List (Lf Zw1):=[⟨.sl (.int .u32),([1]:List Int)⟩]
def Zwl:List (Lf Zw1):=(Lib.pow10Tab.map fun n=>⟨.int .u64,n⟩)
def Ztu (t:(List Int)):Option Bool:=
 some (decide ((t.length:Int)≤500))
def Zvu (w_:(List Int)):Option (List Int):=
 some w_
def ZtQ (rec_:(List Int)→Option (List Int)) (w_:(List Int)) (t14:Bool):Option (List Int):=
 bif t14 then (
  chk (inK .i64 ((w_.length:Int) - 1)) <|
  chk (Zb9 0 ((w_.length:Int) - 1) (w_.length:Int)) <|
  rec_ (w_.take (((w_.length:Int) - 1)).toNat)
 )else (
  some w_
 )
def ZsY (rec_:(List Int)→Option (List Int)) (w_:(List Int)):Option (List Int):=
 bif (decide ((w_.length:Int) > 0))then (
  chk (inK .i64 ((w_.length:Int) - 1)) <|
  (idx w_ ((w_.length:Int) - 1)).bind fun w__e=>
  ZtQ rec_ w_ (w__e == 0)
 )else (
  ZtQ rec_ w_ false
 )
def ZpA:Nat→(List Int)→Option (List Int)
 |0,_=>none
 |n_+1,w_=>ZsY (ZpA n_) w_
def Zwu (n:Nat) (s:(List Int)):Option (List Int):=ZpA n s
def Zwv (rec_:(List Int)→Option (List Int)) (s:(List Int)):Option (List Int):=ZsY (fun w_=>rec_ w_) s
theorem Zx5:∀n s,Zwu (n+1) s=Zwv (Zwu n) s:=fun _ _=>rfl
def Zor (w_:(List Int)):Option (List Int):=
 (ZpA big w_).bind fun x0=>Zvu x0
def ZrF (n:Int):Option (List Int):=
 chk (decide (0≤(32:Int))) <|
 (Zor ([(IntKind.wrap .u32 n),(IntKind.wrap .u32 (shrK .u64 n 32))]:(List Int))).bind fun q=>
 some q
def Zuo (t4:Bool) (t4_1:(List Int)):Option ZnF:=
 some (ZnF.mk t4 t4_1)
def ZoA (neg:Bool) (w_:(List Int)):Option ZnF:=
 bif neg then (
  chk (ZiZ w_.length 4) <|
  Zuo (decide ((w_.length:Int) > 0)) w_
 )else (
  chk (ZiZ w_.length 4) <|
  Zuo false w_
 )
def Zsv (n:Int):Option ZnF:=
 bif (decide (n < 0))then (
  (ZrF (IntKind.wrap .u64 (0 - (IntKind.wrap .u64 n)))).bind fun q=>
  (ZoA true q).bind fun q_1=>
  some q_1
 )else (
  (ZrF (IntKind.wrap .u64 n)).bind fun q_2=>
  (ZoA false q_2).bind fun q_3=>
  some q_3
 )
def Zpi (t2:Bool):Option Bool:=
 some t2
def Zr8 (a:ZnF):Option Bool:=
 bif (decide ((a.Words.length:Int)≤256))then (
  bif ((a.Words.length:Int) == 0)then (
   bif (!a.Neg)then (
    Zpi true
   )else (
    bif (decide ((a.Words.length:Int) > 0))then (
     chk (inK .i64 ((a.Words.length:Int) - 1)) <|
     (idx a.Words ((a.Words.length:Int) - 1)).bind fun Word=>
     Zpi (Word != 0)
    )else (
     Zpi false
    )
   )
  )else (
   bif (decide ((a.Words.length:Int) > 0))then (
    chk (inK .i64 ((a.Words.length:Int) - 1)) <|
    (idx a.Words ((a.Words.length:Int) - 1)).bind fun Word_1=>
    Zpi (Word_1 != 0)
   )else (
    Zpi false
   )
  )
 )else (
  Zpi false
 )
def ZxT:Option Bool:=
 some true
def Zuq (rec_:(List ZnF)→Int→Int→Option (Out Unit Bool)) (t5:(List ZnF)) (t6:Int) (t7:Int):Option (Out Unit Bool):=
 bif (decide (t7 < t6))then (
  (idx t5 t7).bind fun a=>
  (Zr8 a).bind fun q=>
  bif (!q)then (
   some (.ret false)
  )else (
   chk (inK .i64 (t7+1)) <|
   rec_ t5 t6 (t7+1)
  )
 )else (
  some (.brk ())
 )
def Zvd:Nat→(List ZnF)→Int→Int→Option (Out Unit Bool)
 |0,_,_,_=>none
 |n_+1,t5,t6,t7=>Zuq (Zvd n_) t5 t6 t7
def Zxd (n:Nat) (s:((List ZnF)×Int×Int)):Option (Out Unit Bool):=Zvd n s.1 s.2.1 s.2.2
def ZvY (rec_:((List ZnF)×Int×Int)→Option (Out Unit Bool)) (s:((List ZnF)×Int×Int)):Option (Out Unit Bool):=Zuq (fun t5 t6 t7=>rec_ (t5,t6,t7)) s.1 s.2.1 s.2.2
theorem Zyu:∀n s,Zxd (n+1) s=ZvY (Zxd n) s:=fun _ _=>rfl
def ZuE (l:(List ZnF)):Option Bool:=
 (Zvd big l (l.length:Int) (0:Int)).bind fun
  | .ret q_=>some q_
  | .brk ()=>ZxT
def ZvC (x_:Int):Option Bool:=
 some (x_ != x_)
def ZuF (x_:Int) (y:Int):Option Int:=
 (ZvC x_).bind fun xNaN=>
 (ZvC y).bind fun yNaN=>
 bif xNaN then (
  bif yNaN then (
   some (0:Int)
  )else (
   some (-1:Int)
  )
 )else (
  bif yNaN then (
   some (1:Int)
  )else (
   bif (decide (x_ < y))then (
    some (-1:Int)
   )else (
    bif (decide (x_ > y))then (
     some (1:Int)
    )else (
     some (0:Int)
    )
   )
  )
 )
def Zve (x_:Int):Option Bool:=
 some (x_ != x_)
def Zus (x_:Int) (y:Int):Option Int:=
 (Zve x_).bind fun xNaN=>
 (Zve y).bind fun yNaN=>
 bif xNaN then (
  bif yNaN then (
   some (0:Int)
  )else (
   some (-1:Int)
  )
 )else (
  bif yNaN then (
   some (1:Int)
  )else (
   bif (decide (x_ < y))then (
    some (-1:Int)
   )else (
    bif (decide (x_ > y))then (
     some (1:Int)
    )else (
     some (0:Int)
    )
   )
  )
 )
def Ztq:Option Int:=
 some (0:Int)
def ZqL (rec_:(List Int)→(List Int)→Int→Option (Out Unit Int)) (w_:(List Int)) (v_:(List Int)) (i:Int):Option (Out Unit Int):=
 bif (decide (i≥0))then (
  (idx w_ i).bind fun w__e=>
  (idx v_ i).bind fun v__e=>
  (Zus w__e v__e).bind fun c=>
  bif (c != 0)then (
   some (.ret c)
  )else (
   chk (inK .i64 (i - 1)) <|
   rec_ w_ v_ (i - 1)
  )
 )else (
  some (.brk ())
 )
def ZrC:Nat→(List Int)→(List Int)→Int→Option (Out Unit Int)
 |0,_,_,_=>none
 |n_+1,w_,v_,i=>ZqL (ZrC n_) w_ v_ i
def ZuY (n:Nat) (s:((List Int)×(List Int)×Int)):Option (Out Unit Int):=ZrC n s.1 s.2.1 s.2.2
def ZsF (rec_:((List Int)×(List Int)×Int)→Option (Out Unit Int)) (s:((List Int)×(List Int)×Int)):Option (Out Unit Int):=ZqL (fun w_ v_ i=>rec_ (w_,v_,i)) s.1 s.2.1 s.2.2
theorem ZwS:∀n s,ZuY (n+1) s=ZsF (ZuY n) s:=fun _ _=>rfl
def ZoT (w_:(List Int)) (v_:(List Int)):Option Int:=
 (ZuF (w_.length:Int) (v_.length:Int)).bind fun c=>
 bif (c != 0)then (
  some c
 )else (
  chk (inK .i64 ((w_.length:Int) - 1)) <|
  (ZrC big w_ v_ ((w_.length:Int) - 1)).bind fun
   | .ret q_=>some q_
   | .brk ()=>Ztq
 )
def ZnO (s:(List Int)) (t4:Bool):Option (List Int):=
 bif t4 then (
  some ([]:(List Int))
 )else (
  chk (ZiZ (([]:(List Int)).length+s.length) 4) <|
  some (([]:(List Int))++s)
 )
def ZoQ (s:(List Int)):Option (List Int):=
 bif (List.isEmpty s)then agree (
  ZnO s true
 ) (
  ZnO s false
 )else (
  ZnO s false
 )
def ZsH (hi:Int) (lo:Int) (y:Int) (t15:Bool):Option (Int×Int):=
 bif t15 then (
  none
 )else (
  chk (decide (0≤(32:Int))) <|
  chk (decide ((IntKind.wrap .u64 y)≠0)) <|
  chk (decide ((IntKind.wrap .u64 y)≠0)) <|
  some ((IntKind.wrap .u32 (IntKind.wrap .u64 (Int.tdiv (orK .u64 (shlK .u64 (IntKind.wrap .u64 hi) 32) (IntKind.wrap .u64 lo)) (IntKind.wrap .u64 y)))),(IntKind.wrap .u32 (Int.tmod (orK .u64 (shlK .u64 (IntKind.wrap .u64 hi) 32) (IntKind.wrap .u64 lo)) (IntKind.wrap .u64 y))))
 )
def ZuA (hi:Int) (lo:Int) (y:Int):Option (Int×Int):=
 bif (y != 0)then (
  ZsH hi lo y (decide (y≤hi))
 )else (
  ZsH hi lo y false
 )
def Zuj (rest:Int) (out:(List Int)):Option ((List Int)×Int):=
 (Zor out).bind fun q=>
 some (q,rest)
def Zrz (rec_:(List Int)→Int→Int→Int→(List Int)→Option (Int×(List Int))) (w_:(List Int)) (d:Int) (rest:Int) (i:Int) (out:(List Int)):Option (Int×(List Int)):=
 bif (decide (i≥0))then (
  (idx w_ i).bind fun w__e=>
  (ZuA rest w__e d).bind fun(q,rest_1)=>
  chk (inR i (out.length:Int)) <|
  chk (inK .i64 (i - 1)) <|
  rec_ w_ d rest_1 (i - 1) (out.set ((i).toNat) q)
 )else (
  some (rest,out)
 )
def Zsm:Nat→(List Int)→Int→Int→Int→(List Int)→Option (Int×(List Int))
 |0,_,_,_,_,_=>none
 |n_+1,w_,d,rest,i,out=>Zrz (Zsm n_) w_ d rest i out
def Zvr (n:Nat) (s:((List Int)×Int×Int×Int×(List Int))):Option (Int×(List Int)):=Zsm n s.1 s.2.1 s.2.2.1 s.2.2.2.1 s.2.2.2.2
def Ztn (rec_:((List Int)×Int×Int×Int×(List Int))→Option (Int×(List Int))) (s:((List Int)×Int×Int×Int×(List Int))):Option (Int×(List Int)):=Zrz (fun w_ d rest i out=>rec_ (w_,d,rest,i,out)) s.1 s.2.1 s.2.2.1 s.2.2.2.1 s.2.2.2.2
theorem Zxu:∀n s,Zvr (n+1) s=Ztn (Zvr n) s:=fun _ _=>rfl
def ZrY (w_:(List Int)) (d:Int):Option ((List Int)×Int):=
 chk (mkOk (w_.length:Int) (w_.length:Int) 4) <|
 chk (inK .i64 ((w_.length:Int) - 1)) <|
 (Zsm big w_ d (0:Int) ((w_.length:Int) - 1) (List.replicate ((w_.length:Int)).toNat (0:Int))).bind fun(x0,x1)=>Zuj x0 x1
def ZrH (x_:Int) (n:Int):Option Int:=
 (idx ([0,1,2,2,3,3,3,3,4,4,4,4,4,4,4,4,5,5,5,5,5,5,5,5,5,5,5,5,5,5,5,5,6,6,6,6,6,6,6,6,6,6,6,6,6,6,6,6,6,6,6,6,6,6,6,6,6,6,6,6,6,6,6,6,7,7,7,7,7,7,7,7,7,7,7,7,7,7,7,7,7,7,7,7,7,7,7,7,7,7,7,7,7,7,7,7,7,7,7,7,7,7,7,7,7,7,7,7,7,7,7,7,7,7,7,7,7,7,7,7,7,7,7,7,7,7,7,7,8,8,8,8,8,8,8,8,8,8,8,8,8,8,8,8,8,8,8,8,8,8,8,8,8,8,8,8,8,8,8,8,8,8,8,8,8,8,8,8,8,8,8,8,8,8,8,8,8,8,8,8,8,8,8,8,8,8,8,8,8,8,8,8,8,8,8,8,8,8,8,8,8,8,8,8,8,8,8,8,8,8,8,8,8,8,8,8,8,8,8,8,8,8,8,8,8,8,8,8,8,8,8,8,8,8,8,8,8,8,8,8,8,8,8,8,8,8,8,8,8,8,8,8,8,8,8,8]:Str) (IntKind.wrap .u8 x_)).bind fun c=>
 chk (inK .i64 (n+(IntKind.wrap .i64 ((c.toNat:Nat):Int)))) <|
 some (n+(IntKind.wrap .i64 ((c.toNat:Nat):Int)))
def Zum (x_:Int) (n:Int):Option Int:=
 bif (decide (x_≥256))then (
  chk (decide (0≤(8:Int))) <|
  chk (inK .i64 (n+8)) <|
  ZrH (shrK .u32 x_ 8) (n+8)
 )else (
  ZrH x_ n
 )
def Zuz (x_:Int):Option Int:=
 bif (decide (x_≥65536))then (
  chk (decide (0≤(16:Int))) <|
  Zum (shrK .u32 x_ 16) (16:Int)
 )else (
  Zum x_ (0:Int)
 )
def Zql (x_:Int):Option Int:=
 (Zuz x_).bind fun q=>
 chk (inK .i64 (32 - q)) <|
 some (32 - q)
def Zto (out:(List Int)):Option (List Int):=
 some out
def ZqK (rec_:Int→(List Int)→Int→Int→(List Int)→Option (List Int)) (n:Int) (t13:(List Int)) (t14:Int) (i:Int) (out:(List Int)):Option (List Int):=
 bif (decide (i < t14))then (
  (idx t13 i).bind fun d=>
  chk (decide (0≤n)) <|
  chk (inR i (out.length:Int)) <|
  (out[(i).toNat]?).bind fun out_e=>
  chk (inR i (out.length:Int)) <|
  chk (inK .i64 (i+1)) <|
  chk (decide (0≤(32:Int))) <|
  chk (inR (i+1) ((out.set ((i).toNat) (orK .u32 out_e (IntKind.wrap .u32 (shlK .u64 (IntKind.wrap .u64 d) n)))).length:Int)) <|
  chk (inK .i64 (i+1)) <|
  rec_ n t13 t14 (i+1) ((out.set ((i).toNat) (orK .u32 out_e (IntKind.wrap .u32 (shlK .u64 (IntKind.wrap .u64 d) n)))).set (((i+1)).toNat) (IntKind.wrap .u32 (shrK .u64 (shlK .u64 (IntKind.wrap .u64 d) n) 32)))
 )else (
  some out
 )
def ZrA:Nat→Int→(List Int)→Int→Int→(List Int)→Option (List Int)
 |0,_,_,_,_,_=>none
 |n_+1,n,t13,t14,i,out=>ZqK (ZrA n_) n t13 t14 i out
def ZuX (n:Nat) (s:(Int×(List Int)×Int×Int×(List Int))):Option (List Int):=ZrA n s.1 s.2.1 s.2.2.1 s.2.2.2.1 s.2.2.2.2
def ZsE (rec_:(Int×(List Int)×Int×Int×(List Int))→Option (List Int)) (s:(Int×(List Int)×Int×Int×(List Int))):Option (List Int):=ZqK (fun n t13 t14 i out=>rec_ (n,t13,t14,i,out)) s.1 s.2.1 s.2.2.1 s.2.2.2.1 s.2.2.2.2
theorem ZwR:∀n s,ZuX (n+1) s=ZsE (ZuX n) s:=fun _ _=>rfl
def Zpp (w_:(List Int)) (n:Int):Option (List Int):=
 chk (inK .i64 ((w_.length:Int)+1)) <|
 chk (mkOk ((w_.length:Int)+1) ((w_.length:Int)+1) 4) <|
 (ZrA big n w_ (w_.length:Int) (0:Int) (List.replicate (((w_.length:Int)+1)).toNat (0:Int))).bind fun x0=>Zto x0
def Zr4 (x_:Int) (y:Int) (borrow:Int):Option (Int×Int):=
 chk (decide (0≤(31:Int))) <|
 some ((IntKind.wrap .u32 ((IntKind.wrap .u32 (x_ - y)) - borrow)),(shrK .u32 (orK .u32 (andK .u32 (xorK .u32 (if IntKind.signed .u32 then -1 else IntKind.max .u32) x_) y) (andK .u32 (xorK .u32 (if IntKind.signed .u32 then -1 else IntKind.max .u32) (xorK .u32 x_ y)) (IntKind.wrap .u32 ((IntKind.wrap .u32 (x_ - y)) - borrow)))) 31))
def Zs1 (x_:Int) (y:Int) (carry:Int):Option (Int×Int):=
 chk (decide (0≤(32:Int))) <|
 some ((IntKind.wrap .u32 (IntKind.wrap .u64 ((IntKind.wrap .u64 ((IntKind.wrap .u64 x_)+(IntKind.wrap .u64 y)))+(IntKind.wrap .u64 carry)))),(IntKind.wrap .u32 (shrK .u64 (IntKind.wrap .u64 ((IntKind.wrap .u64 ((IntKind.wrap .u64 x_)+(IntKind.wrap .u64 y)))+(IntKind.wrap .u64 carry))) 32)))
def ZuN (u_off:Nat) (u_len:Nat) (n:Int) (guess:Int) (add:Int) (u:(List Int)):Option (Int×(List Int)):=
 chk (inR n (u_len:Int)) <|
 (u[(u_off+(n).toNat)]?).bind fun u_e=>
 chk (inR n (u_len:Int)) <|
 some ((IntKind.wrap .u32 (IntKind.wrap .u64 (guess - 1))),(u.set (u_off+(n).toNat) (IntKind.wrap .u32 (u_e+add))))
def ZtR (rec_:Nat→Nat→Int→Int→Int→(List Int)→Int→Int→(List Int)→Option (Nat×Nat×Int×Int×Int×(List Int))) (u_off:Nat) (u_len:Nat) (n:Int) (guess:Int) (add:Int) (t130:(List Int)) (t131:Int) (i:Int) (u:(List Int)):Option (Nat×Nat×Int×Int×Int×(List Int)):=
 bif (decide (i < t131))then (
  (idx t130 i).bind fun x_=>
  chk (inR i (u_len:Int)) <|
  (u[(u_off+(i).toNat)]?).bind fun u_e=>
  (Zs1 u_e x_ add).bind fun(q,add_1)=>
  chk (inR i (u_len:Int)) <|
  chk (inK .i64 (i+1)) <|
  rec_ u_off u_len n guess add_1 t130 t131 (i+1) (u.set (u_off+(i).toNat) q)
 )else (
  some (u_off,u_len,n,guess,add,u)
 )
def Ztr:Nat→Nat→Nat→Int→Int→Int→(List Int)→Int→Int→(List Int)→Option (Nat×Nat×Int×Int×Int×(List Int))
 |0,_,_,_,_,_,_,_,_,_=>none
 |n_+1,u_off,u_len,n,guess,add,t130,t131,i,u=>ZtR (Ztr n_) u_off u_len n guess add t130 t131 i u
def ZwT (n:Nat) (s:(Nat×Nat×Int×Int×Int×(List Int)×Int×Int×(List Int))):Option (Nat×Nat×Int×Int×Int×(List Int)):=Ztr n s.1 s.2.1 s.2.2.1 s.2.2.2.1 s.2.2.2.2.1 s.2.2.2.2.2.1 s.2.2.2.2.2.2.1 s.2.2.2.2.2.2.2.1 s.2.2.2.2.2.2.2.2
def Zvv (rec_:(Nat×Nat×Int×Int×Int×(List Int)×Int×Int×(List Int))→Option (Nat×Nat×Int×Int×Int×(List Int))) (s:(Nat×Nat×Int×Int×Int×(List Int)×Int×Int×(List Int))):Option (Nat×Nat×Int×Int×Int×(List Int)):=ZtR (fun u_off u_len n guess add t130 t131 i u=>rec_ (u_off,u_len,n,guess,add,t130,t131,i,u)) s.1 s.2.1 s.2.2.1 s.2.2.2.1 s.2.2.2.2.1 s.2.2.2.2.2.1 s.2.2.2.2.2.2.1 s.2.2.2.2.2.2.2.1 s.2.2.2.2.2.2.2.2
theorem Zyp:∀n s,ZwT (n+1) s=Zvv (ZwT n) s:=fun _ _=>rfl
def Zwj (u_off:Nat) (u_len:Nat) (d:(List Int)) (n:Int) (guess:Int) (borrow:Int) (carry:Int) (u:(List Int)):Option (Int×(List Int)):=
 chk (inR n (u_len:Int)) <|
 (u[(u_off+(n).toNat)]?).bind fun u_e=>
 (Zr4 u_e (IntKind.wrap .u32 carry) borrow).bind fun(q,borrow_1)=>
 chk (inR n (u_len:Int)) <|
 bif (borrow_1 == 0)then (
  some ((IntKind.wrap .u32 guess),(u.set (u_off+(n).toNat) q))
 )else (
  (Ztr big u_off u_len n guess (0:Int) d (d.length:Int) (0:Int) (u.set (u_off+(n).toNat) q)).bind fun(x0,x1,x2,x3,x4,x5)=>ZuN x0 x1 x2 x3 x4 x5
 )
def ZtS (rec_:Nat→Nat→(List Int)→Int→Int→Int→Int→(List Int)→Int→Int→(List Int)→Option (Nat×Nat×(List Int)×Int×Int×Int×Int×(List Int))) (u_off:Nat) (u_len:Nat) (d:(List Int)) (n:Int) (guess:Int) (borrow:Int) (carry:Int) (t82:(List Int)) (t83:Int) (i:Int) (u:(List Int)):Option (Nat×Nat×(List Int)×Int×Int×Int×Int×(List Int)):=
 bif (decide (i < t83))then (
  (idx t82 i).bind fun x_=>
  chk (inR i (u_len:Int)) <|
  (u[(u_off+(i).toNat)]?).bind fun u_e=>
  (Zr4 u_e (IntKind.wrap .u32 (IntKind.wrap .u64 (carry+(IntKind.wrap .u64 (guess*(IntKind.wrap .u64 x_)))))) borrow).bind fun(q,borrow_1)=>
  chk (inR i (u_len:Int)) <|
  chk (decide (0≤(32:Int))) <|
  chk (inK .i64 (i+1)) <|
  rec_ u_off u_len d n guess borrow_1 (shrK .u64 (IntKind.wrap .u64 (carry+(IntKind.wrap .u64 (guess*(IntKind.wrap .u64 x_))))) 32) t82 t83 (i+1) (u.set (u_off+(i).toNat) q)
 )else (
  some (u_off,u_len,d,n,guess,borrow,carry,u)
 )
def ZuM:Nat→Nat→Nat→(List Int)→Int→Int→Int→Int→(List Int)→Int→Int→(List Int)→Option (Nat×Nat×(List Int)×Int×Int×Int×Int×(List Int))
 |0,_,_,_,_,_,_,_,_,_,_,_=>none
 |n_+1,u_off,u_len,d,n,guess,borrow,carry,t82,t83,i,u=>ZtS (ZuM n_) u_off u_len d n guess borrow carry t82 t83 i u
def ZwU (n:Nat) (s:(Nat×Nat×(List Int)×Int×Int×Int×Int×(List Int)×Int×Int×(List Int))):Option (Nat×Nat×(List Int)×Int×Int×Int×Int×(List Int)):=ZuM n s.1 s.2.1 s.2.2.1 s.2.2.2.1 s.2.2.2.2.1 s.2.2.2.2.2.1 s.2.2.2.2.2.2.1 s.2.2.2.2.2.2.2.1 s.2.2.2.2.2.2.2.2.1 s.2.2.2.2.2.2.2.2.2.1 s.2.2.2.2.2.2.2.2.2.2
def Zvw (rec_:(Nat×Nat×(List Int)×Int×Int×Int×Int×(List Int)×Int×Int×(List Int))→Option (Nat×Nat×(List Int)×Int×Int×Int×Int×(List Int))) (s:(Nat×Nat×(List Int)×Int×Int×Int×Int×(List Int)×Int×Int×(List Int))):Option (Nat×Nat×(List Int)×Int×Int×Int×Int×(List Int)):=ZtS (fun u_off u_len d n guess borrow carry t82 t83 i u=>rec_ (u_off,u_len,d,n,guess,borrow,carry,t82,t83,i,u)) s.1 s.2.1 s.2.2.1 s.2.2.2.1 s.2.2.2.2.1 s.2.2.2.2.2.1 s.2.2.2.2.2.2.1 s.2.2.2.2.2.2.2.1 s.2.2.2.2.2.2.2.2.1 s.2.2.2.2.2.2.2.2.2.1 s.2.2.2.2.2.2.2.2.2.2
theorem Zyq:∀n s,ZwU (n+1) s=Zvw (ZwU n) s:=fun _ _=>rfl
def ZuO (u_off:Nat) (u_len:Nat) (d:(List Int)) (n:Int) (guess:Int) (u:(List Int)):Option (Int×(List Int)):=
 (ZuM big u_off u_len d n guess (0:Int) (0:Int) d (d.length:Int) (0:Int) u).bind fun(x0,x1,x2,x3,x4,x5,x6,x7)=>Zwj x0 x1 x2 x3 x4 x5 x6 x7
def Zts (rec_:Nat→Nat→(List Int)→Int→Int→Int→(List Int)→Option (Nat×Nat×(List Int)×Int×Int×(List Int))) (u_off:Nat) (u_len:Nat) (d:(List Int)) (n:Int) (guess:Int) (rest:Int) (t71:Bool) (u:(List Int)):Option (Nat×Nat×(List Int)×Int×Int×(List Int)):=
 bif t71 then (
  chk (inK .i64 (n - 1)) <|
  (idx d (n - 1)).bind fun d_e=>
  rec_ u_off u_len d n (IntKind.wrap .u64 (guess - 1)) (IntKind.wrap .u64 (rest+(IntKind.wrap .u64 d_e))) u
 )else (
  some (u_off,u_len,d,n,guess,u)
 )
def Zvx (rec_:Nat→Nat→(List Int)→Int→Int→Int→(List Int)→Option (Nat×Nat×(List Int)×Int×Int×(List Int))) (u_off:Nat) (u_len:Nat) (d:(List Int)) (n:Int) (guess:Int) (rest:Int) (u:(List Int)):Option (Nat×Nat×(List Int)×Int×Int×(List Int)):=
 bif (decide (rest < 4294967296))then (
  chk (inK .i64 (n - 2)) <|
  (idx d (n - 2)).bind fun d_e=>
  chk (decide (0≤(32:Int))) <|
  chk (inK .i64 (n - 2)) <|
  chk (inR (n - 2) (u_len:Int)) <|
  (u[(u_off+((n - 2)).toNat)]?).bind fun u_e=>
  Zts rec_ u_off u_len d n guess rest (decide ((IntKind.wrap .u64 (guess*(IntKind.wrap .u64 d_e))) > (orK .u64 (shlK .u64 rest 32) (IntKind.wrap .u64 u_e)))) u
 )else (
  Zts rec_ u_off u_len d n guess rest false u
 )
def Zr6:Nat→Nat→Nat→(List Int)→Int→Int→Int→(List Int)→Option (Nat×Nat×(List Int)×Int×Int×(List Int))
 |0,_,_,_,_,_,_,_=>none
 |n_+1,u_off,u_len,d,n,guess,rest,u=>Zvx (Zr6 n_) u_off u_len d n guess rest u
def ZwV (n:Nat) (s:(Nat×Nat×(List Int)×Int×Int×Int×(List Int))):Option (Nat×Nat×(List Int)×Int×Int×(List Int)):=Zr6 n s.1 s.2.1 s.2.2.1 s.2.2.2.1 s.2.2.2.2.1 s.2.2.2.2.2.1 s.2.2.2.2.2.2
def ZwW (rec_:(Nat×Nat×(List Int)×Int×Int×Int×(List Int))→Option (Nat×Nat×(List Int)×Int×Int×(List Int))) (s:(Nat×Nat×(List Int)×Int×Int×Int×(List Int))):Option (Nat×Nat×(List Int)×Int×Int×(List Int)):=Zvx (fun u_off u_len d n guess rest u=>rec_ (u_off,u_len,d,n,guess,rest,u)) s.1 s.2.1 s.2.2.1 s.2.2.2.1 s.2.2.2.2.1 s.2.2.2.2.2.1 s.2.2.2.2.2.2
theorem Zyr:∀n s,ZwV (n+1) s=ZwW (ZwV n) s:=fun _ _=>rfl
def Zwg (u:(List Int)) (u_off:Nat) (u_len:Nat) (d:(List Int)):Option (Int×(List Int)):=
 chk (inR (d.length:Int) (u_len:Int)) <|
 (u[(u_off+((d.length:Int)).toNat)]?).bind fun u_e=>
 chk (decide (0≤(32:Int))) <|
 chk (inK .i64 ((d.length:Int) - 1)) <|
 chk (inR ((d.length:Int) - 1) (u_len:Int)) <|
 (u[(u_off+(((d.length:Int) - 1)).toNat)]?).bind fun u_e_1=>
 chk (inK .i64 ((d.length:Int) - 1)) <|
 (idx d ((d.length:Int) - 1)).bind fun d_e=>
 chk (decide ((IntKind.wrap .u64 d_e)≠0)) <|
 chk (inK .i64 ((d.length:Int) - 1)) <|
 (idx d ((d.length:Int) - 1)).bind fun d_e_1=>
 (Zr6 big u_off u_len d (d.length:Int) (if (4294967295:Int) < (IntKind.wrap .u64 (Int.tdiv (orK .u64 (shlK .u64 (IntKind.wrap .u64 u_e) 32) (IntKind.wrap .u64 u_e_1)) (IntKind.wrap .u64 d_e)))then (4294967295:Int)else (IntKind.wrap .u64 (Int.tdiv (orK .u64 (shlK .u64 (IntKind.wrap .u64 u_e) 32) (IntKind.wrap .u64 u_e_1)) (IntKind.wrap .u64 d_e)))) (IntKind.wrap .u64 ((orK .u64 (shlK .u64 (IntKind.wrap .u64 u_e) 32) (IntKind.wrap .u64 u_e_1)) - (IntKind.wrap .u64 ((if (4294967295:Int) < (IntKind.wrap .u64 (Int.tdiv (orK .u64 (shlK .u64 (IntKind.wrap .u64 u_e) 32) (IntKind.wrap .u64 u_e_1)) (IntKind.wrap .u64 d_e)))then (4294967295:Int)else (IntKind.wrap .u64 (Int.tdiv (orK .u64 (shlK .u64 (IntKind.wrap .u64 u_e) 32) (IntKind.wrap .u64 u_e_1)) (IntKind.wrap .u64 d_e))))*(IntKind.wrap .u64 d_e_1))))) u).bind fun(x0,x1,x2,x3,x4,x5)=>ZuO x0 x1 x2 x3 x4 x5
def Zvc (u:(List Int)) (u_off:Nat) (u_len:Nat) (d:(List Int)):Option (Int×(List Int)):=
 (Zwg u u_off u_len d).bind fun r=>chk (decide (r.2.length=u.length)&&true) (some r)
def ZuL (w_off:Nat) (w_len:Nat) (w_:(List Int)):Option (Nat×Nat×(List Int)):=
 some (w_off,w_len,w_)
def ZsZ (rec_:Nat→Nat→(List Int)→Option (Nat×Nat×(List Int))) (w_off:Nat) (w_len:Nat) (t14:Bool) (w_:(List Int)):Option (Nat×Nat×(List Int)):=
 bif t14 then (
  chk (inK .i64 (((w_len:Nat):Int) - 1)) <|
  chk (Zb9 0 (((w_len:Nat):Int) - 1) (w_len:Int)) <|
  rec_ (w_off+0) (((((w_len:Nat):Int) - 1)).toNat - 0) w_
 )else (
  some (w_off,w_len,w_)
 )
def Zul (rec_:Nat→Nat→(List Int)→Option (Nat×Nat×(List Int))) (w_off:Nat) (w_len:Nat) (w_:(List Int)):Option (Nat×Nat×(List Int)):=
 bif (decide (((w_len:Nat):Int) > 0))then (
  chk (inK .i64 (((w_len:Nat):Int) - 1)) <|
  chk (inR (((w_len:Nat):Int) - 1) (w_len:Int)) <|
  (w_[(w_off+((((w_len:Nat):Int) - 1)).toNat)]?).bind fun w__e=>
  ZsZ rec_ w_off w_len (w__e == 0) w_
 )else (
  ZsZ rec_ w_off w_len false w_
 )
def ZrD:Nat→Nat→Nat→(List Int)→Option (Nat×Nat×(List Int))
 |0,_,_,_=>none
 |n_+1,w_off,w_len,w_=>Zul (ZrD n_) w_off w_len w_
def Zwa (n:Nat) (s:(Nat×Nat×(List Int))):Option (Nat×Nat×(List Int)):=ZrD n s.1 s.2.1 s.2.2
def Zwb (rec_:(Nat×Nat×(List Int))→Option (Nat×Nat×(List Int))) (s:(Nat×Nat×(List Int))):Option (Nat×Nat×(List Int)):=Zul (fun w_off w_len w_=>rec_ (w_off,w_len,w_)) s.1 s.2.1 s.2.2
theorem ZxQ:∀n s,Zwa (n+1) s=Zwb (Zwa n) s:=fun _ _=>rfl
def Zun (w_:(List Int)) (w_off:Nat) (w_len:Nat):Option (Nat×Nat×(List Int)):=
 (ZrD big w_off w_len w_).bind fun(x0,x1,x2)=>ZuL x0 x1 x2
def Ztv (w_:(List Int)) (w_off:Nat) (w_len:Nat):Option (Nat×Nat×(List Int)):=
 (Zun w_ w_off w_len).bind fun r=>chk (decide (r.2.2.length=w_.length)&&true) (some r)
def Zq1 (w_:(List Int)) (i:Int):Option Int:=
 bif (decide (i < (w_.length:Int)))then (
  (idx w_ i).bind fun w__e=>
  some w__e
 )else (
  some (0:Int)
 )
def Zvt (w_:(List Int)) (w_off:Nat) (w_len:Nat) (i:Int):Option (Int×(List Int)):=
 bif (decide (i < ((w_len:Nat):Int)))then (
  chk (inR i (w_len:Int)) <|
  (w_[(w_off+(i).toNat)]?).bind fun w__e=>
  some (w__e,w_)
 )else (
  some (0,w_)
 )
def ZsX (w_:(List Int)) (w_off:Nat) (w_len:Nat) (i:Int):Option (Int×(List Int)):=
 (Zvt w_ w_off w_len i).bind fun r=>chk (decide (r.2.length=w_.length)&&true) (some r)
def ZuC (rest_off:Nat) (rest_len:Nat) (q:(List Int)) (rest:(List Int)):Option ((List Int)×(List Int)):=
 (Zor q).bind fun q_1=>
 (Zor ((rest.drop rest_off).take rest_len)).bind fun q_2=>
 some (q_1,q_2)
def ZrS (rec_:Int→Nat→Nat→Int→Int→(List Int)→(List Int)→Option (Nat×Nat×(List Int)×(List Int))) (shift:Int) (rest_off:Nat) (rest_len:Nat) (t86:Int) (i:Int) (q:(List Int)) (rest:(List Int)):Option (Nat×Nat×(List Int)×(List Int)):=
 bif (decide (i < t86))then (
  chk (inK .i64 (i+1)) <|
  (ZsX rest rest_off rest_len (i+1)).bind fun(q_1,t90)=>
  chk (decide (0≤(32:Int))) <|
  chk (inR i (rest_len:Int)) <|
  (t90[(rest_off+(i).toNat)]?).bind fun t90_e=>
  chk (decide (0≤shift)) <|
  chk (inR i (rest_len:Int)) <|
  chk (inK .i64 (i+1)) <|
  rec_ shift rest_off rest_len t86 (i+1) q (t90.set (rest_off+(i).toNat) (IntKind.wrap .u32 (shrK .u64 (orK .u64 (shlK .u64 (IntKind.wrap .u64 q_1) 32) (IntKind.wrap .u64 t90_e)) shift)))
 )else (
  some (rest_off,rest_len,q,rest)
 )
def Zq4:Nat→Int→Nat→Nat→Int→Int→(List Int)→(List Int)→Option (Nat×Nat×(List Int)×(List Int))
 |0,_,_,_,_,_,_,_=>none
 |n_+1,shift,rest_off,rest_len,t86,i,q,rest=>ZrS (Zq4 n_) shift rest_off rest_len t86 i q rest
def ZvS (n:Nat) (s:(Int×Nat×Nat×Int×Int×(List Int)×(List Int))):Option (Nat×Nat×(List Int)×(List Int)):=Zq4 n s.1 s.2.1 s.2.2.1 s.2.2.2.1 s.2.2.2.2.1 s.2.2.2.2.2.1 s.2.2.2.2.2.2
def ZtL (rec_:(Int×Nat×Nat×Int×Int×(List Int)×(List Int))→Option (Nat×Nat×(List Int)×(List Int))) (s:(Int×Nat×Nat×Int×Int×(List Int)×(List Int))):Option (Nat×Nat×(List Int)×(List Int)):=ZrS (fun shift rest_off rest_len t86 i q rest=>rec_ (shift,rest_off,rest_len,t86,i,q,rest)) s.1 s.2.1 s.2.2.1 s.2.2.2.1 s.2.2.2.2.1 s.2.2.2.2.2.1 s.2.2.2.2.2.2
theorem ZxF:∀n s,ZvS (n+1) s=ZtL (ZvS n) s:=fun _ _=>rfl
def ZuD (n:Int) (shift:Int) (u:(List Int)) (q:(List Int)):Option ((List Int)×(List Int)):=
 chk (Zb9 0 n (u.length:Int)) <|
 (Ztv u 0 ((n).toNat - 0)).bind fun(rest_off,rest_len,t83)=>
 (Zq4 big shift rest_off rest_len ((rest_len:Nat):Int) (0:Int) q t83).bind fun(x0,x1,x2,x3)=>ZuC x0 x1 x2 x3
def ZrT (rec_:Int→Int→(List Int)→Int→(List Int)→(List Int)→Option (Int×Int×(List Int)×(List Int))) (n:Int) (shift:Int) (d:(List Int)) (j:Int) (u:(List Int)) (q:(List Int)):Option (Int×Int×(List Int)×(List Int)):=
 bif (decide (j≥0))then (
  chk (inK .i64 (j+n)) <|
  chk (inK .i64 ((j+n)+1)) <|
  chk (Zb9 j ((j+n)+1) (u.length:Int)) <|
  (Zvc u ((j).toNat) ((((j+n)+1)).toNat - (j).toNat) d).bind fun(q_1,t77)=>
  chk (inR j (q.length:Int)) <|
  chk (inK .i64 (j - 1)) <|
  rec_ n shift d (j - 1) t77 (q.set ((j).toNat) q_1)
 )else (
  some (n,shift,u,q)
 )
def Zq5:Nat→Int→Int→(List Int)→Int→(List Int)→(List Int)→Option (Int×Int×(List Int)×(List Int))
 |0,_,_,_,_,_,_=>none
 |n_+1,n,shift,d,j,u,q=>ZrT (Zq5 n_) n shift d j u q
def ZvT (n:Nat) (s:(Int×Int×(List Int)×Int×(List Int)×(List Int))):Option (Int×Int×(List Int)×(List Int)):=Zq5 n s.1 s.2.1 s.2.2.1 s.2.2.2.1 s.2.2.2.2.1 s.2.2.2.2.2
def ZtM (rec_:(Int×Int×(List Int)×Int×(List Int)×(List Int))→Option (Int×Int×(List Int)×(List Int))) (s:(Int×Int×(List Int)×Int×(List Int)×(List Int))):Option (Int×Int×(List Int)×(List Int)):=ZrT (fun n shift d j u q=>rec_ (n,shift,d,j,u,q)) s.1 s.2.1 s.2.2.1 s.2.2.2.1 s.2.2.2.2.1 s.2.2.2.2.2
theorem ZxG:∀n s,ZvT (n+1) s=ZtM (ZvT n) s:=fun _ _=>rfl
def Zp7 (w_:(List Int)) (v_:(List Int)):Option ((List Int)×(List Int)):=
 (ZoT w_ v_).bind fun q=>
 bif (decide (q < 0))then (
  (ZoQ w_).bind fun q_1=>
  some (([]:(List Int)),q_1)
 )else (
  bif ((v_.length:Int) == 1)then (
   (idx v_ 0).bind fun v__e=>
   (ZrY w_ v__e).bind fun(q_2,r_)=>
   (Zor ([r_]:(List Int))).bind fun q_3=>
   some (q_2,q_3)
  )else (
   chk (inK .i64 ((v_.length:Int) - 1)) <|
   (idx v_ ((v_.length:Int) - 1)).bind fun v__e_1=>
   (Zql v__e_1).bind fun shift=>
   (Zpp w_ shift).bind fun u=>
   (Zpp v_ shift).bind fun q_4=>
   chk (Zb9 0 (v_.length:Int) (q_4.length:Int)) <|
   chk (inK .i64 ((w_.length:Int) - (v_.length:Int))) <|
   chk (inK .i64 (((w_.length:Int) - (v_.length:Int))+1)) <|
   chk (mkOk (((w_.length:Int) - (v_.length:Int))+1) (((w_.length:Int) - (v_.length:Int))+1) 4) <|
   chk (inK .i64 (((List.replicate ((((w_.length:Int) - (v_.length:Int))+1)).toNat (0:Int)).length:Int) - 1)) <|
   (Zq5 big (v_.length:Int) shift ((q_4.drop 0).take (((v_.length:Int)).toNat - 0)) (((List.replicate ((((w_.length:Int) - (v_.length:Int))+1)).toNat (0:Int)).length:Int) - 1) u (List.replicate ((((w_.length:Int) - (v_.length:Int))+1)).toNat (0:Int))).bind fun(x0,x1,x2,x3)=>ZuD x0 x1 x2 x3
  )
 )
def ZtN (w_:(List Int)):Option (List Int):=
 some w_
def ZpX (rec_:(List Int)→(List Int)→Option (List Int)) (w_:(List Int)) (v_:(List Int)):Option (List Int):=
 bif (decide ((v_.length:Int) > 0))then (
  (Zp7 w_ v_).bind fun(q,r_)=>
  rec_ v_ r_
 )else (
  some w_
 )
def Zo1:Nat→(List Int)→(List Int)→Option (List Int)
 |0,_,_=>none
 |n_+1,w_,v_=>ZpX (Zo1 n_) w_ v_
def Zqg (w_:(List Int)) (v_:(List Int)):Option (List Int):=
 (Zo1 big w_ v_).bind fun x0=>ZtN x0
def Zqn (num:ZnF) (den:ZnF):Option ZnB:=
 (Zqg num.Words den.Words).bind fun g=>
 (Zp7 num.Words g).bind fun(x_,q)=>
 (Zp7 den.Words g).bind fun(y,q_1)=>
 (ZoA (!(num.Neg == den.Neg)) x_).bind fun q_2=>
 (ZoA false y).bind fun q_3=>
 some (ZnB.mk q_2 q_3)
def Zvy (num:ZnF) (den:ZnF):Option (ZnB×Int):=
 (ZuE ([num,den]:(List ZnF))).bind fun q=>
 bif (!q)then (
  some ((ZnB.mk (ZnF.mk false ([]:(List Int))) (ZnF.mk false ([]:(List Int)))),1)
 )else (
  bif ((den.Words.length:Int) == 0)then (
   some ((ZnB.mk (ZnF.mk false ([]:(List Int))) (ZnF.mk false ([]:(List Int)))),8)
  )else (
   (Zqn num den).bind fun q_1=>
   some (q_1,0)
  )
 )
def Zwx (num:Int) (den:Int):Option (ZnB×Int):=
 (Zsv num).bind fun q=>
 (Zsv den).bind fun q_1=>
 (Zvy q q_1).bind fun(q_2,q_3)=>
 some (q_2,q_3)
def Zxw:Option ZnB:=
 (Zwx 0 1).bind fun(f,q)=>
 some f
def Zxg:Option (List (Int×Zpj)):=
 some (setB (k:=(.int .i64)) (v:=(.st 6)) (car:=Zw1) (setB (k:=(.int .i64)) (v:=(.st 6)) (car:=Zw1) (setB (k:=(.int .i64)) (v:=(.st 6)) (car:=Zw1) (setB (k:=(.int .i64)) (v:=(.st 6)) (car:=Zw1) (setB (k:=(.int .i64)) (v:=(.st 6)) (car:=Zw1) ([]:(List (Int×Zpj))) 1 (Zpj.mk ([116,101,120,116]:Str) (none:Option Nat) (some 135:Option Nat))) 2 (Zpj.mk ([98,111,111,108]:Str) (some 136:Option Nat) (some 137:Option Nat))) 3 (Zpj.mk ([105,110,116,101,103,101,114]:Str) (some 138:Option Nat) (some 139:Option Nat))) 4 (Zpj.mk ([100,101,99,105,109,97,108]:Str) (some 140:Option Nat) (some 139:Option Nat))) 5 (Zpj.mk ([100,97,116,101]:Str) (some 141:Option Nat) (some 142:Option Nat)))
def Zx2 (s cs:Str):Option Str:=
 chk (cs.all fun b=>decide (b.toNat < 128)) <| chk (decide (cs.length < 4294967281)) <| some (Lib.trimS s cs)
def ZyM (s:Str):Option Str:=
 (Zx2 s ([32]:Str)).bind fun q=>
 some q
def Zq0 (t4:Bool):Option Bool:=
 some t4
def Zp0 (s:Str) (prefix_:Str):Option Bool:=
 bif (decide ((s.length:Int)≥(prefix_.length:Int)))then (
  chk (Zb9 0 (prefix_.length:Int) (s.length:Int)) <|
  Zq0 ((s.take ((prefix_.length:Int)).toNat) == prefix_)
 )else (
  Zq0 false
 )
def ZrK (s:Str) (prefix_:Str):Option (Str×Bool):=
 (Zp0 s prefix_).bind fun q=>
 bif (!q)then (
  some (s,false)
 )else (
  chk (Zb9 (prefix_.length:Int) (s.length:Int) (s.length:Int)) <|
  some ((s.drop ((prefix_.length:Int)).toNat),true)
 )
def Zwh (s:Str) (prefix_:Str):Option (Str×Bool):=
 (ZrK s prefix_).bind fun(after,found)=>
 some (after,found)
def Zrw (s:Str) (prefix_:Str):Option Str:=
 (Zp0 s prefix_).bind fun q=>
 bif q then (
  chk (Zb9 (prefix_.length:Int) (s.length:Int) (s.length:Int)) <|
  some (s.drop ((prefix_.length:Int)).toNat)
 )else (
  some s
 )
def ZvU (s:Str) (prefix_:Str):Option Str:=
 (Zrw s prefix_).bind fun q=>
 some q
def ZrJ (s:Str) (c:Int):Option Int:=
 some (Lib.indexByte s c.toNat.toUInt8)
def Zr5 (s:Str) (substr:Str) (n:Int) (t16:Bool):Option Int:=
 bif t16 then (
  some (0:Int)
 )else (
  bif (n == 1)then (
   (idx substr 0).bind fun c=>
   (ZrJ s ((c.toNat:Nat):Int)).bind fun q=>
   some q
  )else (
   bif (decide (n≥(s.length:Int)))then (
    some (-1:Int)
   )else (
    none
   )
  )
 )
def ZsW (s:Str) (substr:Str):Option Int:=
 bif ((substr.length:Int) == 0)then (
  Zr5 s substr (substr.length:Int) true
 )else (
  Zr5 s substr (substr.length:Int) (substr == s)
 )
def ZtJ (s:Str) (sep:Str):Option (Str×Str×Bool):=
 (ZsW s sep).bind fun i=>
 bif (decide (i≥0))then (
  chk (Zb9 0 i (s.length:Int)) <|
  chk (inK .i64 (i+(sep.length:Int))) <|
  chk (Zb9 (i+(sep.length:Int)) (s.length:Int) (s.length:Int)) <|
  some ((s.take (i).toNat),(s.drop ((i+(sep.length:Int))).toNat),true)
 )else (
  some (s,([]:Str),false)
 )
def Zxr (s:Str) (sep:Str):Option (Str×Str×Bool):=
 (ZtJ s sep).bind fun(before,after,found)=>
 some (before,after,found)
def Zup (t4:Bool):Option Bool:=
 some t4
def ZvK (s:Str) (most:Int):Option Bool:=
 bif (decide ((s.length:Int)≥1))then (
  bif (decide ((s.length:Int)≤most))then (
   (Zx2 s ([48,49,50,51,52,53,54,55,56,57]:Str)).bind fun q=>
   Zup (q == ([]:Str))
  )else (
   Zup false
  )
 )else (
  Zup false
 )
def Zuh (out:(List Int)):Option (List Int):=
 (Zor out).bind fun q=>
 some q
def Zui (rec_:(List Int)→(List Int)→Int→Int→(List Int)→Option (List Int)) (v_:(List Int)) (i:Int) (carry:Int) (t17:(List Int)) (t18:Int) (i_1:Int) (out:(List Int)):Option (List Int):=
 chk (inK .i64 (i+(v_.length:Int))) <|
 chk (inR (i+(v_.length:Int)) (out.length:Int)) <|
 chk (inK .i64 (i_1+1)) <|
 rec_ v_ t17 t18 (i_1+1) (out.set (((i+(v_.length:Int))).toNat) (IntKind.wrap .u32 carry))
def Zrx (rec_:(List Int)→Int→Int→Int→(List Int)→Int→Int→(List Int)→Int→Int→(List Int)→Option ((List Int)×Int×Int×(List Int)×Int×Int×(List Int))) (v_:(List Int)) (i:Int) (x_:Int) (carry:Int) (t17:(List Int)) (t18:Int) (i_1:Int) (t24:(List Int)) (t25:Int) (j:Int) (out:(List Int)):Option ((List Int)×Int×Int×(List Int)×Int×Int×(List Int)):=
 bif (decide (j < t25))then (
  (idx t24 j).bind fun y=>
  chk (inK .i64 (i+j)) <|
  chk (inR (i+j) (out.length:Int)) <|
  (out[((i+j)).toNat]?).bind fun out_e=>
  chk (inK .i64 (i+j)) <|
  chk (inR (i+j) (out.length:Int)) <|
  chk (decide (0≤(32:Int))) <|
  chk (inK .i64 (j+1)) <|
  rec_ v_ i x_ (shrK .u64 (IntKind.wrap .u64 (carry+(IntKind.wrap .u64 ((IntKind.wrap .u64 ((IntKind.wrap .u64 x_)*(IntKind.wrap .u64 y)))+(IntKind.wrap .u64 out_e))))) 32) t17 t18 i_1 t24 t25 (j+1) (out.set (((i+j)).toNat) (IntKind.wrap .u32 (IntKind.wrap .u64 (carry+(IntKind.wrap .u64 ((IntKind.wrap .u64 ((IntKind.wrap .u64 x_)*(IntKind.wrap .u64 y)))+(IntKind.wrap .u64 out_e)))))))
 )else (
  some (v_,i,carry,t17,t18,i_1,out)
 )
def Zsl:Nat→(List Int)→Int→Int→Int→(List Int)→Int→Int→(List Int)→Int→Int→(List Int)→Option ((List Int)×Int×Int×(List Int)×Int×Int×(List Int))
 |0,_,_,_,_,_,_,_,_,_,_,_=>none
 |n_+1,v_,i,x_,carry,t17,t18,i_1,t24,t25,j,out=>Zrx (Zsl n_) v_ i x_ carry t17 t18 i_1 t24 t25 j out
def Zvp (n:Nat) (s:((List Int)×Int×Int×Int×(List Int)×Int×Int×(List Int)×Int×Int×(List Int))):Option ((List Int)×Int×Int×(List Int)×Int×Int×(List Int)):=Zsl n s.1 s.2.1 s.2.2.1 s.2.2.2.1 s.2.2.2.2.1 s.2.2.2.2.2.1 s.2.2.2.2.2.2.1 s.2.2.2.2.2.2.2.1 s.2.2.2.2.2.2.2.2.1 s.2.2.2.2.2.2.2.2.2.1 s.2.2.2.2.2.2.2.2.2.2
def Ztl (rec_:((List Int)×Int×Int×Int×(List Int)×Int×Int×(List Int)×Int×Int×(List Int))→Option ((List Int)×Int×Int×(List Int)×Int×Int×(List Int))) (s:((List Int)×Int×Int×Int×(List Int)×Int×Int×(List Int)×Int×Int×(List Int))):Option ((List Int)×Int×Int×(List Int)×Int×Int×(List Int)):=Zrx (fun v_ i x_ carry t17 t18 i_1 t24 t25 j out=>rec_ (v_,i,x_,carry,t17,t18,i_1,t24,t25,j,out)) s.1 s.2.1 s.2.2.1 s.2.2.2.1 s.2.2.2.2.1 s.2.2.2.2.2.1 s.2.2.2.2.2.2.1 s.2.2.2.2.2.2.2.1 s.2.2.2.2.2.2.2.2.1 s.2.2.2.2.2.2.2.2.2.1 s.2.2.2.2.2.2.2.2.2.2
theorem Zxs:∀n s,Zvp (n+1) s=Ztl (Zvp n) s:=fun _ _=>rfl
def Zry (rec_:(List Int)→(List Int)→Int→Int→(List Int)→Option (List Int)) (v_:(List Int)) (t17:(List Int)) (t18:Int) (i:Int) (out:(List Int)):Option (List Int):=
 bif (decide (i < t18))then (
  (idx t17 i).bind fun x_=>
  (Zsl big v_ i x_ (0:Int) t17 t18 i v_ (v_.length:Int) (0:Int) out).bind fun(x0,x1,x2,x3,x4,x5,x6)=>Zui rec_ x0 x1 x2 x3 x4 x5 x6
 )else (
  some out
 )
def ZqD:Nat→(List Int)→(List Int)→Int→Int→(List Int)→Option (List Int)
 |0,_,_,_,_,_=>none
 |n_+1,v_,t17,t18,i,out=>Zry (ZqD n_) v_ t17 t18 i out
def Zvq (n:Nat) (s:((List Int)×(List Int)×Int×Int×(List Int))):Option (List Int):=ZqD n s.1 s.2.1 s.2.2.1 s.2.2.2.1 s.2.2.2.2
def Ztm (rec_:((List Int)×(List Int)×Int×Int×(List Int))→Option (List Int)) (s:((List Int)×(List Int)×Int×Int×(List Int))):Option (List Int):=Zry (fun v_ t17 t18 i out=>rec_ (v_,t17,t18,i,out)) s.1 s.2.1 s.2.2.1 s.2.2.2.1 s.2.2.2.2
theorem Zxt:∀n s,Zvq (n+1) s=Ztm (Zvq n) s:=fun _ _=>rfl
def ZpQ (w_:(List Int)) (v_:(List Int)):Option (List Int):=
 chk (inK .i64 ((w_.length:Int)+(v_.length:Int))) <|
 chk (mkOk ((w_.length:Int)+(v_.length:Int)) ((w_.length:Int)+(v_.length:Int)) 4) <|
 (ZqD big v_ w_ (w_.length:Int) (0:Int) (List.replicate (((w_.length:Int)+(v_.length:Int))).toNat (0:Int))).bind fun x0=>Zuh x0
def ZuB (carry:Int) (out:(List Int)):Option (List Int):=
 chk (ZiZ (out.length+([carry]:(List Int)).length) 4) <|
 (Zor (out++([carry]:(List Int)))).bind fun q=>
 some q
def ZrR (rec_:(List Int)→(List Int)→Int→Int→Int→(List Int)→Option (Int×(List Int))) (w_:(List Int)) (v_:(List Int)) (carry:Int) (t20:Int) (i:Int) (out:(List Int)):Option (Int×(List Int)):=
 bif (decide (i < t20))then (
  (Zq1 w_ i).bind fun q=>
  (Zq1 v_ i).bind fun q_1=>
  (Zs1 q q_1 carry).bind fun(d,carry_1)=>
  chk (ZiZ (out.length+([d]:(List Int)).length) 4) <|
  chk (inK .i64 (i+1)) <|
  rec_ w_ v_ carry_1 t20 (i+1) (out++([d]:(List Int)))
 )else (
  some (carry,out)
 )
def Zsu:Nat→(List Int)→(List Int)→Int→Int→Int→(List Int)→Option (Int×(List Int))
 |0,_,_,_,_,_,_=>none
 |n_+1,w_,v_,carry,t20,i,out=>ZrR (Zsu n_) w_ v_ carry t20 i out
def ZvR (n:Nat) (s:((List Int)×(List Int)×Int×Int×Int×(List Int))):Option (Int×(List Int)):=Zsu n s.1 s.2.1 s.2.2.1 s.2.2.2.1 s.2.2.2.2.1 s.2.2.2.2.2
def ZtK (rec_:((List Int)×(List Int)×Int×Int×Int×(List Int))→Option (Int×(List Int))) (s:((List Int)×(List Int)×Int×Int×Int×(List Int))):Option (Int×(List Int)):=ZrR (fun w_ v_ carry t20 i out=>rec_ (w_,v_,carry,t20,i,out)) s.1 s.2.1 s.2.2.1 s.2.2.2.1 s.2.2.2.2.1 s.2.2.2.2.2
theorem ZxE:∀n s,ZvR (n+1) s=ZtK (ZvR n) s:=fun _ _=>rfl
def Zq3 (w_:(List Int)) (v_:(List Int)):Option (List Int):=
 chk (inK .i64 ((if (v_.length:Int) > (w_.length:Int)then (v_.length:Int)else (w_.length:Int))+1)) <|
 chk (mkOk 0 ((if (v_.length:Int) > (w_.length:Int)then (v_.length:Int)else (w_.length:Int))+1) 4) <|
 (Zsu big w_ v_ (0:Int) (if (v_.length:Int) > (w_.length:Int)then (v_.length:Int)else (w_.length:Int)) (0:Int) (List.replicate ((0:Int)).toNat (0:Int))).bind fun(x0,x1)=>ZuB x0 x1
def ZtT (neg:Bool) (num:(List Int)) (den:(List Int)) (t2:Bool) (t2_1:Bool) (t2_2:(List Int)) (t2_3:(List Int)):Option (ZnB×Bool):=
 (ZoA neg num).bind fun q=>
 (ZoA false den).bind fun q_1=>
 (Zqn q q_1).bind fun q_2=>
 some (q_2,true)
def Zyf (rec_:Bool→(List Int)→(List Int)→(List Int)→Int→Int→Bool→Bool→(List Int)→(List Int)→Option (Bool×(List Int)×(List Int)×Bool×Bool×(List Int)×(List Int))) (neg:Bool) (num:(List Int)) (ten:(List Int)) (den:(List Int)) (t63:Int) (t64:Int) (t2:Bool) (t2_1:Bool) (t2_2:(List Int)) (t2_3:(List Int)):Option (Bool×(List Int)×(List Int)×Bool×Bool×(List Int)×(List Int)):=
 bif (decide (t64 < t63))then (
  (ZpQ den ten).bind fun den_1=>
  chk (inK .i64 (t64+1)) <|
  rec_ neg num ten den_1 t63 (t64+1) t2 t2_1 t2_2 t2_3
 )else (
  some (neg,num,den,t2,t2_1,t2_2,t2_3)
 )
def Zvz:Nat→Bool→(List Int)→(List Int)→(List Int)→Int→Int→Bool→Bool→(List Int)→(List Int)→Option (Bool×(List Int)×(List Int)×Bool×Bool×(List Int)×(List Int))
 |0,_,_,_,_,_,_,_,_,_,_=>none
 |n_+1,neg,num,ten,den,t63,t64,t2,t2_1,t2_2,t2_3=>Zyf (Zvz n_) neg num ten den t63 t64 t2 t2_1 t2_2 t2_3
def ZwX (neg:Bool) (back:Str) (num:(List Int)) (ten:(List Int)) (t2:Bool) (t2_1:Bool) (den:(List Int)) (t2_2:(List Int)) (t2_3:(List Int)):Option (ZnB×Bool):=
 (Zvz big neg num ten den (back.length:Int) (0:Int) t2 t2_1 t2_2 t2_3).bind fun(x0,x1,x2,x3,x4,x5,x6)=>ZtT x0 x1 x2 x3 x4 x5 x6
def Zyg (rec_:Bool→Str→(List Int)→(List Int)→Int→Int→Bool→Bool→(List Int)→(List Int)→(List Int)→(List Int)→Option (Bool×Str×(List Int)×(List Int)×Bool×Bool×(List Int)×(List Int)×(List Int))) (neg:Bool) (back:Str) (num:(List Int)) (ten:(List Int)) (t48:Int) (t49:Int) (t2:Bool) (t2_1:Bool) (den:(List Int)) (t47:(List Int)) (t2_2:(List Int)) (t2_3:(List Int)):Option (Bool×Str×(List Int)×(List Int)×Bool×Bool×(List Int)×(List Int)×(List Int)):=
 bif (decide (t49 < t48))then (
  chk (inR t49 (t47.length:Int)) <|
  (t47[(t49).toNat]?).bind fun d=>
  (ZpQ num ten).bind fun q=>
  (ZrF (IntKind.wrap .u64 (IntKind.wrap .u8 (d - 48)))).bind fun q_1=>
  (Zq3 q q_1).bind fun num_1=>
  chk (inK .i64 (t49+1)) <|
  rec_ neg back num_1 ten t48 (t49+1) t2 t2_1 den t47 t2_2 t2_3
 )else (
  some (neg,back,num,ten,t2,t2_1,den,t2_2,t2_3)
 )
def ZvA:Nat→Bool→Str→(List Int)→(List Int)→Int→Int→Bool→Bool→(List Int)→(List Int)→(List Int)→(List Int)→Option (Bool×Str×(List Int)×(List Int)×Bool×Bool×(List Int)×(List Int)×(List Int))
 |0,_,_,_,_,_,_,_,_,_,_,_,_=>none
 |n_+1,neg,back,num,ten,t48,t49,t2,t2_1,den,t47,t2_2,t2_3=>Zyg (ZvA n_) neg back num ten t48 t49 t2 t2_1 den t47 t2_2 t2_3
def ZtU (neg:Bool) (front:Str) (back:Str) (t39:Bool) (t2:Bool) (t2_1:Bool) (t2_2:(List Int)) (t2_3:(List Int)):Option (ZnB×Bool):=
 bif t39 then (
  some ((ZnB.mk (ZnF.mk false ([]:(List Int))) (ZnF.mk false ([]:(List Int)))),false)
 )else (
  (ZoQ ([1]:List Int)).bind fun den=>
  chk (decide (front.length+back.length≤Zq)) <|
  chk (decide ((front++back).length≤281474976710656)) <|
  (ZvA big neg back ([]:(List Int)) ([10]:(List Int)) (((front++back).map fun b=>((b.toNat:Nat):Int)).length:Int) (0:Int) t2 t2_1 den ((front++back).map fun b=>((b.toNat:Nat):Int)) t2_2 t2_3).bind fun(x0,x1,x2,x3,x4,x5,x6,x7,x8)=>ZwX x0 x1 x2 x3 x4 x5 x6 x7 x8
 )
def ZvB (body:Str) (neg:Bool) (t2:Bool) (t2_1:Bool) (t2_2:(List Int)) (t2_3:(List Int)):Option (ZnB×Bool):=
 (Zxr body ([46]:Str)).bind fun(front,back,point)=>
 (ZvK front 15).bind fun q=>
 bif (!q)then (
  ZtU neg front back true t2 t2_1 t2_2 t2_3
 )else (
  bif point then (
   (ZvK back 9).bind fun q_1=>
   ZtU neg front back (!q_1) t2 t2_1 t2_2 t2_3
  )else (
   ZtU neg front back false t2 t2_1 t2_2 t2_3
  )
 )
def Zsw (text:Str):Option (ZnB×Bool):=
 (Zwh text ([45]:Str)).bind fun(body,neg)=>
 bif (!neg)then (
  (ZvU text ([43]:Str)).bind fun body_1=>
  ZvB body_1 neg false false ([]:(List Int)) ([]:(List Int))
 )else (
  ZvB body neg false false ([]:(List Int)) ([]:(List Int))
 )
def Zwp (s cs:Str):Option Str:=
 chk (cs.all fun b=>decide (b.toNat < 128)) <| chk (decide (cs.length < 4294967281)) <| some (Lib.trimLeftS s cs)
def ZxC (s cs:Str):Option Str:=
 chk (cs.all fun b=>decide (b.toNat < 128)) <| chk (decide (cs.length < 4294967281)) <| some (Lib.trimRightS s cs)
def ZxU (zero:Str):Option Str:=
 some zero
def ZyH (rec_:Str→(List Str)→Int→Int→Option (Out Str Str)) (zero:Str) (t6:(List Str)) (t7:Int) (t8:Int):Option (Out Str Str):=
 bif (decide (t8 < t7))then (
  (idx t6 t8).bind fun val=>
  bif (!(val == zero))then (
   some (.ret val)
  )else (
   chk (inK .i64 (t8+1)) <|
   rec_ zero t6 t7 (t8+1)
  )
 )else (
  some (.brk zero)
 )
def Zwy:Nat→Str→(List Str)→Int→Int→Option (Out Str Str)
 |0,_,_,_,_=>none
 |n_+1,zero,t6,t7,t8=>ZyH (Zwy n_) zero t6 t7 t8
def ZxH (vals:(List Str)):Option Str:=
 (Zwy big ([]:Str) vals (vals.length:Int) (0:Int)).bind fun
  | .ret q_=>some q_
  | .brk x0=>ZxU x0
def Zwm (out:Str):Option (Str×Bool):=
 some (out,true)
def Zwn (out:Str) (t43:Bool):Option (Str×Bool):=
 bif t43 then (
  chk (decide (([45]:Str).length+out.length≤Zq)) <|
  Zwm (([45]:Str)++out)
 )else (
  Zwm out
 )
def Zwo (t:Str) (out:Str):Option (Str×Bool):=
 (idx t 0).bind fun c=>
 bif (((c.toNat:Nat):Int) == 45)then (
  Zwn out (!(out == ([48]:Str)))
 )else (
  Zwn out false
 )
def Zvg (t:Str):Option (Str×Bool):=
 (Zsw t).bind fun(q,ok)=>
 bif (!ok)then (
  some (([]:Str),false)
 )else (
  (Zwp t ([43,45]:Str)).bind fun q_1=>
  (Zxr q_1 ([46]:Str)).bind fun(front,back,q_2)=>
  (Zwp front ([48]:Str)).bind fun front_1=>
  (ZxC back ([48]:Str)).bind fun back_1=>
  (ZxH ([front_1,([48]:Str)]:(List Str))).bind fun out=>
  bif (!(back_1 == ([]:Str)))then (
   chk (decide (([46]:Str).length+back_1.length≤Zq)) <|
   chk (decide (out.length+(([46]:Str)++back_1).length≤Zq)) <|
   Zwo t (out++(([46]:Str)++back_1))
  )else (
   Zwo t out
  )
 )
def Zuv (n:Int) (s:Str):Option (Str×Bool):=
 (Zxg).bind fun q=>
 bif (!(Zg3 (k:=(.int .i64)) (v:=(.st 6)) (car:=Zw1) q n).isSome)then (
  some (([]:Str),false)
 )else (
  bif (Option.isNone (((Zg3 (k:=(.int .i64)) (v:=(.st 6)) (car:=Zw1) q n).getD (Zpj.mk ([]:Str) (none:Option Nat) (none:Option Nat))).canonical))then (
   some (s,true)
  )else (
   (ZyM s).bind fun q_1=>
   chk (decide (((Zg3 (k:=(.int .i64)) (v:=(.st 6)) (car:=Zw1) q n).getD (Zpj.mk ([]:Str) (none:Option Nat) (none:Option Nat))).canonical=some 140)) <|
   (Zvg q_1).bind fun(q_2,q_3)=>
   some (q_2,q_3)
  )
 )
def Zxh (n:Int) (s:Str):Option (ZnB×Bool):=
 (Zuv n s).bind fun(t,ok)=>
 bif (!ok)then (
  some ((ZnB.mk (ZnF.mk false ([]:(List Int))) (ZnF.mk false ([]:(List Int)))),false)
 )else (
  (Zxg).bind fun q=>
  chk (decide (((Zg3 (k:=(.int .i64)) (v:=(.st 6)) (car:=Zw1) q n).getD (Zpj.mk ([]:Str) (none:Option Nat) (none:Option Nat))).value=some 139)) <|
  (Zsw t).bind fun(q_1,q_2)=>
  some (q_1,q_2)
 )
def ZpH (c:ZnC):Option (ZnB×Bool):=
 bif c.Null then (
  (Zxw).bind fun q=>
  some (q,false)
 )else (
  (Zxh 4 c.Text).bind fun(q_1,q_2)=>
  some (q_1,q_2)
 )
def Zw8 (h_:Int):Option Int:=
 some h_
def Zvb (rec_:Str→Int→Int→Int→Option Int) (s:Str) (h_:Int) (t6:Int) (i:Int):Option Int:=
 bif (decide (i < t6))then (
  (idx s i).bind fun c=>
  chk (inK .i64 (i+1)) <|
  rec_ s (IntKind.wrap .u64 ((xorK .u64 h_ (IntKind.wrap .u64 ((c.toNat:Nat):Int)))*1099511628211)) t6 (i+1)
 )else (
  some h_
 )
def Zwf:Nat→Str→Int→Int→Int→Option Int
 |0,_,_,_,_=>none
 |n_+1,s,h_,t6,i=>Zvb (Zwf n_) s h_ t6 i
def ZxS (n:Nat) (s:(Str×Int×Int×Int)):Option Int:=Zwf n s.1 s.2.1 s.2.2.1 s.2.2.2
def Zws (rec_:(Str×Int×Int×Int)→Option Int) (s:(Str×Int×Int×Int)):Option Int:=Zvb (fun s h_ t6 i=>rec_ (s,h_,t6,i)) s.1 s.2.1 s.2.2.1 s.2.2.2
theorem ZyO:∀n s,ZxS (n+1) s=Zws (ZxS n) s:=fun _ _=>rfl
def ZsV (s:Str):Option Int:=
 (Zwf big s (14695981039346656037:Int) (s.length:Int) (0:Int)).bind fun x0=>Zw8 x0
def Zr7 (t2:Bool):Option Bool:=
 some t2
def ZsG (f:ZnB):Option Bool:=
 (ZuE ([f.Num,f.Den]:(List ZnF))).bind fun q=>
 bif q then (
  bif (decide ((f.Den.Words.length:Int) > 0))then (
   bif (!f.Den.Neg)then (
    (Zqg f.Num.Words f.Den.Words).bind fun q_1=>
    (ZoT q_1 ([1]:List Int)).bind fun q_2=>
    Zr7 (q_2 == 0)
   )else (
    Zr7 false
   )
  )else (
   Zr7 false
  )
 )else (
  Zr7 false
 )
def Zpq (a:ZnF) (b:ZnF):Option ZnF:=
 (ZpQ a.Words b.Words).bind fun q=>
 (ZoA (!(a.Neg == b.Neg)) q).bind fun q_1=>
 some q_1
def Zuk (out:(List Int)):Option (List Int):=
 (Zor out).bind fun q=>
 some q
def ZrB (rec_:(List Int)→(List Int)→Int→Int→Int→(List Int)→Option (List Int)) (w_:(List Int)) (v_:(List Int)) (borrow:Int) (t12:Int) (i:Int) (out:(List Int)):Option (List Int):=
 bif (decide (i < t12))then (
  (idx w_ i).bind fun w__e=>
  (Zq1 v_ i).bind fun q=>
  (Zr4 w__e q borrow).bind fun(q_1,borrow_1)=>
  chk (inR i (out.length:Int)) <|
  chk (inK .i64 (i+1)) <|
  rec_ w_ v_ borrow_1 t12 (i+1) (out.set ((i).toNat) q_1)
 )else (
  some out
 )
def Zsn:Nat→(List Int)→(List Int)→Int→Int→Int→(List Int)→Option (List Int)
 |0,_,_,_,_,_,_=>none
 |n_+1,w_,v_,borrow,t12,i,out=>ZrB (Zsn n_) w_ v_ borrow t12 i out
def Zvs (n:Nat) (s:((List Int)×(List Int)×Int×Int×Int×(List Int))):Option (List Int):=Zsn n s.1 s.2.1 s.2.2.1 s.2.2.2.1 s.2.2.2.2.1 s.2.2.2.2.2
def Ztp (rec_:((List Int)×(List Int)×Int×Int×Int×(List Int))→Option (List Int)) (s:((List Int)×(List Int)×Int×Int×Int×(List Int))):Option (List Int):=ZrB (fun w_ v_ borrow t12 i out=>rec_ (w_,v_,borrow,t12,i,out)) s.1 s.2.1 s.2.2.1 s.2.2.2.1 s.2.2.2.2.1 s.2.2.2.2.2
theorem Zxv:∀n s,Zvs (n+1) s=Ztp (Zvs n) s:=fun _ _=>rfl
def Zqt (w_:(List Int)) (v_:(List Int)):Option (List Int):=
 chk (mkOk (w_.length:Int) (w_.length:Int) 4) <|
 (Zsn big w_ v_ (0:Int) (w_.length:Int) (0:Int) (List.replicate ((w_.length:Int)).toNat (0:Int))).bind fun x0=>Zuk x0
def Zu0 (a:ZnF) (b:ZnF):Option ZnF:=
 bif (a.Neg == b.Neg)then (
  (Zq3 a.Words b.Words).bind fun q=>
  (ZoA a.Neg q).bind fun q_1=>
  some q_1
 )else (
  (ZoT a.Words b.Words).bind fun q_2=>
  bif (decide (q_2≥0))then (
   (Zqt a.Words b.Words).bind fun q_3=>
   (ZoA a.Neg q_3).bind fun q_4=>
   some q_4
  )else (
   (Zqt b.Words a.Words).bind fun q_5=>
   (ZoA b.Neg q_5).bind fun q_6=>
   some q_6
  )
 )
def Zww (a:ZnB) (b:ZnB):Option (ZnF×ZnF):=
 (Zpq a.Num b.Den).bind fun q=>
 (Zpq b.Num a.Den).bind fun q_1=>
 (Zu0 q q_1).bind fun num=>
 (Zpq a.Den b.Den).bind fun den=>
 some (num,den)
def Zqo (t18:Bool) (a:ZnB) (b:ZnB) (t6:Bool) (t6_1:Bool) (t6_2:(List Int)) (t6_3:(List Int)):Option (ZnB×Int):=
 bif t18 then (
  some ((ZnB.mk (ZnF.mk false ([]:(List Int))) (ZnF.mk false ([]:(List Int)))),1)
 )else (
  (Zww a b).bind fun(num,den)=>
  bif ((den.Words.length:Int) == 0)then (
   some ((ZnB.mk (ZnF.mk false ([]:(List Int))) (ZnF.mk false ([]:(List Int)))),8)
  )else (
   (Zqn num den).bind fun f=>
   bif (decide ((if (f.Den.Words.length:Int) > (f.Num.Words.length:Int)then (f.Den.Words.length:Int)else (f.Num.Words.length:Int)) > 256))then (
    some ((ZnB.mk (ZnF.mk false ([]:(List Int))) (ZnF.mk false ([]:(List Int)))),3)
   )else (
    some (f,0)
   )
  )
 )
def ZrE (a:ZnB) (b:ZnB):Option (ZnB×Int):=
 (ZsG a).bind fun q=>
 bif (!q)then (
  Zqo true a b false false ([]:(List Int)) ([]:(List Int))
 )else (
  (ZsG b).bind fun q_1=>
  Zqo (!q_1) a b false false ([]:(List Int)) ([]:(List Int))
 )
def Zwc (a:ZnB) (b:ZnB):Option (ZnB×Int):=
 (ZrE a b).bind fun(q,q_1)=>
 some (q,q_1)
def Zye (f:ZnB) (a1:Int):Option ZnB:=
 some f
def Zyt (a:ZnB) (b:ZnB):Option ZnB:=
 (Zwc a b).bind fun(q,q_1)=>
 (Zye q q_1).bind fun q_2=>
 some q_2
def ZvV (x_:Int) (n:Int):Option Int:=
 (idx ([0,1,2,2,3,3,3,3,4,4,4,4,4,4,4,4,5,5,5,5,5,5,5,5,5,5,5,5,5,5,5,5,6,6,6,6,6,6,6,6,6,6,6,6,6,6,6,6,6,6,6,6,6,6,6,6,6,6,6,6,6,6,6,6,7,7,7,7,7,7,7,7,7,7,7,7,7,7,7,7,7,7,7,7,7,7,7,7,7,7,7,7,7,7,7,7,7,7,7,7,7,7,7,7,7,7,7,7,7,7,7,7,7,7,7,7,7,7,7,7,7,7,7,7,7,7,7,7,8,8,8,8,8,8,8,8,8,8,8,8,8,8,8,8,8,8,8,8,8,8,8,8,8,8,8,8,8,8,8,8,8,8,8,8,8,8,8,8,8,8,8,8,8,8,8,8,8,8,8,8,8,8,8,8,8,8,8,8,8,8,8,8,8,8,8,8,8,8,8,8,8,8,8,8,8,8,8,8,8,8,8,8,8,8,8,8,8,8,8,8,8,8,8,8,8,8,8,8,8,8,8,8,8,8,8,8,8,8,8,8,8,8,8,8,8,8,8,8,8,8,8,8,8,8,8,8]:Str) (IntKind.wrap .u8 x_)).bind fun c=>
 chk (inK .i64 (n+(IntKind.wrap .i64 ((c.toNat:Nat):Int)))) <|
 some (n+(IntKind.wrap .i64 ((c.toNat:Nat):Int)))
def ZvW (x_:Int) (n:Int):Option Int:=
 bif (decide (x_≥256))then (
  chk (decide (0≤(8:Int))) <|
  chk (inK .i64 (n+8)) <|
  ZvV (shrK .u64 x_ 8) (n+8)
 )else (
  ZvV x_ n
 )
def ZvX (x_:Int) (n:Int):Option Int:=
 bif (decide (x_≥65536))then (
  chk (decide (0≤(16:Int))) <|
  chk (inK .i64 (n+16)) <|
  ZvW (shrK .u64 x_ 16) (n+16)
 )else (
  ZvW x_ n
 )
def ZwF (x_:Int):Option Int:=
 bif (decide (x_≥4294967296))then (
  chk (decide (0≤(32:Int))) <|
  ZvX (shrK .u64 x_ 32) (32:Int)
 )else (
  ZvX x_ (0:Int)
 )
def Zwt (x_:Int):Option Int:=
 (ZwF x_).bind fun q=>
 some q
def ZtV (x_:Int):Option Bool:=
 some (x_ != x_)
def Zur (x_:Int) (y:Int):Option Int:=
 (ZtV x_).bind fun xNaN=>
 (ZtV y).bind fun yNaN=>
 bif xNaN then (
  bif yNaN then (
   some (0:Int)
  )else (
   some (-1:Int)
  )
 )else (
  bif yNaN then (
   some (1:Int)
  )else (
   bif (decide (x_ < y))then (
    some (-1:Int)
   )else (
    bif (decide (x_ > y))then (
     some (1:Int)
    )else (
     some (0:Int)
    )
   )
  )
 )
def Zp1 (a b:Str):Option Int:=
 some (Lib.compareBytes a b)
def ZvH (a:Str) (b:Str):Option Int:=
 (Zp1 a b).bind fun q=>
 some q
def ZxI (zero:Int):Option Int:=
 some zero
def Zr9 (rec_:Int→(List Int)→Int→Int→Option (Out Int Int)) (zero:Int) (t6:(List Int)) (t7:Int) (t8:Int):Option (Out Int Int):=
 bif (decide (t8 < t7))then (
  (idx t6 t8).bind fun val=>
  bif (val != zero)then (
   some (.ret val)
  )else (
   chk (inK .i64 (t8+1)) <|
   rec_ zero t6 t7 (t8+1)
  )
 )else (
  some (.brk zero)
 )
def ZvD:Nat→Int→(List Int)→Int→Int→Option (Out Int Int)
 |0,_,_,_,_=>none
 |n_+1,zero,t6,t7,t8=>Zr9 (ZvD n_) zero t6 t7 t8
def ZwY (vals:(List Int)):Option Int:=
 (ZvD big (0:Int) vals (vals.length:Int) (0:Int)).bind fun
  | .ret q_=>some q_
  | .brk x0=>ZxI x0
def ZoV (a:ZnA) (b:ZnA):Option Int:=
 (Zur a.Hash b.Hash).bind fun q=>
 (ZvH a.Key b.Key).bind fun q_1=>
 (ZwY ([q,q_1]:(List Int))).bind fun q_2=>
 some q_2
def Zo5 (data:(List ZnA)):Option (List ZnA):=
 some data
def Zo6 (rec_:Int→Int→Int→(List ZnA)→Option (List ZnA)) (a:Int) (b:Int) (i:Int) (data:(List ZnA)):Option (List ZnA):=
 chk (inK .i64 (i+1)) <|
 rec_ a b (i+1) data
def Zoq (rec_:Int→Int→Int→Int→(List ZnA)→Option (Int×Int×Int×(List ZnA))) (a:Int) (b:Int) (i:Int) (j:Int) (t34:Bool) (data:(List ZnA)):Option (Int×Int×Int×(List ZnA)):=
 bif t34 then (
  chk (inK .i64 (j - 1)) <|
  chk (inK .i64 (j - 1)) <|
  chk (inR (j - 1) (data.length:Int)) <|
  (data[((j - 1)).toNat]?).bind fun data_e=>
  chk (inR j (data.length:Int)) <|
  (data[(j).toNat]?).bind fun data_e_1=>
  chk (inR j (data.length:Int)) <|
  chk (inR (j - 1) ((data.set ((j).toNat) data_e).length:Int)) <|
  chk (inK .i64 (j - 1)) <|
  rec_ a b i (j - 1) ((data.set ((j).toNat) data_e).set (((j - 1)).toNat) data_e_1)
 )else (
  some (a,b,i,data)
 )
def ZoU (rec_:Int→Int→Int→Int→(List ZnA)→Option (Int×Int×Int×(List ZnA))) (a:Int) (b:Int) (i:Int) (j:Int) (data:(List ZnA)):Option (Int×Int×Int×(List ZnA)):=
 bif (decide (j > a))then (
  chk (inR j (data.length:Int)) <|
  (data[(j).toNat]?).bind fun data_e=>
  chk (inK .i64 (j - 1)) <|
  chk (inR (j - 1) (data.length:Int)) <|
  (data[((j - 1)).toNat]?).bind fun data_e_1=>
  (ZoV data_e data_e_1).bind fun q=>
  Zoq rec_ a b i j (decide (q < 0)) data
 )else (
  Zoq rec_ a b i j false data
 )
def ZnS:Nat→Int→Int→Int→Int→(List ZnA)→Option (Int×Int×Int×(List ZnA))
 |0,_,_,_,_,_=>none
 |n_+1,a,b,i,j,data=>ZoU (ZnS n_) a b i j data
def Zp8 (n:Nat) (s:(Int×Int×Int×Int×(List ZnA))):Option (Int×Int×Int×(List ZnA)):=ZnS n s.1 s.2.1 s.2.2.1 s.2.2.2.1 s.2.2.2.2
def Zp9 (rec_:(Int×Int×Int×Int×(List ZnA))→Option (Int×Int×Int×(List ZnA))) (s:(Int×Int×Int×Int×(List ZnA))):Option (Int×Int×Int×(List ZnA)):=ZoU (fun a b i j data=>rec_ (a,b,i,j,data)) s.1 s.2.1 s.2.2.1 s.2.2.2.1 s.2.2.2.2
theorem Ztk:∀n s,Zp8 (n+1) s=Zp9 (Zp8 n) s:=fun _ _=>rfl
def Zn2 (rec_:Int→Int→Int→(List ZnA)→Option (List ZnA)) (a:Int) (b:Int) (i:Int) (data:(List ZnA)):Option (List ZnA):=
 bif (decide (i < b))then (
  (ZnS big a b i i data).bind fun(x0,x1,x2,x3)=>Zo6 rec_ x0 x1 x2 x3
 )else (
  some data
 )
def Zn5:Nat→Int→Int→Int→(List ZnA)→Option (List ZnA)
 |0,_,_,_,_=>none
 |n_+1,a,b,i,data=>Zn2 (Zn5 n_) a b i data
def Zoz (data:(List ZnA)) (a:Int) (b:Int):Option (List ZnA):=
 chk (inK .i64 (a+1)) <|
 (Zn5 big a b (a+1) data).bind fun x0=>Zo5 x0
def Zn9 (data:(List ZnA)) (a:Int) (b:Int):Option (List ZnA):=
 (Zoz data a b).bind fun r=>chk (decide (r.length=data.length)&&true) (some r)
def Zqe (data:(List ZnA)) (a:Int) (b:Int) (swaps:Int):Option (Int×Int×(List ZnA)×Int):=
 chk (inR b (data.length:Int)) <|
 (data[(b).toNat]?).bind fun data_e=>
 chk (inR a (data.length:Int)) <|
 (data[(a).toNat]?).bind fun data_e_1=>
 (ZoV data_e data_e_1).bind fun q=>
 bif (decide (q < 0))then (
  chk (inK .i64 (swaps+1)) <|
  some (b,a,data,(swaps+1))
 )else (
  some (a,b,data,swaps)
 )
def Zob (data:(List ZnA)) (a:Int) (b:Int) (swaps:Int):Option (Int×Int×(List ZnA)×Int):=
 (Zqe data a b swaps).bind fun r=>chk (decide (r.2.2.1.length=data.length)&&true) (some r)
def Zqf (data:(List ZnA)) (a:Int) (b:Int) (c:Int) (swaps:Int):Option (Int×(List ZnA)×Int):=
 (Zob data a b swaps).bind fun(a_1,b_1,t14,t17)=>
 (Zob t14 b_1 c t17).bind fun(b_2,c_1,t23,t26)=>
 (Zob t23 a_1 b_2 t26).bind fun(a_2,b_3,t32,t35)=>
 some (b_3,t32,t35)
def ZoX (data:(List ZnA)) (a:Int) (b:Int) (c:Int) (swaps:Int):Option (Int×(List ZnA)×Int):=
 (Zqf data a b c swaps).bind fun r=>chk (decide (r.2.1.length=data.length)&&true) (some r)
def ZqW (data:(List ZnA)) (a:Int) (swaps:Int):Option (Int×(List ZnA)×Int):=
 chk (inK .i64 (a - 1)) <|
 chk (inK .i64 (a+1)) <|
 (ZoX data (a - 1) a (a+1) swaps).bind fun(q,t9,t15)=>
 some (q,t9,t15)
def Zop (data:(List ZnA)) (a:Int) (swaps:Int):Option (Int×(List ZnA)×Int):=
 (ZqW data a swaps).bind fun r=>chk (decide (r.2.1.length=data.length)&&true) (some r)
def Zow (j:Int) (data:(List ZnA)) (swaps:Int):Option (Int×Int×(List ZnA)):=
 bif (swaps == 0)then (
  some (j,1,data)
 )else (
  bif (swaps == 12)then (
   some (j,2,data)
  )else (
   some (j,0,data)
  )
 )
def Zox (i:Int) (j:Int) (k:Int) (data:(List ZnA)) (swaps:Int):Option (Int×Int×(List ZnA)):=
 (ZoX data i j k swaps).bind fun(j_1,t49,swaps_1)=>
 Zow j_1 t49 swaps_1
def ZpG (data:(List ZnA)) (a:Int) (b:Int):Option (Int×Int×(List ZnA)):=
 chk (inK .i64 (b - a)) <|
 chk (decide ((4:Int)≠0)) <|
 chk (inK .i64 (Int.tdiv (b - a) 4)) <|
 chk (inK .i64 ((Int.tdiv (b - a) 4)*1)) <|
 chk (inK .i64 (a+((Int.tdiv (b - a) 4)*1))) <|
 chk (decide ((4:Int)≠0)) <|
 chk (inK .i64 (Int.tdiv (b - a) 4)) <|
 chk (inK .i64 ((Int.tdiv (b - a) 4)*2)) <|
 chk (inK .i64 (a+((Int.tdiv (b - a) 4)*2))) <|
 chk (decide ((4:Int)≠0)) <|
 chk (inK .i64 (Int.tdiv (b - a) 4)) <|
 chk (inK .i64 ((Int.tdiv (b - a) 4)*3)) <|
 chk (inK .i64 (a+((Int.tdiv (b - a) 4)*3))) <|
 bif (decide ((b - a)≥8))then (
  bif (decide ((b - a)≥50))then (
   (Zop data (a+((Int.tdiv (b - a) 4)*1)) 0).bind fun(i,t37,swaps)=>
   (Zop t37 (a+((Int.tdiv (b - a) 4)*2)) swaps).bind fun(j,t41,swaps_1)=>
   (Zop t41 (a+((Int.tdiv (b - a) 4)*3)) swaps_1).bind fun(k,t45,swaps_2)=>
   Zox i j k t45 swaps_2
  )else (
   Zox (a+((Int.tdiv (b - a) 4)*1)) (a+((Int.tdiv (b - a) 4)*2)) (a+((Int.tdiv (b - a) 4)*3)) data (0:Int)
  )
 )else (
  Zow (a+((Int.tdiv (b - a) 4)*2)) data (0:Int)
 )
def Zof (data:(List ZnA)) (a:Int) (b:Int):Option (Int×Int×(List ZnA)):=
 (ZpG data a b).bind fun r=>chk (decide (r.2.2.length=data.length)&&true) (some r)
def ZpJ (data:(List ZnA)):Option (Bool×(List ZnA)):=
 some (false,data)
def ZpK (rec_:Int→Int→Int→Int→(List ZnA)→Option (Out (List ZnA) (Bool×(List ZnA)))) (a:Int) (b:Int) (i:Int) (j:Int) (data:(List ZnA)):Option (Out (List ZnA) (Bool×(List ZnA))):=
 chk (inK .i64 (j+1)) <|
 rec_ a b i (j+1) data
def Zsr (rec_:Int→Int→Int→Int→Int→(List ZnA)→Option (Int×Int×Int×Int×(List ZnA))) (a:Int) (b:Int) (i:Int) (j:Int) (j_1:Int) (data:(List ZnA)):Option (Int×Int×Int×Int×(List ZnA)):=
 bif (decide (j_1 < b))then (
  chk (inR j_1 (data.length:Int)) <|
  (data[(j_1).toNat]?).bind fun data_e=>
  chk (inK .i64 (j_1 - 1)) <|
  chk (inR (j_1 - 1) (data.length:Int)) <|
  (data[((j_1 - 1)).toNat]?).bind fun data_e_1=>
  (ZoV data_e data_e_1).bind fun q=>
  bif (!(decide (q < 0)))then (
   some (a,b,i,j,data)
  )else (
   chk (inK .i64 (j_1 - 1)) <|
   chk (inK .i64 (j_1 - 1)) <|
   chk (inR (j_1 - 1) (data.length:Int)) <|
   (data[((j_1 - 1)).toNat]?).bind fun data_e_2=>
   chk (inR j_1 (data.length:Int)) <|
   (data[(j_1).toNat]?).bind fun data_e_3=>
   chk (inR j_1 (data.length:Int)) <|
   chk (inR (j_1 - 1) ((data.set ((j_1).toNat) data_e_2).length:Int)) <|
   chk (inK .i64 (j_1+1)) <|
   rec_ a b i j (j_1+1) ((data.set ((j_1).toNat) data_e_2).set (((j_1 - 1)).toNat) data_e_3)
  )
 )else (
  some (a,b,i,j,data)
 )
def ZoC:Nat→Int→Int→Int→Int→Int→(List ZnA)→Option (Int×Int×Int×Int×(List ZnA))
 |0,_,_,_,_,_,_=>none
 |n_+1,a,b,i,j,j_1,data=>Zsr (ZoC n_) a b i j j_1 data
def ZoF (rec_:Int→Int→Int→Int→(List ZnA)→Option (Out (List ZnA) (Bool×(List ZnA)))) (a:Int) (b:Int) (i:Int) (j:Int) (t104:Bool) (data:(List ZnA)):Option (Out (List ZnA) (Bool×(List ZnA))):=
 bif t104 then (
  chk (inK .i64 (i+1)) <|
  (ZoC big a b i j (i+1) data).bind fun(x0,x1,x2,x3,x4)=>ZpK rec_ x0 x1 x2 x3 x4
 )else (
  chk (inK .i64 (j+1)) <|
  rec_ a b i (j+1) data
 )
def ZpL (rec_:Int→Int→Int→Int→(List ZnA)→Option (Out (List ZnA) (Bool×(List ZnA)))) (a:Int) (b:Int) (i:Int) (j:Int) (data:(List ZnA)):Option (Out (List ZnA) (Bool×(List ZnA))):=
 chk (inK .i64 (b - i)) <|
 ZoF rec_ a b i j (decide ((b - i)≥2)) data
def Zss (rec_:Int→Int→Int→Int→Int→(List ZnA)→Option (Int×Int×Int×Int×(List ZnA))) (a:Int) (b:Int) (i:Int) (j:Int) (j_1:Int) (data:(List ZnA)):Option (Int×Int×Int×Int×(List ZnA)):=
 bif (decide (j_1≥1))then (
  chk (inR j_1 (data.length:Int)) <|
  (data[(j_1).toNat]?).bind fun data_e=>
  chk (inK .i64 (j_1 - 1)) <|
  chk (inR (j_1 - 1) (data.length:Int)) <|
  (data[((j_1 - 1)).toNat]?).bind fun data_e_1=>
  (ZoV data_e data_e_1).bind fun q=>
  bif (!(decide (q < 0)))then (
   some (a,b,i,j,data)
  )else (
   chk (inK .i64 (j_1 - 1)) <|
   chk (inK .i64 (j_1 - 1)) <|
   chk (inR (j_1 - 1) (data.length:Int)) <|
   (data[((j_1 - 1)).toNat]?).bind fun data_e_2=>
   chk (inR j_1 (data.length:Int)) <|
   (data[(j_1).toNat]?).bind fun data_e_3=>
   chk (inR j_1 (data.length:Int)) <|
   chk (inR (j_1 - 1) ((data.set ((j_1).toNat) data_e_2).length:Int)) <|
   chk (inK .i64 (j_1 - 1)) <|
   rec_ a b i j (j_1 - 1) ((data.set ((j_1).toNat) data_e_2).set (((j_1 - 1)).toNat) data_e_3)
  )
 )else (
  some (a,b,i,j,data)
 )
def ZoD:Nat→Int→Int→Int→Int→Int→(List ZnA)→Option (Int×Int×Int×Int×(List ZnA))
 |0,_,_,_,_,_,_=>none
 |n_+1,a,b,i,j,j_1,data=>Zss (ZoD n_) a b i j j_1 data
def ZoE (rec_:Int→Int→Int→Int→(List ZnA)→Option (Out (List ZnA) (Bool×(List ZnA)))) (a:Int) (b:Int) (i:Int) (j:Int) (data:(List ZnA)):Option (Out (List ZnA) (Bool×(List ZnA))):=
 bif (i == b)then (
  some (.ret (true,data))
 )else (
  chk (inK .i64 (b - a)) <|
  bif (decide ((b - a) < 50))then (
   some (.ret (false,data))
  )else (
   chk (inK .i64 (i - 1)) <|
   chk (inK .i64 (i - 1)) <|
   chk (inR (i - 1) (data.length:Int)) <|
   (data[((i - 1)).toNat]?).bind fun data_e=>
   chk (inR i (data.length:Int)) <|
   (data[(i).toNat]?).bind fun data_e_1=>
   chk (inR i (data.length:Int)) <|
   chk (inR (i - 1) ((data.set ((i).toNat) data_e).length:Int)) <|
   chk (inK .i64 (i - a)) <|
   bif (decide ((i - a)≥2))then (
    chk (inK .i64 (i - 1)) <|
    (ZoD big a b i j (i - 1) ((data.set ((i).toNat) data_e).set (((i - 1)).toNat) data_e_1)).bind fun(x0,x1,x2,x3,x4)=>ZpL rec_ x0 x1 x2 x3 x4
   )else (
    chk (inK .i64 (b - i)) <|
    ZoF rec_ a b i j (decide ((b - i)≥2)) ((data.set ((i).toNat) data_e).set (((i - 1)).toNat) data_e_1)
   )
  )
 )
def Zoa (rec_:Int→Int→Int→Int→(List ZnA)→Option (Int×Int×Int×Int×(List ZnA))) (a:Int) (b:Int) (i:Int) (j:Int) (t36:Bool) (data:(List ZnA)):Option (Int×Int×Int×Int×(List ZnA)):=
 bif t36 then (
  chk (inK .i64 (i+1)) <|
  rec_ a b (i+1) j data
 )else (
  some (a,b,i,j,data)
 )
def Zou (rec_:Int→Int→Int→Int→(List ZnA)→Option (Int×Int×Int×Int×(List ZnA))) (a:Int) (b:Int) (i:Int) (j:Int) (data:(List ZnA)):Option (Int×Int×Int×Int×(List ZnA)):=
 bif (decide (i < b))then (
  chk (inR i (data.length:Int)) <|
  (data[(i).toNat]?).bind fun data_e=>
  chk (inK .i64 (i - 1)) <|
  chk (inR (i - 1) (data.length:Int)) <|
  (data[((i - 1)).toNat]?).bind fun data_e_1=>
  (ZoV data_e data_e_1).bind fun q=>
  Zoa rec_ a b i j (!(decide (q < 0))) data
 )else (
  Zoa rec_ a b i j false data
 )
def ZnT:Nat→Int→Int→Int→Int→(List ZnA)→Option (Int×Int×Int×Int×(List ZnA))
 |0,_,_,_,_,_=>none
 |n_+1,a,b,i,j,data=>Zou (ZnT n_) a b i j data
def Zpy (n:Nat) (s:(Int×Int×Int×Int×(List ZnA))):Option (Int×Int×Int×Int×(List ZnA)):=ZnT n s.1 s.2.1 s.2.2.1 s.2.2.2.1 s.2.2.2.2
def Zpz (rec_:(Int×Int×Int×Int×(List ZnA))→Option (Int×Int×Int×Int×(List ZnA))) (s:(Int×Int×Int×Int×(List ZnA))):Option (Int×Int×Int×Int×(List ZnA)):=Zou (fun a b i j data=>rec_ (a,b,i,j,data)) s.1 s.2.1 s.2.2.1 s.2.2.2.1 s.2.2.2.2
theorem Zsj:∀n s,Zpy (n+1) s=Zpz (Zpy n) s:=fun _ _=>rfl
def Zov (rec_:Int→Int→Int→Int→(List ZnA)→Option (Out (List ZnA) (Bool×(List ZnA)))) (a:Int) (b:Int) (i:Int) (j:Int) (data:(List ZnA)):Option (Out (List ZnA) (Bool×(List ZnA))):=
 bif (decide (j < 5))then (
  (ZnT big a b i j data).bind fun(x0,x1,x2,x3,x4)=>ZoE rec_ x0 x1 x2 x3 x4
 )else (
  some (.brk data)
 )
def ZnM:Nat→Int→Int→Int→Int→(List ZnA)→Option (Out (List ZnA) (Bool×(List ZnA)))
 |0,_,_,_,_,_=>none
 |n_+1,a,b,i,j,data=>Zov (ZnM n_) a b i j data
def Zog (data:(List ZnA)) (a:Int) (b:Int):Option (Bool×(List ZnA)):=
 chk (inK .i64 (a+1)) <|
 (ZnM big a b (a+1) (0:Int) data).bind fun
  | .ret q_=>some q_
  | .brk x0=>ZpJ x0
def ZnU (data:(List ZnA)) (a:Int) (b:Int):Option (Bool×(List ZnA)):=
 (Zog data a b).bind fun r=>chk (decide (r.2.length=data.length)&&true) (some r)
def Zpt (a:Int) (j:Int) (data:(List ZnA)):Option (Int×Bool×(List ZnA)):=
 chk (inR a (data.length:Int)) <|
 (data[(a).toNat]?).bind fun data_e=>
 chk (inR j (data.length:Int)) <|
 (data[(j).toNat]?).bind fun data_e_1=>
 chk (inR j (data.length:Int)) <|
 chk (inR a ((data.set ((j).toNat) data_e).length:Int)) <|
 some (j,false,((data.set ((j).toNat) data_e).set ((a).toNat) data_e_1))
def Zpu (rec_:Int→Int→Int→(List ZnA)→Option (Int×Int×(List ZnA))) (a:Int) (i:Int) (j:Int) (data:(List ZnA)):Option (Int×Int×(List ZnA)):=
 bif (decide (i > j))then (
  some (a,j,data)
 )else (
  chk (inR j (data.length:Int)) <|
  (data[(j).toNat]?).bind fun data_e=>
  chk (inR i (data.length:Int)) <|
  (data[(i).toNat]?).bind fun data_e_1=>
  chk (inR i (data.length:Int)) <|
  chk (inR j ((data.set ((i).toNat) data_e).length:Int)) <|
  chk (inK .i64 (i+1)) <|
  chk (inK .i64 (j - 1)) <|
  rec_ a (i+1) (j - 1) ((data.set ((i).toNat) data_e).set ((j).toNat) data_e_1)
 )
def ZoI (rec_:Int→Int→Int→(List ZnA)→Option (Int×Int×Int×(List ZnA))) (a:Int) (i:Int) (j:Int) (t139:Bool) (data:(List ZnA)):Option (Int×Int×Int×(List ZnA)):=
 bif t139 then (
  chk (inK .i64 (j - 1)) <|
  rec_ a i (j - 1) data
 )else (
  some (a,i,j,data)
 )
def Zpb (rec_:Int→Int→Int→(List ZnA)→Option (Int×Int×Int×(List ZnA))) (a:Int) (i:Int) (j:Int) (data:(List ZnA)):Option (Int×Int×Int×(List ZnA)):=
 bif (decide (i≤j))then (
  chk (inR j (data.length:Int)) <|
  (data[(j).toNat]?).bind fun data_e=>
  chk (inR a (data.length:Int)) <|
  (data[(a).toNat]?).bind fun data_e_1=>
  (ZoV data_e data_e_1).bind fun q=>
  ZoI rec_ a i j (!(decide (q < 0))) data
 )else (
  ZoI rec_ a i j false data
 )
def ZnY:Nat→Int→Int→Int→(List ZnA)→Option (Int×Int×Int×(List ZnA))
 |0,_,_,_,_=>none
 |n_+1,a,i,j,data=>Zpb (ZnY n_) a i j data
def ZqM (n:Nat) (s:(Int×Int×Int×(List ZnA))):Option (Int×Int×Int×(List ZnA)):=ZnY n s.1 s.2.1 s.2.2.1 s.2.2.2
def ZqN (rec_:(Int×Int×Int×(List ZnA))→Option (Int×Int×Int×(List ZnA))) (s:(Int×Int×Int×(List ZnA))):Option (Int×Int×Int×(List ZnA)):=Zpb (fun a i j data=>rec_ (a,i,j,data)) s.1 s.2.1 s.2.2.1 s.2.2.2
theorem Zuc:∀n s,ZqM (n+1) s=ZqN (ZqM n) s:=fun _ _=>rfl
def Zpv (rec_:Int→Int→Int→(List ZnA)→Option (Int×Int×(List ZnA))) (a:Int) (i:Int) (j:Int) (data:(List ZnA)):Option (Int×Int×(List ZnA)):=
 (ZnY big a i j data).bind fun(x0,x1,x2,x3)=>Zpu rec_ x0 x1 x2 x3
def ZoJ (rec_:Int→Int→Int→(List ZnA)→Option (Int×Int×Int×(List ZnA))) (a:Int) (i:Int) (j:Int) (t120:Bool) (data:(List ZnA)):Option (Int×Int×Int×(List ZnA)):=
 bif t120 then (
  chk (inK .i64 (i+1)) <|
  rec_ a (i+1) j data
 )else (
  some (a,i,j,data)
 )
def Zpc (rec_:Int→Int→Int→(List ZnA)→Option (Int×Int×Int×(List ZnA))) (a:Int) (i:Int) (j:Int) (data:(List ZnA)):Option (Int×Int×Int×(List ZnA)):=
 bif (decide (i≤j))then (
  chk (inR i (data.length:Int)) <|
  (data[(i).toNat]?).bind fun data_e=>
  chk (inR a (data.length:Int)) <|
  (data[(a).toNat]?).bind fun data_e_1=>
  (ZoV data_e data_e_1).bind fun q=>
  ZoJ rec_ a i j (decide (q < 0)) data
 )else (
  ZoJ rec_ a i j false data
 )
def ZnZ:Nat→Int→Int→Int→(List ZnA)→Option (Int×Int×Int×(List ZnA))
 |0,_,_,_,_=>none
 |n_+1,a,i,j,data=>Zpc (ZnZ n_) a i j data
def ZqO (n:Nat) (s:(Int×Int×Int×(List ZnA))):Option (Int×Int×Int×(List ZnA)):=ZnZ n s.1 s.2.1 s.2.2.1 s.2.2.2
def ZqP (rec_:(Int×Int×Int×(List ZnA))→Option (Int×Int×Int×(List ZnA))) (s:(Int×Int×Int×(List ZnA))):Option (Int×Int×Int×(List ZnA)):=Zpc (fun a i j data=>rec_ (a,i,j,data)) s.1 s.2.1 s.2.2.1 s.2.2.2
theorem Zud:∀n s,ZqO (n+1) s=ZqP (ZqO n) s:=fun _ _=>rfl
def Zpd (rec_:Int→Int→Int→(List ZnA)→Option (Int×Int×(List ZnA))) (a:Int) (i:Int) (j:Int) (data:(List ZnA)):Option (Int×Int×(List ZnA)):=
 (ZnZ big a i j data).bind fun(x0,x1,x2,x3)=>Zpv rec_ x0 x1 x2 x3
def ZnR:Nat→Int→Int→Int→(List ZnA)→Option (Int×Int×(List ZnA))
 |0,_,_,_,_=>none
 |n_+1,a,i,j,data=>Zpd (ZnR n_) a i j data
def ZqQ (n:Nat) (s:(Int×Int×Int×(List ZnA))):Option (Int×Int×(List ZnA)):=ZnR n s.1 s.2.1 s.2.2.1 s.2.2.2
def ZqR (rec_:(Int×Int×Int×(List ZnA))→Option (Int×Int×(List ZnA))) (s:(Int×Int×Int×(List ZnA))):Option (Int×Int×(List ZnA)):=Zpd (fun a i j data=>rec_ (a,i,j,data)) s.1 s.2.1 s.2.2.1 s.2.2.2
theorem Zue:∀n s,ZqQ (n+1) s=ZqR (ZqQ n) s:=fun _ _=>rfl
def Zpw (a:Int) (i:Int) (j:Int) (data:(List ZnA)):Option (Int×Bool×(List ZnA)):=
 bif (decide (i > j))then (
  chk (inR a (data.length:Int)) <|
  (data[(a).toNat]?).bind fun data_e=>
  chk (inR j (data.length:Int)) <|
  (data[(j).toNat]?).bind fun data_e_1=>
  chk (inR j (data.length:Int)) <|
  chk (inR a ((data.set ((j).toNat) data_e).length:Int)) <|
  some (j,true,((data.set ((j).toNat) data_e).set ((a).toNat) data_e_1))
 )else (
  chk (inR j (data.length:Int)) <|
  (data[(j).toNat]?).bind fun data_e_2=>
  chk (inR i (data.length:Int)) <|
  (data[(i).toNat]?).bind fun data_e_3=>
  chk (inR i (data.length:Int)) <|
  chk (inR j ((data.set ((i).toNat) data_e_2).length:Int)) <|
  chk (inK .i64 (i+1)) <|
  chk (inK .i64 (j - 1)) <|
  (ZnR big a (i+1) (j - 1) ((data.set ((i).toNat) data_e_2).set ((j).toNat) data_e_3)).bind fun(x0,x1,x2)=>Zpt x0 x1 x2
 )
def ZoK (rec_:Int→Int→Int→(List ZnA)→Option (Int×Int×Int×(List ZnA))) (a:Int) (i:Int) (j:Int) (t66:Bool) (data:(List ZnA)):Option (Int×Int×Int×(List ZnA)):=
 bif t66 then (
  chk (inK .i64 (j - 1)) <|
  rec_ a i (j - 1) data
 )else (
  some (a,i,j,data)
 )
def Zpe (rec_:Int→Int→Int→(List ZnA)→Option (Int×Int×Int×(List ZnA))) (a:Int) (i:Int) (j:Int) (data:(List ZnA)):Option (Int×Int×Int×(List ZnA)):=
 bif (decide (i≤j))then (
  chk (inR j (data.length:Int)) <|
  (data[(j).toNat]?).bind fun data_e=>
  chk (inR a (data.length:Int)) <|
  (data[(a).toNat]?).bind fun data_e_1=>
  (ZoV data_e data_e_1).bind fun q=>
  ZoK rec_ a i j (!(decide (q < 0))) data
 )else (
  ZoK rec_ a i j false data
 )
def Zn0:Nat→Int→Int→Int→(List ZnA)→Option (Int×Int×Int×(List ZnA))
 |0,_,_,_,_=>none
 |n_+1,a,i,j,data=>Zpe (Zn0 n_) a i j data
def ZqS (n:Nat) (s:(Int×Int×Int×(List ZnA))):Option (Int×Int×Int×(List ZnA)):=Zn0 n s.1 s.2.1 s.2.2.1 s.2.2.2
def ZqT (rec_:(Int×Int×Int×(List ZnA))→Option (Int×Int×Int×(List ZnA))) (s:(Int×Int×Int×(List ZnA))):Option (Int×Int×Int×(List ZnA)):=Zpe (fun a i j data=>rec_ (a,i,j,data)) s.1 s.2.1 s.2.2.1 s.2.2.2
theorem Zuf:∀n s,ZqS (n+1) s=ZqT (ZqS n) s:=fun _ _=>rfl
def Zpx (a:Int) (i:Int) (j:Int) (data:(List ZnA)):Option (Int×Bool×(List ZnA)):=
 (Zn0 big a i j data).bind fun(x0,x1,x2,x3)=>Zpw x0 x1 x2 x3
def ZoL (rec_:Int→Int→Int→(List ZnA)→Option (Int×Int×Int×(List ZnA))) (a:Int) (i:Int) (j:Int) (t47:Bool) (data:(List ZnA)):Option (Int×Int×Int×(List ZnA)):=
 bif t47 then (
  chk (inK .i64 (i+1)) <|
  rec_ a (i+1) j data
 )else (
  some (a,i,j,data)
 )
def Zpf (rec_:Int→Int→Int→(List ZnA)→Option (Int×Int×Int×(List ZnA))) (a:Int) (i:Int) (j:Int) (data:(List ZnA)):Option (Int×Int×Int×(List ZnA)):=
 bif (decide (i≤j))then (
  chk (inR i (data.length:Int)) <|
  (data[(i).toNat]?).bind fun data_e=>
  chk (inR a (data.length:Int)) <|
  (data[(a).toNat]?).bind fun data_e_1=>
  (ZoV data_e data_e_1).bind fun q=>
  ZoL rec_ a i j (decide (q < 0)) data
 )else (
  ZoL rec_ a i j false data
 )
def Zn1:Nat→Int→Int→Int→(List ZnA)→Option (Int×Int×Int×(List ZnA))
 |0,_,_,_,_=>none
 |n_+1,a,i,j,data=>Zpf (Zn1 n_) a i j data
def ZqU (n:Nat) (s:(Int×Int×Int×(List ZnA))):Option (Int×Int×Int×(List ZnA)):=Zn1 n s.1 s.2.1 s.2.2.1 s.2.2.2
def ZqV (rec_:(Int×Int×Int×(List ZnA))→Option (Int×Int×Int×(List ZnA))) (s:(Int×Int×Int×(List ZnA))):Option (Int×Int×Int×(List ZnA)):=Zpf (fun a i j data=>rec_ (a,i,j,data)) s.1 s.2.1 s.2.2.1 s.2.2.2
theorem Zug:∀n s,ZqU (n+1) s=ZqV (ZqU n) s:=fun _ _=>rfl
def ZoS (data:(List ZnA)) (a:Int) (b:Int) (pivot:Int):Option (Int×Bool×(List ZnA)):=
 chk (inR pivot (data.length:Int)) <|
 (data[(pivot).toNat]?).bind fun data_e=>
 chk (inR a (data.length:Int)) <|
 (data[(a).toNat]?).bind fun data_e_1=>
 chk (inR a (data.length:Int)) <|
 chk (inR pivot ((data.set ((a).toNat) data_e).length:Int)) <|
 chk (inK .i64 (a+1)) <|
 chk (inK .i64 (b - 1)) <|
 (Zn1 big a (a+1) (b - 1) ((data.set ((a).toNat) data_e).set ((pivot).toNat) data_e_1)).bind fun(x0,x1,x2,x3)=>Zpx x0 x1 x2 x3
def ZoN (data:(List ZnA)) (a:Int) (b:Int) (pivot:Int):Option (Int×Bool×(List ZnA)):=
 (ZoS data a b pivot).bind fun r=>chk (decide (r.2.2.length=data.length)&&true) (some r)
def Zpr (rec_:Int→Int→Int→Bool→Bool→(List ZnA)→Option (Out Unit (List ZnA))) (a:Int) (b:Int) (limit:Int) (wasBalanced:Bool) (wasPartitioned:Bool) (length:Int) (pivot:Int) (t97:Bool) (data:(List ZnA)):Option (Out Unit (List ZnA)):=
 bif t97 then (
  none
 )else (
  (ZoN data a b pivot).bind fun(mid,alreadyPartitioned,t106)=>
  chk (inK .i64 (mid - a)) <|
  chk (inK .i64 (b - mid)) <|
  chk (decide ((8:Int)≠0)) <|
  chk (inK .i64 (Int.tdiv length 8)) <|
  bif (decide ((mid - a) < (b - mid)))then (
   none
  )else (
   chk (inK .i64 (mid+1)) <|
   none
  )
 )
def Zps (rec_:Int→Int→Int→Bool→Bool→(List ZnA)→Option (Out Unit (List ZnA))) (a:Int) (b:Int) (limit:Int) (wasBalanced:Bool) (wasPartitioned:Bool) (length:Int) (pivot:Int) (data:(List ZnA)):Option (Out Unit (List ZnA)):=
 bif (decide (a > 0))then (
  chk (inK .i64 (a - 1)) <|
  chk (inR (a - 1) (data.length:Int)) <|
  (data[((a - 1)).toNat]?).bind fun data_e=>
  chk (inR pivot (data.length:Int)) <|
  (data[(pivot).toNat]?).bind fun data_e_1=>
  (ZoV data_e data_e_1).bind fun q=>
  Zpr rec_ a b limit wasBalanced wasPartitioned length pivot (!(decide (q < 0))) data
 )else (
  Zpr rec_ a b limit wasBalanced wasPartitioned length pivot false data
 )
def ZoH (rec_:Int→Int→Int→Bool→Bool→(List ZnA)→Option (Out Unit (List ZnA))) (a:Int) (b:Int) (limit:Int) (wasBalanced:Bool) (wasPartitioned:Bool) (length:Int) (pivot:Int) (t75:Bool) (data:(List ZnA)):Option (Out Unit (List ZnA)):=
 bif t75 then (
  (ZnU data a b).bind fun(q,t76)=>
  bif q then (
   some (.ret t76)
  )else (
   Zps rec_ a b limit wasBalanced wasPartitioned length pivot t76
  )
 )else (
  Zps rec_ a b limit wasBalanced wasPartitioned length pivot data
 )
def Zpa (rec_:Int→Int→Int→Bool→Bool→(List ZnA)→Option (Out Unit (List ZnA))) (a:Int) (b:Int) (limit:Int) (wasBalanced:Bool) (wasPartitioned:Bool) (data:(List ZnA)):Option (Out Unit (List ZnA)):=
 chk (inK .i64 (b - a)) <|
 bif (decide ((b - a)≤12))then (
  (Zn9 data a b).bind fun t26=>
  some (.ret t26)
 )else (
  bif (limit == 0)then (
   none
  )else (
   bif (!wasBalanced)then (
    none
   )else (
    (Zof data a b).bind fun(pivot,hint,t48)=>
    bif (hint == 2)then (
     none
    )else (
     bif wasBalanced then (
      bif wasPartitioned then (
       ZoH rec_ a b limit wasBalanced wasPartitioned (b - a) pivot (hint == 1) t48
      )else (
       ZoH rec_ a b limit wasBalanced wasPartitioned (b - a) pivot false t48
      )
     )else (
      ZoH rec_ a b limit wasBalanced wasPartitioned (b - a) pivot false t48
     )
    )
   )
  )
 )
def ZnX:Nat→Int→Int→Int→Bool→Bool→(List ZnA)→Option (Out Unit (List ZnA))
 |0,_,_,_,_,_,_=>none
 |n_+1,a,b,limit,wasBalanced,wasPartitioned,data=>Zpa (ZnX n_) a b limit wasBalanced wasPartitioned data
def ZpP (data:(List ZnA)) (a:Int) (b:Int) (limit:Int):Option (List ZnA):=
 (ZnX big a b limit true true data).bind fun
  | .ret q_=>some q_
  | .brk _=>none
def Zol (data:(List ZnA)) (a:Int) (b:Int) (limit:Int):Option (List ZnA):=
 (ZpP data a b limit).bind fun r=>chk (decide (r.length=data.length)&&true) (some r)
def Zom (rec_:Int→Int→Int→Bool→Bool→(List ZnA)→Option (Out Unit (List ZnA))) (a:Int) (b:Int) (limit:Int) (wasBalanced:Bool) (wasPartitioned:Bool) (length:Int) (pivot:Int) (t97:Bool) (data:(List ZnA)):Option (Out Unit (List ZnA)):=
 bif t97 then (
  none
 )else (
  (ZoN data a b pivot).bind fun(mid,alreadyPartitioned,t106)=>
  chk (inK .i64 (mid - a)) <|
  chk (inK .i64 (b - mid)) <|
  chk (decide ((8:Int)≠0)) <|
  chk (inK .i64 (Int.tdiv length 8)) <|
  bif (decide ((mid - a) < (b - mid)))then (
   (Zol t106 a mid limit).bind fun t129=>
   chk (inK .i64 (mid+1)) <|
   rec_ (mid+1) b limit (decide ((mid - a)≥(Int.tdiv length 8))) alreadyPartitioned t129
  )else (
   chk (inK .i64 (mid+1)) <|
   (Zol t106 (mid+1) b limit).bind fun t140=>
   rec_ a mid limit (decide ((b - mid)≥(Int.tdiv length 8))) alreadyPartitioned t140
  )
 )
def Zon (rec_:Int→Int→Int→Bool→Bool→(List ZnA)→Option (Out Unit (List ZnA))) (a:Int) (b:Int) (limit:Int) (wasBalanced:Bool) (wasPartitioned:Bool) (length:Int) (pivot:Int) (data:(List ZnA)):Option (Out Unit (List ZnA)):=
 bif (decide (a > 0))then (
  chk (inK .i64 (a - 1)) <|
  chk (inR (a - 1) (data.length:Int)) <|
  (data[((a - 1)).toNat]?).bind fun data_e=>
  chk (inR pivot (data.length:Int)) <|
  (data[(pivot).toNat]?).bind fun data_e_1=>
  (ZoV data_e data_e_1).bind fun q=>
  Zom rec_ a b limit wasBalanced wasPartitioned length pivot (!(decide (q < 0))) data
 )else (
  Zom rec_ a b limit wasBalanced wasPartitioned length pivot false data
 )
def Zoo (rec_:Int→Int→Int→Bool→Bool→(List ZnA)→Option (Out Unit (List ZnA))) (a:Int) (b:Int) (limit:Int) (wasBalanced:Bool) (wasPartitioned:Bool) (length:Int) (pivot:Int) (t75:Bool) (data:(List ZnA)):Option (Out Unit (List ZnA)):=
 bif t75 then (
  (ZnU data a b).bind fun(q,t76)=>
  bif q then (
   some (.ret t76)
  )else (
   Zon rec_ a b limit wasBalanced wasPartitioned length pivot t76
  )
 )else (
  Zon rec_ a b limit wasBalanced wasPartitioned length pivot data
 )
def ZnN (rec_:Int→Int→Int→Bool→Bool→(List ZnA)→Option (Out Unit (List ZnA))) (a:Int) (b:Int) (limit:Int) (wasBalanced:Bool) (wasPartitioned:Bool) (data:(List ZnA)):Option (Out Unit (List ZnA)):=
 chk (inK .i64 (b - a)) <|
 bif (decide ((b - a)≤12))then (
  (Zn9 data a b).bind fun t26=>
  some (.ret t26)
 )else (
  bif (limit == 0)then (
   none
  )else (
   bif (!wasBalanced)then (
    none
   )else (
    (Zof data a b).bind fun(pivot,hint,t48)=>
    bif (hint == 2)then (
     none
    )else (
     bif wasBalanced then (
      bif wasPartitioned then (
       Zoo rec_ a b limit wasBalanced wasPartitioned (b - a) pivot (hint == 1) t48
      )else (
       Zoo rec_ a b limit wasBalanced wasPartitioned (b - a) pivot false t48
      )
     )else (
      Zoo rec_ a b limit wasBalanced wasPartitioned (b - a) pivot false t48
     )
    )
   )
  )
 )
def ZnK:Nat→Int→Int→Int→Bool→Bool→(List ZnA)→Option (Out Unit (List ZnA))
 |0,_,_,_,_,_,_=>none
 |n_+1,a,b,limit,wasBalanced,wasPartitioned,data=>ZnN (ZnK n_) a b limit wasBalanced wasPartitioned data
def Zo4 (data:(List ZnA)) (a:Int) (b:Int) (limit:Int):Option (List ZnA):=
 (ZnK big a b limit true true data).bind fun
  | .ret q_=>some q_
  | .brk _=>none
def Zn7 (data:(List ZnA)) (a:Int) (b:Int) (limit:Int):Option (List ZnA):=
 (Zo4 data a b limit).bind fun r=>chk (decide (r.length=data.length)&&true) (some r)
def Zo0 (x_:(List ZnA)):Option (List ZnA):=
 (Zwt (IntKind.wrap .u64 (x_.length:Int))).bind fun q=>
 (Zn7 x_ 0 (x_.length:Int) q).bind fun t7=>
 some t7
def ZnW (x_:(List ZnA)):Option (List ZnA):=
 (Zo0 x_).bind fun r=>chk (decide (r.length=x_.length)&&true) (some r)
def Zw7 (out:(List ZnA)):Option (List ZnA):=
 (ZnW out).bind fun t82=>
 some t82
def ZuV (rec_:(List ZnC)→Int→Int→ZnD→(List (Str×Int))→(List ZnA)→Option (List ZnA)) (t15:(List ZnC)) (t16:Int) (i:Int) (value:ZnD) (at_:(List (Str×Int))) (out:(List ZnA)):Option (List ZnA):=
 chk (inK .i64 (i+1)) <|
 rec_ t15 t16 (i+1) value at_ out
def ZuW (rec_:(List ZnC)→Int→Int→ZnD→(List (Str×Int))→(List ZnA)→Option (List ZnA)) (n:Int) (t15:(List ZnC)) (t16:Int) (i:Int) (value:ZnD) (at_:(List (Str×Int))) (out:(List ZnA)) (v_:ZnB):Option (List ZnA):=
 chk (inR n (out.length:Int)) <|
 (out[(n).toNat]?).bind fun out_e=>
 chk (inK .i64 (out_e.Count+1)) <|
 chk (inR n (out.length:Int)) <|
 (out[(n).toNat]?).bind fun el=>
 chk (inR n ((out.set ((n).toNat) (ZnA.mk el.Key el.Hash (out_e.Count+1) el.Sum)).length:Int)) <|
 ((out.set ((n).toNat) (ZnA.mk el.Key el.Hash (out_e.Count+1) el.Sum))[(n).toNat]?).bind fun Sum_e=>
 (Zyt Sum_e.Sum v_).bind fun q=>
 chk (inR n ((out.set ((n).toNat) (ZnA.mk el.Key el.Hash (out_e.Count+1) el.Sum)).length:Int)) <|
 ((out.set ((n).toNat) (ZnA.mk el.Key el.Hash (out_e.Count+1) el.Sum))[(n).toNat]?).bind fun el_1=>
 ZuV rec_ t15 t16 i value at_ ((out.set ((n).toNat) (ZnA.mk el.Key el.Hash (out_e.Count+1) el.Sum)).set ((n).toNat) (ZnA.mk el_1.Key el_1.Hash el_1.Count q))
def ZsD (rec_:(List ZnC)→Int→Int→ZnD→(List (Str×Int))→(List ZnA)→Option (List ZnA)) (t15:(List ZnC)) (t16:Int) (i:Int) (t36:Bool) (value:ZnD) (at_:(List (Str×Int))) (out:(List ZnA)) (k:ZnC) (v_:ZnB):Option (List ZnA):=
 bif t36 then (
  ZuV rec_ t15 t16 i value at_ out
 )else (
  bif (!(Zg3 (k:= .str) (v:=(.int .i64)) (car:=Zw1) at_ k.Text).isSome)then (
   (ZsV k.Text).bind fun q=>
   (Zxw).bind fun q_1=>
   chk (ZiZ (out.length+([(ZnA.mk k.Text q 0 q_1)]:(List ZnA)).length) 96) <|
   ZuW rec_ (out.length:Int) t15 t16 i value (setB (k:= .str) (v:=(.int .i64)) (car:=Zw1) at_ k.Text (out.length:Int)) (out++([(ZnA.mk k.Text q 0 q_1)]:(List ZnA))) v_
  )else (
   ZuW rec_ ((Zg3 (k:= .str) (v:=(.int .i64)) (car:=Zw1) at_ k.Text).getD (0:Int)) t15 t16 i value at_ out v_
  )
 )
def Zva (rec_:(List ZnC)→Int→Int→ZnD→(List (Str×Int))→(List ZnA)→Option (List ZnA)) (t15:(List ZnC)) (t16:Int) (i:Int) (value:ZnD) (at_:(List (Str×Int))) (out:(List ZnA)):Option (List ZnA):=
 bif (decide (i < t16))then (
  (idx t15 i).bind fun k=>
  (idx value.Cells i).bind fun Cell=>
  (ZpH Cell).bind fun(v_,ok)=>
  bif k.Null then (
   ZsD rec_ t15 t16 i true value at_ out k v_
  )else (
   ZsD rec_ t15 t16 i (!ok) value at_ out k v_
  )
 )else (
  some out
 )
def ZrI:Nat→(List ZnC)→Int→Int→ZnD→(List (Str×Int))→(List ZnA)→Option (List ZnA)
 |0,_,_,_,_,_,_=>none
 |n_+1,t15,t16,i,value,at_,out=>Zva (ZrI n_) t15 t16 i value at_ out
def ZxR (n:Nat) (s:((List ZnC)×Int×Int×ZnD×(List (Str×Int))×(List ZnA))):Option (List ZnA):=ZrI n s.1 s.2.1 s.2.2.1 s.2.2.2.1 s.2.2.2.2.1 s.2.2.2.2.2
def Zwq (rec_:((List ZnC)×Int×Int×ZnD×(List (Str×Int))×(List ZnA))→Option (List ZnA)) (s:((List ZnC)×Int×Int×ZnD×(List (Str×Int))×(List ZnA))):Option (List ZnA):=Zva (fun t15 t16 i value at_ out=>rec_ (t15,t16,i,value,at_,out)) s.1 s.2.1 s.2.2.1 s.2.2.2.1 s.2.2.2.2.1 s.2.2.2.2.2
theorem ZyN:∀n s,ZxR (n+1) s=Zwq (ZxR n) s:=fun _ _=>rfl
def Zwr (key:ZnD) (value:ZnD):Option (List ZnA):=
 (ZrI big key.Cells (key.Cells.length:Int) (0:Int) value ([]:(List (Str×Int))) ([]:(List ZnA))).bind fun x0=>Zw7 x0
def Zwd (k:Int) (t17:Bool) (key:ZnD) (value:ZnD) (t6:Int) (t6_1:Bool) (t6_2:(List ZnA)):Option (ZnI×Int):=
 bif t17 then (
  some ((ZnI.mk 0 false ([]:(List ZnA))),1)
 )else (
  (Zwr key value).bind fun l=>
  chk (Zb9 0 (if (l.length:Int) < k then (l.length:Int)else k) (l.length:Int)) <|
  some ((ZnI.mk k (decide ((l.length:Int)≤k)) ((l.drop 0).take (((if (l.length:Int) < k then (l.length:Int)else k)).toNat - 0))),0)
 )
def Zwe (k:Int) (t9:Bool) (key:ZnD) (value:ZnD) (t6:Int) (t6_1:Bool) (t6_2:(List ZnA)):Option (ZnI×Int):=
 bif t9 then (
  some ((ZnI.mk 0 false ([]:(List ZnA))),2)
 )else (
  bif ((key.Cells.length:Int) != (value.Cells.length:Int))then (
   Zwd k true key value t6 t6_1 t6_2
  )else (
   Zwd k (decide ((key.Cells.length:Int) > 4096)) key value t6 t6_1 t6_2
  )
 )
def ZvJ (key:ZnD) (value:ZnD) (k:Int):Option (ZnI×Int):=
 bif (decide (k < 1))then (
  Zwe k true key value (0:Int) false ([]:(List ZnA))
 )else (
  Zwe k (decide (k > 256)) key value (0:Int) false ([]:(List ZnA))
 )
def ZvI:Option Bool:=
 some true
def Zr3 (rec_:(List ZnA)→Int→Int→ZnI→Option (Out Unit Bool)) (t35:(List ZnA)) (t36:Int) (i:Int) (t73:Bool) (s:ZnI):Option (Out Unit Bool):=
 bif t73 then (
  some (.ret false)
 )else (
  chk (inK .i64 (i+1)) <|
  rec_ t35 t36 (i+1) s
 )
def ZuK (rec_:(List ZnA)→Int→Int→ZnI→Option (Out Unit Bool)) (t35:(List ZnA)) (t36:Int) (i:Int) (s:ZnI):Option (Out Unit Bool):=
 bif (decide (i < t36))then (
  (idx t35 i).bind fun e=>
  (ZsV e.Key).bind fun q=>
  bif (e.Hash != q)then (
   Zr3 rec_ t35 t36 i true s
  )else (
   bif (decide (e.Count < 1))then (
    Zr3 rec_ t35 t36 i true s
   )else (
    (ZsG e.Sum).bind fun q_1=>
    bif (!q_1)then (
     Zr3 rec_ t35 t36 i true s
    )else (
     bif (decide (i > 0))then (
      chk (inK .i64 (i - 1)) <|
      (idx s.Entries (i - 1)).bind fun Entrie=>
      (ZoV Entrie e).bind fun q_2=>
      Zr3 rec_ t35 t36 i (decide (q_2≥0)) s
     )else (
      Zr3 rec_ t35 t36 i false s
     )
    )
   )
  )
 )else (
  some (.brk ())
 )
def Zs0:Nat→(List ZnA)→Int→Int→ZnI→Option (Out Unit Bool)
 |0,_,_,_,_=>none
 |n_+1,t35,t36,i,s=>ZuK (Zs0 n_) t35 t36 i s
def ZxD (n:Nat) (s:((List ZnA)×Int×Int×ZnI)):Option (Out Unit Bool):=Zs0 n s.1 s.2.1 s.2.2.1 s.2.2.2
def Zwi (rec_:((List ZnA)×Int×Int×ZnI)→Option (Out Unit Bool)) (s:((List ZnA)×Int×Int×ZnI)):Option (Out Unit Bool):=ZuK (fun t35 t36 i s=>rec_ (t35,t36,i,s)) s.1 s.2.1 s.2.2.1 s.2.2.2
theorem ZyG:∀n s,ZxD (n+1) s=Zwi (ZxD n) s:=fun _ _=>rfl
def Zpo (t33:Bool) (s:ZnI):Option Bool:=
 bif t33 then (
  some false
 )else (
  (Zs0 big s.Entries (s.Entries.length:Int) (0:Int) s).bind fun
   | .ret q_=>some q_
   | .brk ()=>ZvI
 )
def Zsk (s:ZnI):Option Bool:=
 bif (decide (s.K < 1))then (
  Zpo true s
 )else (
  bif (decide (s.K > 256))then (
   Zpo true s
  )else (
   bif (decide ((s.Entries.length:Int) > s.K))then (
    Zpo true s
   )else (
    bif (!s.All)then (
     Zpo (decide ((s.Entries.length:Int) < s.K)) s
    )else (
     Zpo false s
    )
   )
  )
 )
def ZvQ (w_:(List Int)):Option (List Int):=
 some w_
def ZtF (rec_:(List Int)→Option (List Int)) (w_:(List Int)) (t14:Bool):Option (List Int):=
 bif t14 then (
  chk (inK .i64 ((w_.length:Int) - 1)) <|
  chk (Zb9 0 ((w_.length:Int) - 1) (w_.length:Int)) <|
  rec_ (w_.take (((w_.length:Int) - 1)).toNat)
 )else (
  some w_
 )
def Zu7 (rec_:(List Int)→Option (List Int)) (w_:(List Int)):Option (List Int):=
 bif (decide ((w_.length:Int) > 0))then (
  chk (inK .i64 ((w_.length:Int) - 1)) <|
  (idx w_ ((w_.length:Int) - 1)).bind fun w__e=>
  ZtF rec_ w_ (w__e == 0)
 )else (
  ZtF rec_ w_ false
 )
def ZoY:Nat→(List Int)→Option (List Int)
 |0,_=>none
 |n_+1,w_=>Zu7 (ZoY n_) w_
def Zoi (w_:(List Int)):Option (List Int):=
 (ZoY big w_).bind fun x0=>ZvQ x0
def Zsh (t4:ZnF):Option ZnF:=
 some t4
def Zn6 (neg:Bool) (w_:(List Int)):Option ZnF:=
 (Zoi w_).bind fun w__1=>
 bif neg then (
  Zsh (ZnF.mk (decide ((w__1.length:Int) > 0)) w__1)
 )else (
  Zsh (ZnF.mk false w__1)
 )
def ZqH (n:Int) (u:Int) (t2:Bool) (t2_1:(List Int)):Option ZnF:=
 chk (decide (0≤(32:Int))) <|
 (Zn6 (decide (n < 0)) ([(IntKind.wrap .u32 u),(IntKind.wrap .u32 (shrK .u64 u 32))]:(List Int))).bind fun q=>
 some q
def Zn3 (n:Int):Option ZnF:=
 bif (decide (n < 0))then (
  ZqH n (IntKind.wrap .u64 (0 - (IntKind.wrap .u64 n))) false ([]:(List Int))
 )else (
  ZqH n (IntKind.wrap .u64 n) false ([]:(List Int))
 )
def Zot (t2:Bool):Option Bool:=
 some t2
def ZoR (a:ZnF):Option Bool:=
 bif (decide ((a.Words.length:Int)≤256))then (
  bif ((a.Words.length:Int) == 0)then (
   bif (!a.Neg)then (
    Zot true
   )else (
    bif (decide ((a.Words.length:Int) > 0))then (
     chk (inK .i64 ((a.Words.length:Int) - 1)) <|
     (idx a.Words ((a.Words.length:Int) - 1)).bind fun Word=>
     Zot (Word != 0)
    )else (
     Zot false
    )
   )
  )else (
   bif (decide ((a.Words.length:Int) > 0))then (
    chk (inK .i64 ((a.Words.length:Int) - 1)) <|
    (idx a.Words ((a.Words.length:Int) - 1)).bind fun Word_1=>
    Zot (Word_1 != 0)
   )else (
    Zot false
   )
  )
 )else (
  Zot false
 )
def ZtG (out:(List Int)):Option (List Int):=
 (Zoi out).bind fun q=>
 some q
def Zqj (rec_:(List Int)→Int→Int→(List Int)→Option (List Int)) (a:(List Int)) (t9:Int) (i:Int) (out:(List Int)):Option (List Int):=
 chk (inK .i64 (i+1)) <|
 rec_ a t9 (i+1) out
def Zq9 (rec_:(List Int)→Int→Int→(List Int)→Option (List Int)) (a:(List Int)) (t9:Int) (i:Int) (out:(List Int)):Option (List Int):=
 bif (decide (i < t9))then (
  chk (inR i (out.length:Int)) <|
  (out[(i).toNat]?).bind fun out_e=>
  chk (decide (0≤(1:Int))) <|
  chk (inR i (out.length:Int)) <|
  chk (inK .i64 (i+1)) <|
  bif (decide ((i+1) < (a.length:Int)))then (
   chk (inR i ((out.set ((i).toNat) (shrK .u32 out_e 1)).length:Int)) <|
   ((out.set ((i).toNat) (shrK .u32 out_e 1))[(i).toNat]?).bind fun e_e=>
   chk (inK .i64 (i+1)) <|
   (idx a (i+1)).bind fun a_e=>
   chk (decide (0≤(31:Int))) <|
   chk (inR i ((out.set ((i).toNat) (shrK .u32 out_e 1)).length:Int)) <|
   Zqj rec_ a t9 i ((out.set ((i).toNat) (shrK .u32 out_e 1)).set ((i).toNat) (orK .u32 e_e (shlK .u32 a_e 31)))
  )else (
   Zqj rec_ a t9 i (out.set ((i).toNat) (shrK .u32 out_e 1))
  )
 )else (
  some out
 )
def Zqi:Nat→(List Int)→Int→Int→(List Int)→Option (List Int)
 |0,_,_,_,_=>none
 |n_+1,a,t9,i,out=>Zq9 (Zqi n_) a t9 i out
def Zu8 (n:Nat) (s:((List Int)×Int×Int×(List Int))):Option (List Int):=Zqi n s.1 s.2.1 s.2.2.1 s.2.2.2
def ZsT (rec_:((List Int)×Int×Int×(List Int))→Option (List Int)) (s:((List Int)×Int×Int×(List Int))):Option (List Int):=Zq9 (fun a t9 i out=>rec_ (a,t9,i,out)) s.1 s.2.1 s.2.2.1 s.2.2.2
theorem Zw3:∀n s,Zu8 (n+1) s=ZsT (Zu8 n) s:=fun _ _=>rfl
def Zo2 (a:(List Int)):Option (List Int):=
 chk (ZiZ (([]:(List Int)).length+a.length) 4) <|
 (Zqi big a ((([]:(List Int))++a).length:Int) (0:Int) (([]:(List Int))++a)).bind fun x0=>ZtG x0
def Zua:Option Int:=
 some (0:Int)
def Zrl (rec_:(List Int)→(List Int)→Int→Option (Out Unit Int)) (a:(List Int)) (b:(List Int)) (i:Int):Option (Out Unit Int):=
 bif (decide (i≥0))then (
  (idx a i).bind fun a_e=>
  (idx b i).bind fun b_e=>
  bif (decide (a_e < b_e))then (
   some (.ret (-1:Int))
  )else (
   (idx a i).bind fun a_e_1=>
   (idx b i).bind fun b_e_1=>
   bif (decide (a_e_1 > b_e_1))then (
    some (.ret (1:Int))
   )else (
    chk (inK .i64 (i - 1)) <|
    rec_ a b (i - 1)
   )
  )
 )else (
  some (.brk ())
 )
def Zsg:Nat→(List Int)→(List Int)→Int→Option (Out Unit Int)
 |0,_,_,_=>none
 |n_+1,a,b,i=>Zrl (Zsg n_) a b i
def Zvl (n:Nat) (s:((List Int)×(List Int)×Int)):Option (Out Unit Int):=Zsg n s.1 s.2.1 s.2.2
def Ztb (rec_:((List Int)×(List Int)×Int)→Option (Out Unit Int)) (s:((List Int)×(List Int)×Int)):Option (Out Unit Int):=Zrl (fun a b i=>rec_ (a,b,i)) s.1 s.2.1 s.2.2
theorem Zxp:∀n s,Zvl (n+1) s=Ztb (Zvl n) s:=fun _ _=>rfl
def ZoB (a:(List Int)) (b:(List Int)):Option Int:=
 bif ((a.length:Int) != (b.length:Int))then (
  bif (decide ((a.length:Int) < (b.length:Int)))then (
   some (-1:Int)
  )else (
   some (1:Int)
  )
 )else (
  chk (inK .i64 ((a.length:Int) - 1)) <|
  (Zsg big a b ((a.length:Int) - 1)).bind fun
   | .ret q_=>some q_
   | .brk ()=>Zua
 )
def Zt1 (out:(List Int)):Option (List Int):=
 (Zoi out).bind fun q=>
 some q
def Zqw (rec_:(List Int)→(List Int)→Int→Int→(List Int)→Option (List Int)) (a:(List Int)) (b:(List Int)) (c:Int) (i:Int) (out:(List Int)):Option (List Int):=
 chk (ZiZ (out.length+([(IntKind.wrap .u32 c)]:(List Int)).length) 4) <|
 chk (decide (0≤(32:Int))) <|
 chk (inK .i64 (i+1)) <|
 rec_ a b (shrK .i64 c 32) (i+1) (out++([(IntKind.wrap .u32 c)]:(List Int)))
def Zrh (rec_:(List Int)→(List Int)→Int→Int→(List Int)→Option (List Int)) (a:(List Int)) (b:(List Int)) (c:Int) (i:Int) (out:(List Int)):Option (List Int):=
 bif (decide (i < (a.length:Int)))then (
  (idx a i).bind fun a_e=>
  chk (inK .i64 (c+(IntKind.wrap .i64 a_e))) <|
  bif (decide (i < (b.length:Int)))then (
   (idx b i).bind fun b_e=>
   chk (inK .i64 ((c+(IntKind.wrap .i64 a_e)) - (IntKind.wrap .i64 b_e))) <|
   Zqw rec_ a b ((c+(IntKind.wrap .i64 a_e)) - (IntKind.wrap .i64 b_e)) i out
  )else (
   Zqw rec_ a b (c+(IntKind.wrap .i64 a_e)) i out
  )
 )else (
  some out
 )
def Zqv:Nat→(List Int)→(List Int)→Int→Int→(List Int)→Option (List Int)
 |0,_,_,_,_,_=>none
 |n_+1,a,b,c,i,out=>Zrh (Zqv n_) a b c i out
def Zvh (n:Nat) (s:((List Int)×(List Int)×Int×Int×(List Int))):Option (List Int):=Zqv n s.1 s.2.1 s.2.2.1 s.2.2.2.1 s.2.2.2.2
def Zs5 (rec_:((List Int)×(List Int)×Int×Int×(List Int))→Option (List Int)) (s:((List Int)×(List Int)×Int×Int×(List Int))):Option (List Int):=Zrh (fun a b c i out=>rec_ (a,b,c,i,out)) s.1 s.2.1 s.2.2.1 s.2.2.2.1 s.2.2.2.2
theorem Zxl:∀n s,Zvh (n+1) s=Zs5 (Zvh n) s:=fun _ _=>rfl
def Zph (a:(List Int)) (b:(List Int)):Option (List Int):=
 (Zqv big a b (0:Int) (0:Int) ([]:(List Int))).bind fun x0=>Zt1 x0
def Zs4 (d:Int) (out:(List Int)):Option (List Int):=
 chk (ZiZ (out.length+([d]:(List Int)).length) 4) <|
 (Zoi (out++([d]:(List Int)))).bind fun q=>
 some q
def ZqG (rec_:(List Int)→Int→Int→(List Int)→Option (Int×(List Int))) (a:(List Int)) (d:Int) (i:Int) (out:(List Int)):Option (Int×(List Int)):=
 bif (decide (i < (a.length:Int)))then (
  (idx a i).bind fun a_e=>
  chk (decide (0≤(1:Int))) <|
  chk (ZiZ (out.length+([(orK .u32 (shlK .u32 a_e 1) d)]:(List Int)).length) 4) <|
  (idx a i).bind fun a_e_1=>
  chk (decide (0≤(31:Int))) <|
  chk (inK .i64 (i+1)) <|
  rec_ a (shrK .u32 a_e_1 31) (i+1) (out++([(orK .u32 (shlK .u32 a_e 1) d)]:(List Int)))
 )else (
  some (d,out)
 )
def Zrg:Nat→(List Int)→Int→Int→(List Int)→Option (Int×(List Int))
 |0,_,_,_,_=>none
 |n_+1,a,d,i,out=>ZqG (Zrg n_) a d i out
def ZuR (n:Nat) (s:((List Int)×Int×Int×(List Int))):Option (Int×(List Int)):=Zrg n s.1 s.2.1 s.2.2.1 s.2.2.2
def Zsy (rec_:((List Int)×Int×Int×(List Int))→Option (Int×(List Int))) (s:((List Int)×Int×Int×(List Int))):Option (Int×(List Int)):=ZqG (fun a d i out=>rec_ (a,d,i,out)) s.1 s.2.1 s.2.2.1 s.2.2.2
theorem ZwP:∀n s,ZuR (n+1) s=Zsy (ZuR n) s:=fun _ _=>rfl
def ZpY (a:(List Int)) (d:Int):Option (List Int):=
 (Zrg big a d (0:Int) ([]:(List Int))).bind fun(x0,x1)=>Zs4 x0 x1
def Zt4 (a:(List Int)):Option (List Int):=
 some a
def Zp3 (rec_:(List Int)→Int→Option (List Int)) (a:(List Int)) (k:Int):Option (List Int):=
 bif (decide (k > 0))then (
  (ZpY a 0).bind fun a_1=>
  chk (inK .i64 (k - 1)) <|
  rec_ a_1 (k - 1)
 )else (
  some a
 )
def ZpM:Nat→(List Int)→Int→Option (List Int)
 |0,_,_=>none
 |n_+1,a,k=>Zp3 (ZpM n_) a k
def Zt5 (a:(List Int)) (k:Int):Option (List Int):=
 (ZpM big a k).bind fun x0=>Zt4 x0
def Zse (rec_:(List Int)→(List Int)→Int→Option ((List Int)×Int)) (a:(List Int)) (b:(List Int)) (k:Int):Option ((List Int)×Int):=
 (Zph b a).bind fun b_1=>
 rec_ a b_1 k
def Zt6 (rec_:(List Int)→(List Int)→Int→Option ((List Int)×Int)) (a:(List Int)) (b:(List Int)) (k:Int):Option ((List Int)×Int):=
 (ZoB a b).bind fun q=>
 bif (decide (q > 0))then (
  Zse rec_ b a k
 )else (
  Zse rec_ a b k
 )
def Zs8 (rec_:(List Int)→(List Int)→Int→Option ((List Int)×(List Int)×Int)) (a:(List Int)) (b:(List Int)) (k:Int):Option ((List Int)×(List Int)×Int):=
 (idx b 0).bind fun b_e=>
 bif ((andK .u32 b_e 1) == 0)then (
  (Zo2 b).bind fun b_1=>
  rec_ a b_1 k
 )else (
  some (a,b,k)
 )
def ZoO:Nat→(List Int)→(List Int)→Int→Option ((List Int)×(List Int)×Int)
 |0,_,_,_=>none
 |n_+1,a,b,k=>Zs8 (ZoO n_) a b k
def Zt7 (rec_:(List Int)→(List Int)→Int→Option ((List Int)×Int)) (a:(List Int)) (b:(List Int)) (k:Int):Option ((List Int)×Int):=
 (ZoO big a b k).bind fun(x0,x1,x2)=>Zt6 rec_ x0 x1 x2
def Zp4 (rec_:(List Int)→(List Int)→Int→Option ((List Int)×(List Int)×Int)) (a:(List Int)) (b:(List Int)) (k:Int):Option ((List Int)×(List Int)×Int):=
 (idx a 0).bind fun a_e=>
 bif ((andK .u32 a_e 1) == 0)then (
  (Zo2 a).bind fun a_1=>
  rec_ a_1 b k
 )else (
  some (a,b,k)
 )
def ZoP:Nat→(List Int)→(List Int)→Int→Option ((List Int)×(List Int)×Int)
 |0,_,_,_=>none
 |n_+1,a,b,k=>Zp4 (ZoP n_) a b k
def Zp5 (rec_:(List Int)→(List Int)→Int→Option ((List Int)×Int)) (a:(List Int)) (b:(List Int)) (k:Int):Option ((List Int)×Int):=
 bif (decide ((b.length:Int) > 0))then (
  (ZoP big a b k).bind fun(x0,x1,x2)=>Zt7 rec_ x0 x1 x2
 )else (
  some (a,k)
 )
def Zn8:Nat→(List Int)→(List Int)→Int→Option ((List Int)×Int)
 |0,_,_,_=>none
 |n_+1,a,b,k=>Zp5 (Zn8 n_) a b k
def Zt8 (a:(List Int)) (b:(List Int)) (k:Int):Option (List Int):=
 (Zn8 big a b k).bind fun(x0,x1)=>Zt5 x0 x1
def Zsf (rec_:(List Int)→(List Int)→Int→Option ((List Int)×(List Int)×Int)) (a:(List Int)) (b:(List Int)) (k:Int) (t17:Bool):Option ((List Int)×(List Int)×Int):=
 bif t17 then (
  (Zo2 a).bind fun a_1=>
  (Zo2 b).bind fun b_1=>
  chk (inK .i64 (k+1)) <|
  rec_ a_1 b_1 (k+1)
 )else (
  some (a,b,k)
 )
def Zs9 (rec_:(List Int)→(List Int)→Int→Option ((List Int)×(List Int)×Int)) (a:(List Int)) (b:(List Int)) (k:Int):Option ((List Int)×(List Int)×Int):=
 (idx a 0).bind fun a_e=>
 bif ((andK .u32 a_e 1) == 0)then (
  (idx b 0).bind fun b_e=>
  Zsf rec_ a b k ((andK .u32 b_e 1) == 0)
 )else (
  Zsf rec_ a b k false
 )
def ZpN:Nat→(List Int)→(List Int)→Int→Option ((List Int)×(List Int)×Int)
 |0,_,_,_=>none
 |n_+1,a,b,k=>Zs9 (ZpN n_) a b k
def Zqq (a:(List Int)) (b:(List Int)):Option (List Int):=
 (ZpN big a b (0:Int)).bind fun(x0,x1,x2)=>Zt8 x0 x1 x2
def ZrW (a:(List Int)) (i:Int):Option Int:=
 chk (decide ((32:Int)≠0)) <|
 chk (inK .i64 (Int.tdiv i 32)) <|
 (idx a (Int.tdiv i 32)).bind fun a_e=>
 chk (decide ((32:Int)≠0)) <|
 chk (decide (0≤(IntKind.wrap .u64 (Int.tmod i 32)))) <|
 some (andK .u32 (shrK .u32 a_e (IntKind.wrap .u64 (Int.tmod i 32))) 1)
def Zt9 (r_:(List Int)) (q:(List Int)):Option ((List Int)×(List Int)):=
 (Zoi q).bind fun q_1=>
 some (q_1,r_)
def ZqA (rec_:(List Int)→(List Int)→(List Int)→Int→(List Int)→Option ((List Int)×(List Int))) (a:(List Int)) (b:(List Int)) (r_:(List Int)) (i:Int) (q:(List Int)):Option ((List Int)×(List Int)):=
 chk (inK .i64 (i - 1)) <|
 rec_ a b r_ (i - 1) q
def Zrk (rec_:(List Int)→(List Int)→(List Int)→Int→(List Int)→Option ((List Int)×(List Int))) (a:(List Int)) (b:(List Int)) (r_:(List Int)) (i:Int) (q:(List Int)):Option ((List Int)×(List Int)):=
 bif (decide (i≥0))then (
  (ZrW a i).bind fun q_1=>
  (ZpY r_ q_1).bind fun r__1=>
  (ZoB r__1 b).bind fun q_2=>
  bif (decide (q_2≥0))then (
   (Zph r__1 b).bind fun r__2=>
   chk (decide ((32:Int)≠0)) <|
   chk (inK .i64 (Int.tdiv i 32)) <|
   chk (inR (Int.tdiv i 32) (q.length:Int)) <|
   (q[((Int.tdiv i 32)).toNat]?).bind fun q_e=>
   chk (decide ((32:Int)≠0)) <|
   chk (decide (0≤(IntKind.wrap .u64 (Int.tmod i 32)))) <|
   chk (inR (Int.tdiv i 32) (q.length:Int)) <|
   ZqA rec_ a b r__2 i (q.set (((Int.tdiv i 32)).toNat) (orK .u32 q_e (shlK .u32 1 (IntKind.wrap .u64 (Int.tmod i 32)))))
  )else (
   ZqA rec_ a b r__1 i q
  )
 )else (
  some (r_,q)
 )
def Zqz:Nat→(List Int)→(List Int)→(List Int)→Int→(List Int)→Option ((List Int)×(List Int))
 |0,_,_,_,_,_=>none
 |n_+1,a,b,r_,i,q=>Zrk (Zqz n_) a b r_ i q
def Zvk (n:Nat) (s:((List Int)×(List Int)×(List Int)×Int×(List Int))):Option ((List Int)×(List Int)):=Zqz n s.1 s.2.1 s.2.2.1 s.2.2.2.1 s.2.2.2.2
def Zta (rec_:((List Int)×(List Int)×(List Int)×Int×(List Int))→Option ((List Int)×(List Int))) (s:((List Int)×(List Int)×(List Int)×Int×(List Int))):Option ((List Int)×(List Int)):=Zrk (fun a b r_ i q=>rec_ (a,b,r_,i,q)) s.1 s.2.1 s.2.2.1 s.2.2.2.1 s.2.2.2.2
theorem Zxo:∀n s,Zvk (n+1) s=Zta (Zvk n) s:=fun _ _=>rfl
def Zqr (a:(List Int)) (b:(List Int)):Option ((List Int)×(List Int)):=
 chk (mkOk (a.length:Int) (a.length:Int) 4) <|
 chk (inK .i64 (32*(a.length:Int))) <|
 chk (inK .i64 ((32*(a.length:Int)) - 1)) <|
 (Zqz big a b ([]:(List Int)) ((32*(a.length:Int)) - 1) (List.replicate ((a.length:Int)).toNat (0:Int))).bind fun(x0,x1)=>Zt9 x0 x1
def Zo8 (num:ZnF) (den:ZnF):Option ZnB:=
 bif ((num.Words.length:Int) == 0)then (
  (Zn3 1).bind fun q=>
  some (ZnB.mk (ZnF.mk false ([]:(List Int))) q)
 )else (
  (Zqq num.Words den.Words).bind fun g=>
  (Zqr num.Words g).bind fun(x_,q_1)=>
  (Zqr den.Words g).bind fun(y,q_2)=>
  (Zn6 (!(num.Neg == den.Neg)) x_).bind fun q_3=>
  (Zn6 false y).bind fun q_4=>
  some (ZnB.mk q_3 q_4)
 )
def ZrQ (t13:Bool) (num:ZnF) (den:ZnF) (t4:Bool) (t4_1:Bool) (t4_2:(List Int)) (t4_3:(List Int)):Option (ZnB×Int):=
 bif t13 then (
  some ((ZnB.mk (ZnF.mk false ([]:(List Int))) (ZnF.mk false ([]:(List Int)))),1)
 )else (
  bif ((den.Words.length:Int) == 0)then (
   some ((ZnB.mk (ZnF.mk false ([]:(List Int))) (ZnF.mk false ([]:(List Int)))),8)
  )else (
   (Zo8 num den).bind fun q=>
   some (q,0)
  )
 )
def Zrs (num:ZnF) (den:ZnF):Option (ZnB×Int):=
 (ZoR num).bind fun q=>
 bif (!q)then (
  ZrQ true num den false false ([]:(List Int)) ([]:(List Int))
 )else (
  (ZoR den).bind fun q_1=>
  ZrQ (!q_1) num den false false ([]:(List Int)) ([]:(List Int))
 )
def Zq2 (num:Int) (den:Int):Option (ZnB×Int):=
 (Zn3 num).bind fun q=>
 (Zn3 den).bind fun q_1=>
 (Zrs q q_1).bind fun(q_2,q_3)=>
 some (q_2,q_3)
def Zre (n:Int) (d:Int):Option ZnB:=
 (Zq2 n d).bind fun(f,q)=>
 some f
def Zqp (n:Int):Option ZnB:=
 (Zre n 1).bind fun q=>
 some q
def Zsx:Option Bool:=
 some true
def Zqa (rec_:(List Int)→Int→Int→ZnF→Option (Out Unit Bool)) (t22:(List Int)) (t23:Int) (i:Int) (b:ZnF):Option (Out Unit Bool):=
 bif (decide (i < t23))then (
  (idx t22 i).bind fun w_=>
  (idx b.Words i).bind fun Word=>
  bif (Word != w_)then (
   some (.ret false)
  )else (
   chk (inK .i64 (i+1)) <|
   rec_ t22 t23 (i+1) b
  )
 )else (
  some (.brk ())
 )
def ZqE:Nat→(List Int)→Int→Int→ZnF→Option (Out Unit Bool)
 |0,_,_,_,_=>none
 |n_+1,t22,t23,i,b=>Zqa (ZqE n_) t22 t23 i b
def Zuw (n:Nat) (s:((List Int)×Int×Int×ZnF)):Option (Out Unit Bool):=ZqE n s.1 s.2.1 s.2.2.1 s.2.2.2
def ZrZ (rec_:((List Int)×Int×Int×ZnF)→Option (Out Unit Bool)) (s:((List Int)×Int×Int×ZnF)):Option (Out Unit Bool):=Zqa (fun t22 t23 i b=>rec_ (t22,t23,i,b)) s.1 s.2.1 s.2.2.1 s.2.2.2
theorem ZwC:∀n s,Zuw (n+1) s=ZrZ (Zuw n) s:=fun _ _=>rfl
def ZqF (t20:Bool) (a:ZnF) (b:ZnF):Option Bool:=
 bif t20 then (
  some false
 )else (
  (ZqE big a.Words (a.Words.length:Int) (0:Int) b).bind fun
   | .ret q_=>some q_
   | .brk ()=>Zsx
 )
def ZpB (a:ZnF) (b:ZnF):Option Bool:=
 bif (!(a.Neg == b.Neg))then (
  ZqF true a b
 )else (
  ZqF ((a.Words.length:Int) != (b.Words.length:Int)) a b
 )
def ZrL (t4:Bool):Option Bool:=
 some t4
def Zqb (a:ZnB) (b:ZnB):Option Bool:=
 (ZpB a.Num b.Num).bind fun q=>
 bif q then (
  (ZpB a.Den b.Den).bind fun q_1=>
  ZrL q_1
 )else (
  ZrL false
 )
def Ztg:Option Bool:=
 (ZsV ([]:Str)).bind fun q=>
 some (q == 14695981039346656037)
def Zp6 (rec_:(List ZnA)→Int→Int→Option (Out Unit Bool)) (t42:(List ZnA)) (t43:Int) (t44:Int) (t62:Bool):Option (Out Unit Bool):=
 bif t62 then (
  some (.ret false)
 )else (
  chk (inK .i64 (t44+1)) <|
  rec_ t42 t43 (t44+1)
 )
def ZqJ (rec_:(List ZnA)→Int→Int→Option (Out Unit Bool)) (t42:(List ZnA)) (t43:Int) (t44:Int):Option (Out Unit Bool):=
 bif (decide (t44 < t43))then (
  (idx t42 t44).bind fun x_=>
  bif (x_.Key == ([97]:Str))then (
   bif (x_.Count != 2)then (
    Zp6 rec_ t42 t43 t44 true
   )else (
    (Zqp 3).bind fun q=>
    (Zqb x_.Sum q).bind fun q_1=>
    Zp6 rec_ t42 t43 t44 (!q_1)
   )
  )else (
   Zp6 rec_ t42 t43 t44 false
  )
 )else (
  some (.brk ())
 )
def Zpm:Nat→(List ZnA)→Int→Int→Option (Out Unit Bool)
 |0,_,_,_=>none
 |n_+1,t42,t43,t44=>ZqJ (Zpm n_) t42 t43 t44
def ZuU (n:Nat) (s:((List ZnA)×Int×Int)):Option (Out Unit Bool):=Zpm n s.1 s.2.1 s.2.2
def ZsC (rec_:((List ZnA)×Int×Int)→Option (Out Unit Bool)) (s:((List ZnA)×Int×Int)):Option (Out Unit Bool):=ZqJ (fun t42 t43 t44=>rec_ (t42,t43,t44)) s.1 s.2.1 s.2.2
theorem ZwQ:∀n s,ZuU (n+1) s=ZsC (ZuU n) s:=fun _ _=>rfl
def Zpn (t40:Bool) (s:ZnI):Option Bool:=
 bif t40 then (
  some false
 )else (
  (Zpm big s.Entries (s.Entries.length:Int) (0:Int)).bind fun
   | .ret q_=>some q_
   | .brk ()=>Ztg
 )
def ZpZ:Option Bool:=
 (ZvJ (ZnD.mk ([]:Str) ([(ZnC.mk false ([97]:Str)),(ZnC.mk false ([97]:Str)),(ZnC.mk false ([98]:Str))]:(List ZnC))) (ZnD.mk ([]:Str) ([(ZnC.mk false ([49]:Str)),(ZnC.mk false ([50]:Str)),(ZnC.mk false ([53]:Str))]:(List ZnC))) 10).bind fun(s,e)=>
 bif (e != 0)then (
  Zpn true s
 )else (
  bif (!s.All)then (
   Zpn true s
  )else (
   bif ((s.Entries.length:Int) != 2)then (
    Zpn true s
   )else (
    (Zsk s).bind fun q=>
    Zpn (!q) s
   )
  )
 )
def ZtP (t:(List Int)):Option ZnH:=
 some (ZnH.mk t 0)
def ZrG (n:Int) (m:Int):Option Int:=
 bif (decide (m < 1))then (
  some (0:Int)
 )else (
  chk (decide (m≠0)) <|
  chk (inK .i64 ((Int.tmod n m)+m)) <|
  chk (decide (m≠0)) <|
  some (Int.tmod ((Int.tmod n m)+m) m)
 )
def Zod (d:ZnH) (n:Int):Option (Int×ZnH):=
 bif (decide (d.at_≥(d.l.length:Int)))then (
  some (0,d)
 )else (
  chk (inK .i64 (d.at_+1)) <|
  chk (inK .i64 ((d.at_+1) - 1)) <|
  (idx d.l ((d.at_+1) - 1)).bind fun l_e=>
  (ZrG l_e n).bind fun q=>
  some (q,(ZnH.mk d.l (d.at_+1)))
 )
def ZoG (d:ZnH) (l:(List Str)):Option (Str×ZnH):=
 (Zod d (l.length:Int)).bind fun(q,t6)=>
 (idx l q).bind fun l_e=>
 some (l_e,t6)
def Zsq (d:ZnH):Option (ZnC×ZnH):=
 (Zod d 7).bind fun(q,t3)=>
 bif (q == 1)then (
  some ((ZnC.mk true ([]:Str)),t3)
 )else (
  (ZoG t3 ([([97]:Str),([98]:Str),([99]:Str),([49]:Str),([50]:Str),([51]:Str),([49,48]:Str),([120]:Str),([45,49,46,53]:Str),([50]:Str)]:(List Str))).bind fun(q_1,t7)=>
  some ((ZnC.mk false q_1),t7)
 )
def ZuZ (n:Int):Option Str:=
 some (Lib.itoa n)
def Zrv (d:ZnH):Option (ZnC×ZnH):=
 (Zod d 9).bind fun(q,t3)=>
 bif (q == 1)then (
  some ((ZnC.mk true ([]:Str)),t3)
 )else (
  bif (q == 2)then (
   (ZoG t3 ([([120]:Str),([]:Str),([49,46,50,46,51]:Str),([49,46,53,48]:Str)]:(List Str))).bind fun(q_1,t10)=>
   some ((ZnC.mk false q_1),t10)
  )else (
   (Zod t3 12).bind fun(q_2,t14)=>
   chk (inK .i64 (q_2 - 3)) <|
   (ZuZ (q_2 - 3)).bind fun q_3=>
   some ((ZnC.mk false q_3),t14)
  )
 )
def ZtI (d:ZnH) (t4:Str) (c:Str) (t4_1:(List ZnC)) (c_1:(List ZnC)):Option (ZnD×ZnH):=
 some ((ZnD.mk c c_1),d)
def ZoZ (rec_:Int→Int→Int→ZnH→Str→Str→(List ZnC)→(List ZnC)→Option (ZnH×Str×Str×(List ZnC)×(List ZnC))) (kind:Int) (t15:Int) (i:Int) (d:ZnH) (t4:Str) (c:Str) (x_:ZnC) (t4_1:(List ZnC)) (c_1:(List ZnC)):Option (ZnH×Str×Str×(List ZnC)×(List ZnC)):=
 chk (ZiZ (c_1.length+([x_]:(List ZnC)).length) 24) <|
 chk (inK .i64 (i+1)) <|
 rec_ kind t15 (i+1) d t4 c t4_1 (c_1++([x_]:(List ZnC)))
def Zra (rec_:Int→Int→Int→ZnH→Str→Str→(List ZnC)→(List ZnC)→Option (ZnH×Str×Str×(List ZnC)×(List ZnC))) (kind:Int) (t15:Int) (i:Int) (d:ZnH) (t4:Str) (c:Str) (t4_1:(List ZnC)) (c_1:(List ZnC)):Option (ZnH×Str×Str×(List ZnC)×(List ZnC)):=
 bif (decide (i < t15))then (
  (Zsq d).bind fun(x_,t19)=>
  bif (kind == 0)then (
   (Zrv t19).bind fun(x__1,t24)=>
   ZoZ rec_ kind t15 i t24 t4 c x__1 t4_1 c_1
  )else (
   bif (kind == 1)then (
    (ZuZ i).bind fun q=>
    chk (decide (([107]:Str).length+q.length≤Zq)) <|
    ZoZ rec_ kind t15 i t19 t4 c (ZnC.mk false (([107]:Str)++q)) t4_1 c_1
   )else (
    bif (kind == 2)then (
     (ZoG t19 ([([97]:Str),([98]:Str),([99]:Str),([100]:Str)]:(List Str))).bind fun(q_1,t34)=>
     ZoZ rec_ kind t15 i t34 t4 c (ZnC.mk false q_1) t4_1 c_1
    )else (
     ZoZ rec_ kind t15 i t19 t4 c x_ t4_1 c_1
    )
   )
  )
 )else (
  some (d,t4,c,t4_1,c_1)
 )
def Zqk:Nat→Int→Int→Int→ZnH→Str→Str→(List ZnC)→(List ZnC)→Option (ZnH×Str×Str×(List ZnC)×(List ZnC))
 |0,_,_,_,_,_,_,_,_=>none
 |n_+1,kind,t15,i,d,t4,c,t4_1,c_1=>Zra (Zqk n_) kind t15 i d t4 c t4_1 c_1
def Zu9 (n:Nat) (s:(Int×Int×Int×ZnH×Str×Str×(List ZnC)×(List ZnC))):Option (ZnH×Str×Str×(List ZnC)×(List ZnC)):=Zqk n s.1 s.2.1 s.2.2.1 s.2.2.2.1 s.2.2.2.2.1 s.2.2.2.2.2.1 s.2.2.2.2.2.2.1 s.2.2.2.2.2.2.2
def ZsU (rec_:(Int×Int×Int×ZnH×Str×Str×(List ZnC)×(List ZnC))→Option (ZnH×Str×Str×(List ZnC)×(List ZnC))) (s:(Int×Int×Int×ZnH×Str×Str×(List ZnC)×(List ZnC))):Option (ZnH×Str×Str×(List ZnC)×(List ZnC)):=Zra (fun kind t15 i d t4 c t4_1 c_1=>rec_ (kind,t15,i,d,t4,c,t4_1,c_1)) s.1 s.2.1 s.2.2.1 s.2.2.2.1 s.2.2.2.2.1 s.2.2.2.2.2.1 s.2.2.2.2.2.2.1 s.2.2.2.2.2.2.2
theorem Zw6:∀n s,Zu9 (n+1) s=ZsU (Zu9 n) s:=fun _ _=>rfl
def Zqd (d:ZnH) (rows:Int):Option (ZnD×ZnH):=
 (ZoG d ([([105,100]:Str),([110,97,109,101]:Str),([85,110,105,116,32,80,114,105,99,101]:Str),([99,105,116,121]:Str),([117,110,105,116]:Str),([112,114,105,99,101]:Str),([105,100,50]:Str),([]:Str)]:(List Str))).bind fun(q,t9)=>
 (Zod t9 5).bind fun(kind,t13)=>
 (Zqk big kind rows (0:Int) t13 ([]:Str) q ([]:(List ZnC)) ([]:(List ZnC))).bind fun(x0,x1,x2,x3,x4)=>ZtI x0 x1 x2 x3 x4
def ZvN (s:Str):Option Str:=
 some s
def ZtB (rec_:Str→Option Str) (s:Str) (t23:Bool):Option Str:=
 bif t23 then (
  chk (inK .i64 ((s.length:Int) - 1)) <|
  chk (Zb9 0 ((s.length:Int) - 1) (s.length:Int)) <|
  rec_ (s.take (((s.length:Int) - 1)).toNat)
 )else (
  some s
 )
def Zxi (rec_:Str→Option Str) (s:Str):Option Str:=
 bif (decide ((s.length:Int) > 0))then (
  chk (inK .i64 ((s.length:Int) - 1)) <|
  (idx s ((s.length:Int) - 1)).bind fun c=>
  ZtB rec_ s (((c.toNat:Nat):Int) == 32)
 )else (
  ZtB rec_ s false
 )
def ZrO:Nat→Str→Option Str
 |0,_=>none
 |n_+1,s=>Zxi (ZrO n_) s
def ZvO (s:Str):Option Str:=
 (ZrO big s).bind fun x0=>ZvN x0
def ZtC (rec_:Str→Option Str) (s:Str) (t10:Bool):Option Str:=
 bif t10 then (
  chk (Zb9 1 (s.length:Int) (s.length:Int)) <|
  rec_ (s.drop ((1:Int)).toNat)
 )else (
  some s
 )
def Zxj (rec_:Str→Option Str) (s:Str):Option Str:=
 bif (decide ((s.length:Int) > 0))then (
  (idx s 0).bind fun c=>
  ZtC rec_ s (((c.toNat:Nat):Int) == 32)
 )else (
  ZtC rec_ s false
 )
def ZrP:Nat→Str→Option Str
 |0,_=>none
 |n_+1,s=>Zxj (ZrP n_) s
def ZuI (s:Str):Option Str:=
 (ZrP big s).bind fun x0=>ZvO x0
def ZvP (b:(List Int)):Option Str:=
 some (b.map fun n=>UInt8.ofNat (Int.toNat n))
def ZtD (rec_:Int→Int→(List Int)→Option (List Int)) (t8:Int) (i:Int) (b:(List Int)):Option (List Int):=
 chk (inK .i64 (i+1)) <|
 rec_ t8 (i+1) b
def ZtE (rec_:Int→Int→(List Int)→Option (List Int)) (i:Int) (t8:Int) (i_1:Int) (t23:Bool) (b:(List Int)):Option (List Int):=
 bif t23 then (
  chk (inR i (b.length:Int)) <|
  (b[(i).toNat]?).bind fun b_e=>
  chk (inR i (b.length:Int)) <|
  ZtD rec_ t8 i_1 (b.set ((i).toNat) (IntKind.wrap .u8 (b_e+32)))
 )else (
  ZtD rec_ t8 i_1 b
 )
def Zxk (rec_:Int→Int→(List Int)→Option (List Int)) (t8:Int) (i:Int) (b:(List Int)):Option (List Int):=
 bif (decide (i < t8))then (
  chk (inR i (b.length:Int)) <|
  (b[(i).toNat]?).bind fun b_e=>
  bif (decide (b_e≥65))then (
   chk (inR i (b.length:Int)) <|
   (b[(i).toNat]?).bind fun b_e_1=>
   ZtE rec_ i t8 i (decide (b_e_1≤90)) b
  )else (
   ZtE rec_ i t8 i false b
  )
 )else (
  some b
 )
def Zqh:Nat→Int→Int→(List Int)→Option (List Int)
 |0,_,_,_=>none
 |n_+1,t8,i,b=>Zxk (Zqh n_) t8 i b
def ZuJ (s:Str):Option Str:=
 chk (decide (s.length≤281474976710656)) <|
 (Zqh big ((s.map fun b=>((b.toNat:Nat):Int)).length:Int) (0:Int) (s.map fun b=>((b.toNat:Nat):Int))).bind fun x0=>ZvP x0
def Zvn (neg:Bool) (digits:Str) (places:Str):Option (Bool×Str×Str×Bool):=
 some (neg,digits,places,true)
def Ztd (rec_:Bool→Str→Str→Int→Option (Out (Bool×Str×Str) (Bool×Str×Str×Bool))) (neg:Bool) (digits:Str) (places:Str) (i:Int) (t92:Bool):Option (Out (Bool×Str×Str) (Bool×Str×Str×Bool)):=
 bif t92 then (
  some (.ret (false,([]:Str),([]:Str),false))
 )else (
  chk (inK .i64 (i+1)) <|
  rec_ neg digits places (i+1)
 )
def Zw4 (rec_:Bool→Str→Str→Int→Option (Out (Bool×Str×Str) (Bool×Str×Str×Bool))) (neg:Bool) (digits:Str) (places:Str) (i:Int):Option (Out (Bool×Str×Str) (Bool×Str×Str×Bool)):=
 bif (decide (i < (places.length:Int)))then (
  (idx places i).bind fun c=>
  bif (decide (((c.toNat:Nat):Int) < 48))then (
   Ztd rec_ neg digits places i true
  )else (
   (idx places i).bind fun c_1=>
   Ztd rec_ neg digits places i (decide (((c_1.toNat:Nat):Int) > 57))
  )
 )else (
  some (.brk (neg,digits,places))
 )
def Zrn:Nat→Bool→Str→Str→Int→Option (Out (Bool×Str×Str) (Bool×Str×Str×Bool))
 |0,_,_,_,_=>none
 |n_+1,neg,digits,places,i=>Zw4 (Zrn n_) neg digits places i
def Zrp (neg:Bool) (digits:Str) (places:Str) (t76:Bool):Option (Bool×Str×Str×Bool):=
 bif t76 then (
  some (false,([]:Str),([]:Str),false)
 )else (
  (Zrn big neg digits places (0:Int)).bind fun
   | .ret q_=>some q_
   | .brk (x0,x1,x2)=>Zvn x0 x1 x2
 )
def Zte (s:Str) (neg:Bool) (digits:Str) (k:Int) (t52:Bool):Option (Bool×Str×Str×Bool):=
 bif t52 then (
  some (false,([]:Str),([]:Str),false)
 )else (
  bif (k == (s.length:Int))then (
   some (neg,digits,([]:Str),true)
  )else (
   chk (inK .i64 (k+1)) <|
   chk (Zb9 (k+1) (s.length:Int) (s.length:Int)) <|
   (idx s k).bind fun c=>
   bif (((c.toNat:Nat):Int) != 46)then (
    Zrp neg digits (s.drop ((k+1)).toNat) true
   )else (
    bif (decide (((s.drop ((k+1)).toNat).length:Int) < 1))then (
     Zrp neg digits (s.drop ((k+1)).toNat) true
    )else (
     Zrp neg digits (s.drop ((k+1)).toNat) (decide (((s.drop ((k+1)).toNat).length:Int) > 9))
    )
   )
  )
 )
def Zvo (s:Str) (neg:Bool) (k:Int):Option (Bool×Str×Str×Bool):=
 chk (Zb9 0 k (s.length:Int)) <|
 bif (decide (k < 1))then (
  Zte s neg (s.take (k).toNat) k true
 )else (
  Zte s neg (s.take (k).toNat) k (decide (k > 15))
 )
def Zrq (rec_:Str→Bool→Int→Option (Str×Bool×Int)) (s:Str) (neg:Bool) (k:Int) (t41:Bool):Option (Str×Bool×Int):=
 bif t41 then (
  chk (inK .i64 (k+1)) <|
  rec_ s neg (k+1)
 )else (
  some (s,neg,k)
 )
def Zw5 (rec_:Str→Bool→Int→Option (Str×Bool×Int)) (s:Str) (neg:Bool) (k:Int):Option (Str×Bool×Int):=
 bif (decide (k < (s.length:Int)))then (
  (idx s k).bind fun c=>
  bif (decide (((c.toNat:Nat):Int)≥48))then (
   (idx s k).bind fun c_1=>
   Zrq rec_ s neg k (decide (((c_1.toNat:Nat):Int)≤57))
  )else (
   Zrq rec_ s neg k false
  )
 )else (
  Zrq rec_ s neg k false
 )
def Zro:Nat→Str→Bool→Int→Option (Str×Bool×Int)
 |0,_,_,_=>none
 |n_+1,s,neg,k=>Zw5 (Zro n_) s neg k
def Ztf (s:Str) (neg:Bool):Option (Bool×Str×Str×Bool):=
 (Zro big s neg (0:Int)).bind fun(x0,x1,x2)=>Zvo x0 x1 x2
def Zrr (s:Str) (neg:Bool) (t20:Bool):Option (Bool×Str×Str×Bool):=
 bif t20 then (
  (idx s 0).bind fun c=>
  chk (Zb9 1 (s.length:Int) (s.length:Int)) <|
  Ztf (s.drop ((1:Int)).toNat) (((c.toNat:Nat):Int) == 45)
 )else (
  Ztf s neg
 )
def Zst (s:Str):Option (Bool×Str×Str×Bool):=
 bif (decide ((s.length:Int) > 0))then (
  (idx s 0).bind fun c=>
  bif (((c.toNat:Nat):Int) == 43)then (
   Zrr s false true
  )else (
   (idx s 0).bind fun c_1=>
   Zrr s false (((c_1.toNat:Nat):Int) == 45)
  )
 )else (
  Zrr s false false
 )
def ZsK (digits:Str):Option Str:=
 some digits
def ZsL (digits:Str) (t43:Bool):Option Str:=
 bif t43 then (
  chk (decide (([45]:Str).length+digits.length≤Zq)) <|
  ZsK (([45]:Str)++digits)
 )else (
  ZsK digits
 )
def ZsM (neg:Bool) (digits:Str):Option Str:=
 bif neg then (
  ZsL digits (!(digits == ([48]:Str)))
 )else (
  ZsL digits false
 )
def Zu5 (neg:Bool) (digits:Str) (places:Str):Option Str:=
 bif (!(places == ([]:Str)))then (
  chk (decide (([46]:Str).length+places.length≤Zq)) <|
  chk (decide (digits.length+(([46]:Str)++places).length≤Zq)) <|
  ZsM neg (digits++(([46]:Str)++places))
 )else (
  ZsM neg digits
 )
def ZsN (rec_:Bool→Str→Str→Option (Bool×Str×Str)) (neg:Bool) (digits:Str) (places:Str) (t27:Bool):Option (Bool×Str×Str):=
 bif t27 then (
  chk (inK .i64 ((places.length:Int) - 1)) <|
  chk (Zb9 0 ((places.length:Int) - 1) (places.length:Int)) <|
  rec_ neg digits (places.take (((places.length:Int) - 1)).toNat)
 )else (
  some (neg,digits,places)
 )
def ZwN (rec_:Bool→Str→Str→Option (Bool×Str×Str)) (neg:Bool) (digits:Str) (places:Str):Option (Bool×Str×Str):=
 bif (decide ((places.length:Int) > 0))then (
  chk (inK .i64 ((places.length:Int) - 1)) <|
  (idx places ((places.length:Int) - 1)).bind fun c=>
  ZsN rec_ neg digits places (((c.toNat:Nat):Int) == 48)
 )else (
  ZsN rec_ neg digits places false
 )
def Zq6:Nat→Bool→Str→Str→Option (Bool×Str×Str)
 |0,_,_,_=>none
 |n_+1,neg,digits,places=>ZwN (Zq6 n_) neg digits places
def Zu6 (neg:Bool) (digits:Str) (places:Str):Option Str:=
 (Zq6 big neg digits places).bind fun(x0,x1,x2)=>Zu5 x0 x1 x2
def ZsO (rec_:Bool→Str→Str→Option (Bool×Str×Str)) (neg:Bool) (digits:Str) (places:Str) (t14:Bool):Option (Bool×Str×Str):=
 bif t14 then (
  chk (Zb9 1 (digits.length:Int) (digits.length:Int)) <|
  rec_ neg (digits.drop ((1:Int)).toNat) places
 )else (
  some (neg,digits,places)
 )
def ZwO (rec_:Bool→Str→Str→Option (Bool×Str×Str)) (neg:Bool) (digits:Str) (places:Str):Option (Bool×Str×Str):=
 bif (decide ((digits.length:Int) > 1))then (
  (idx digits 0).bind fun c=>
  ZsO rec_ neg digits places (((c.toNat:Nat):Int) == 48)
 )else (
  ZsO rec_ neg digits places false
 )
def Zq7:Nat→Bool→Str→Str→Option (Bool×Str×Str)
 |0,_,_,_=>none
 |n_+1,neg,digits,places=>ZwO (Zq7 n_) neg digits places
def ZtY (neg:Bool) (digits:Str) (places:Str):Option Str:=
 (Zq7 big neg digits places).bind fun(x0,x1,x2)=>Zu6 x0 x1 x2
def Zv4 (n:Int):Option Int:=
 some n
def ZtX (rec_:Str→Int→Int→Option (Out Int Int)) (s:Str) (n:Int) (i:Int) (t20:Bool):Option (Out Int Int):=
 bif t20 then (
  some (.ret (-1:Int))
 )else (
  chk (inK .i64 (10*n)) <|
  (idx s i).bind fun c=>
  chk (inK .i64 ((10*n)+(IntKind.wrap .i64 (IntKind.wrap .u8 (((c.toNat:Nat):Int) - 48))))) <|
  chk (inK .i64 (i+1)) <|
  rec_ s ((10*n)+(IntKind.wrap .i64 (IntKind.wrap .u8 (((c.toNat:Nat):Int) - 48)))) (i+1)
 )
def Zxz (rec_:Str→Int→Int→Option (Out Int Int)) (s:Str) (n:Int) (i:Int):Option (Out Int Int):=
 bif (decide (i < (s.length:Int)))then (
  (idx s i).bind fun c=>
  bif (decide (((c.toNat:Nat):Int) < 48))then (
   ZtX rec_ s n i true
  )else (
   (idx s i).bind fun c_1=>
   ZtX rec_ s n i (decide (((c_1.toNat:Nat):Int) > 57))
  )
 )else (
  some (.brk n)
 )
def Zsa:Nat→Str→Int→Int→Option (Out Int Int)
 |0,_,_,_=>none
 |n_+1,s,n,i=>Zxz (Zsa n_) s n i
def Zpg (s:Str):Option Int:=
 (Zsa big s (0:Int) (0:Int)).bind fun
  | .ret q_=>some q_
  | .brk x0=>Zv4 x0
def ZrM (t2:Bool):Option Bool:=
 some t2
def ZsQ (y:Int):Option Bool:=
 chk (decide ((4:Int)≠0)) <|
 bif ((Int.tmod y 4) == 0)then (
  chk (decide ((100:Int)≠0)) <|
  bif ((Int.tmod y 100) != 0)then (
   ZrM true
  )else (
   chk (decide ((400:Int)≠0)) <|
   ZrM ((Int.tmod y 400) == 0)
  )
 )else (
  ZrM false
 )
def ZpR (t15:Bool):Option Int:=
 bif t15 then (
  some (30:Int)
 )else (
  some (31:Int)
 )
def ZsP (m:Int) (t5:Bool):Option Int:=
 bif t5 then (
  some (29:Int)
 )else (
  bif (m == 2)then (
   some (28:Int)
  )else (
   bif (m == 4)then (
    ZpR true
   )else (
    bif (m == 6)then (
     ZpR true
    )else (
     bif (m == 9)then (
      ZpR true
     )else (
      ZpR (m == 11)
     )
    )
   )
  )
 )
def Zsb (y:Int) (m:Int):Option Int:=
 bif (m == 2)then (
  (ZsQ y).bind fun q=>
  ZsP m q
 )else (
  ZsP m false
 )
def Zv5 (day:Int) (n:Int):Option (Int×Bool):=
 chk (inK .i64 (n+day)) <|
 chk (inK .i64 ((n+day) - 1)) <|
 chk (inK .i64 (((n+day) - 1) - 719162)) <|
 some ((((n+day) - 1) - 719162),true)
def ZxA (rec_:Int→Int→Int→Int→Int→Option (Int×Int)) (year:Int) (month:Int) (day:Int) (n:Int) (m:Int):Option (Int×Int):=
 bif (decide (m < month))then (
  (Zsb year m).bind fun q=>
  chk (inK .i64 (n+q)) <|
  chk (inK .i64 (m+1)) <|
  rec_ year month day (n+q) (m+1)
 )else (
  some (day,n)
 )
def ZtZ:Nat→Int→Int→Int→Int→Int→Option (Int×Int)
 |0,_,_,_,_,_=>none
 |n_+1,year,month,day,n,m=>ZxA (ZtZ n_) year month day n m
def Zv6 (year:Int) (month:Int) (day:Int) (n:Int):Option (Int×Bool):=
 (ZtZ big year month day n (1:Int)).bind fun(x0,x1)=>Zv5 x0 x1
def Zt0 (rec_:Int→Int→Int→Int→Int→Option (Int×Int×Int×Int)) (year:Int) (month:Int) (day:Int) (n:Int) (y:Int):Option (Int×Int×Int×Int):=
 chk (inK .i64 (y+1)) <|
 rec_ year month day n (y+1)
def ZxB (rec_:Int→Int→Int→Int→Int→Option (Int×Int×Int×Int)) (year:Int) (month:Int) (day:Int) (n:Int) (y:Int):Option (Int×Int×Int×Int):=
 bif (decide (y < year))then (
  chk (inK .i64 (n+365)) <|
  (ZsQ y).bind fun q=>
  bif q then (
   chk (inK .i64 ((n+365)+1)) <|
   Zt0 rec_ year month day ((n+365)+1) y
  )else (
   Zt0 rec_ year month day (n+365) y
  )
 )else (
  some (year,month,day,n)
 )
def Zsc:Nat→Int→Int→Int→Int→Int→Option (Int×Int×Int×Int)
 |0,_,_,_,_,_=>none
 |n_+1,year,month,day,n,y=>ZxB (Zsc n_) year month day n y
def Zo7 (year:Int) (month:Int) (day:Int) (t35:Bool):Option (Int×Bool):=
 bif t35 then (
  some (0,false)
 )else (
  (Zsc big year month day (0:Int) (1:Int)).bind fun(x0,x1,x2,x3)=>Zv6 x0 x1 x2 x3
 )
def Ztt (year:Int) (month:Int) (day:Int):Option (Int×Bool):=
 bif (decide (year < 1))then (
  Zo7 year month day true
 )else (
  bif (decide (year > 9999))then (
   Zo7 year month day true
  )else (
   bif (decide (month < 1))then (
    Zo7 year month day true
   )else (
    bif (decide (month > 12))then (
     Zo7 year month day true
    )else (
     bif (decide (day < 1))then (
      Zo7 year month day true
     )else (
      (Zsb year month).bind fun q=>
      Zo7 year month day (decide (day > q))
     )
    )
   )
  )
 )
def Zty (year:Int) (month:Int) (day:Int):Option (Int×Int×Int×Bool):=
 (Ztt year month day).bind fun(q,ok)=>
 some (year,month,day,ok)
def Ztz (s:Str) (t35:Bool):Option (Int×Int×Int×Bool):=
 bif t35 then (
  chk (Zb9 6 (s.length:Int) (s.length:Int)) <|
  (Zpg (s.drop ((6:Int)).toNat)).bind fun year=>
  chk (Zb9 3 5 (s.length:Int)) <|
  (Zpg ((s.take ((5:Int)).toNat).drop ((3:Int)).toNat)).bind fun month=>
  chk (Zb9 0 2 (s.length:Int)) <|
  (Zpg (s.take ((2:Int)).toNat)).bind fun day=>
  Zty year month day
 )else (
  some (0,0,0,false)
 )
def ZrN (s:Str) (t9:Bool):Option (Int×Int×Int×Bool):=
 bif t9 then (
  chk (Zb9 0 4 (s.length:Int)) <|
  (Zpg (s.take ((4:Int)).toNat)).bind fun year=>
  chk (Zb9 5 7 (s.length:Int)) <|
  (Zpg ((s.take ((7:Int)).toNat).drop ((5:Int)).toNat)).bind fun month=>
  chk (Zb9 8 (s.length:Int) (s.length:Int)) <|
  (Zpg (s.drop ((8:Int)).toNat)).bind fun day=>
  Zty year month day
 )else (
  (idx s 2).bind fun c=>
  bif (((c.toNat:Nat):Int) == 46)then (
   (idx s 5).bind fun c_1=>
   Ztz s (((c_1.toNat:Nat):Int) == 46)
  )else (
   Ztz s false
  )
 )
def ZtA (s:Str) (t9:Bool):Option (Int×Int×Int×Bool):=
 bif t9 then (
  ZrN s t9
 )else (
  (idx s 4).bind fun c=>
  bif (((c.toNat:Nat):Int) == 47)then (
   (idx s 7).bind fun c_1=>
   ZrN s (((c_1.toNat:Nat):Int) == 47)
  )else (
   ZrN s false
  )
 )
def ZsR (s:Str):Option (Int×Int×Int×Bool):=
 bif ((s.length:Int) != 10)then (
  some (0,0,0,false)
 )else (
  (idx s 4).bind fun c=>
  bif (((c.toNat:Nat):Int) == 45)then (
   (idx s 7).bind fun c_1=>
   ZtA s (((c_1.toNat:Nat):Int) == 45)
  )else (
   ZtA s false
  )
 )
def Zu4 (s:Str):Option Str:=
 some s
def ZwM (rec_:Int→Int→Str→Option Str) (n:Int) (width:Int) (s:Str):Option Str:=
 bif (decide (width > 0))then (
  chk (decide ((10:Int)≠0)) <|
  chk (decide ((([(IntKind.wrap .u8 (48+(IntKind.wrap .u8 (Int.tmod n 10))))]:(List Int)).map fun n=>UInt8.ofNat (Int.toNat n)).length+s.length≤Zq)) <|
  chk (decide ((10:Int)≠0)) <|
  chk (inK .i64 (Int.tdiv n 10)) <|
  chk (inK .i64 (width - 1)) <|
  rec_ (Int.tdiv n 10) (width - 1) ((([(IntKind.wrap .u8 (48+(IntKind.wrap .u8 (Int.tmod n 10))))]:(List Int)).map fun n=>UInt8.ofNat (Int.toNat n))++s)
 )else (
  some s
 )
def ZsJ:Nat→Int→Int→Str→Option Str
 |0,_,_,_=>none
 |n_+1,n,width,s=>ZwM (ZsJ n_) n width s
def Zqu (n:Int) (width:Int):Option Str:=
 (ZsJ big n width ([]:Str)).bind fun x0=>Zu4 x0
def Zpk:Option (Str×Bool):=
 some (([]:Str),false)
def Zqc (neg:Bool) (digits:Str) (places:Str) (t49:Bool):Option (Str×Bool):=
 bif t49 then (
  (ZtY neg digits places).bind fun q=>
  some (q,true)
 )else (
  Zpk
 )
def Zr0 (kind:Int) (t:Str) (t17:Int) (t31:Bool):Option (Str×Bool):=
 bif t31 then (
  (Zst t).bind fun(neg,digits,places,ok)=>
  bif ok then (
   bif (kind == 4)then (
    Zqc neg digits places true
   )else (
    Zqc neg digits places (places == ([]:Str))
   )
  )else (
   Zqc neg digits places false
  )
 )else (
  bif (t17 == 5)then (
   (ZsR t).bind fun(y,m,d,ok_1)=>
   bif ok_1 then (
    (Zqu y 4).bind fun q=>
    chk (decide (q.length+([45]:Str).length≤Zq)) <|
    (Zqu m 2).bind fun q_1=>
    chk (decide ((q++([45]:Str)).length+q_1.length≤Zq)) <|
    chk (decide (((q++([45]:Str))++q_1).length+([45]:Str).length≤Zq)) <|
    (Zqu d 2).bind fun q_2=>
    chk (decide ((((q++([45]:Str))++q_1)++([45]:Str)).length+q_2.length≤Zq)) <|
    some (((((q++([45]:Str))++q_1)++([45]:Str))++q_2),true)
   )else (
    Zpk
   )
  )else (
   Zpk
  )
 )
def Zr1 (t28:Bool):Option (Str×Bool):=
 bif t28 then (
  some (([102,97,108,115,101]:Str),true)
 )else (
  Zpk
 )
def Zr2 (t24:Str) (t25:Bool):Option (Str×Bool):=
 bif t25 then (
  some (([116,114,117,101]:Str),true)
 )else (
  bif (t24 == ([102,97,108,115,101]:Str))then (
   Zr1 (t24 == ([102,97,108,115,101]:Str))
  )else (
   Zr1 (t24 == ([110,111]:Str))
  )
 )
def ZsS (kind:Int) (s:Str):Option (Str×Bool):=
 (ZuI s).bind fun t=>
 bif (kind == 1)then (
  some (s,true)
 )else (
  bif (kind == 2)then (
   (ZuJ t).bind fun q=>
   bif (q == ([116,114,117,101]:Str))then (
    Zr2 q (q == ([116,114,117,101]:Str))
   )else (
    Zr2 q (q == ([121,101,115]:Str))
   )
  )else (
   bif (kind == 3)then (
    Zr0 kind t kind (kind == 3)
   )else (
    Zr0 kind t kind (kind == 4)
   )
  )
 )
def Zt2 (out:(List Int)):Option (List Int):=
 (Zoi out).bind fun q=>
 some q
def Zt3 (rec_:(List Int)→(List Int)→Int→(List Int)→Option (List Int)) (a:(List Int)) (b:(List Int)) (i:Int) (c:Int) (out:(List Int)):Option (List Int):=
 chk (inK .i64 (i+(b.length:Int))) <|
 chk (inR (i+(b.length:Int)) (out.length:Int)) <|
 chk (inK .i64 (i+1)) <|
 rec_ a b (i+1) (out.set (((i+(b.length:Int))).toNat) (IntKind.wrap .u32 c))
def Zri (rec_:(List Int)→(List Int)→Int→Int→Int→(List Int)→Option ((List Int)×(List Int)×Int×Int×(List Int))) (a:(List Int)) (b:(List Int)) (i:Int) (c:Int) (j:Int) (out:(List Int)):Option ((List Int)×(List Int)×Int×Int×(List Int)):=
 bif (decide (j < (b.length:Int)))then (
  (idx a i).bind fun a_e=>
  (idx b j).bind fun b_e=>
  chk (inK .i64 (i+j)) <|
  chk (inR (i+j) (out.length:Int)) <|
  (out[((i+j)).toNat]?).bind fun out_e=>
  chk (inK .i64 (i+j)) <|
  chk (inR (i+j) (out.length:Int)) <|
  chk (decide (0≤(32:Int))) <|
  chk (inK .i64 (j+1)) <|
  rec_ a b i (shrK .u64 (IntKind.wrap .u64 (c+(IntKind.wrap .u64 ((IntKind.wrap .u64 ((IntKind.wrap .u64 a_e)*(IntKind.wrap .u64 b_e)))+(IntKind.wrap .u64 out_e))))) 32) (j+1) (out.set (((i+j)).toNat) (IntKind.wrap .u32 (IntKind.wrap .u64 (c+(IntKind.wrap .u64 ((IntKind.wrap .u64 ((IntKind.wrap .u64 a_e)*(IntKind.wrap .u64 b_e)))+(IntKind.wrap .u64 out_e)))))))
 )else (
  some (a,b,i,c,out)
 )
def Zsd:Nat→(List Int)→(List Int)→Int→Int→Int→(List Int)→Option ((List Int)×(List Int)×Int×Int×(List Int))
 |0,_,_,_,_,_,_=>none
 |n_+1,a,b,i,c,j,out=>Zri (Zsd n_) a b i c j out
def Zvi (n:Nat) (s:((List Int)×(List Int)×Int×Int×Int×(List Int))):Option ((List Int)×(List Int)×Int×Int×(List Int)):=Zsd n s.1 s.2.1 s.2.2.1 s.2.2.2.1 s.2.2.2.2.1 s.2.2.2.2.2
def Zs6 (rec_:((List Int)×(List Int)×Int×Int×Int×(List Int))→Option ((List Int)×(List Int)×Int×Int×(List Int))) (s:((List Int)×(List Int)×Int×Int×Int×(List Int))):Option ((List Int)×(List Int)×Int×Int×(List Int)):=Zri (fun a b i c j out=>rec_ (a,b,i,c,j,out)) s.1 s.2.1 s.2.2.1 s.2.2.2.1 s.2.2.2.2.1 s.2.2.2.2.2
theorem Zxm:∀n s,Zvi (n+1) s=Zs6 (Zvi n) s:=fun _ _=>rfl
def Zrj (rec_:(List Int)→(List Int)→Int→(List Int)→Option (List Int)) (a:(List Int)) (b:(List Int)) (i:Int) (out:(List Int)):Option (List Int):=
 bif (decide (i < (a.length:Int)))then (
  (Zsd big a b i (0:Int) (0:Int) out).bind fun(x0,x1,x2,x3,x4)=>Zt3 rec_ x0 x1 x2 x3 x4
 )else (
  some out
 )
def Zqy:Nat→(List Int)→(List Int)→Int→(List Int)→Option (List Int)
 |0,_,_,_,_=>none
 |n_+1,a,b,i,out=>Zrj (Zqy n_) a b i out
def Zvj (n:Nat) (s:((List Int)×(List Int)×Int×(List Int))):Option (List Int):=Zqy n s.1 s.2.1 s.2.2.1 s.2.2.2
def Zs7 (rec_:((List Int)×(List Int)×Int×(List Int))→Option (List Int)) (s:((List Int)×(List Int)×Int×(List Int))):Option (List Int):=Zrj (fun a b i out=>rec_ (a,b,i,out)) s.1 s.2.1 s.2.2.1 s.2.2.2
theorem Zxn:∀n s,Zvj (n+1) s=Zs7 (Zvj n) s:=fun _ _=>rfl
def ZrV (a:(List Int)) (b:(List Int)):Option (List Int):=
 chk (inK .i64 ((a.length:Int)+(b.length:Int))) <|
 chk (mkOk ((a.length:Int)+(b.length:Int)) ((a.length:Int)+(b.length:Int)) 4) <|
 (Zqy big a b (0:Int) (List.replicate (((a.length:Int)+(b.length:Int))).toNat (0:Int))).bind fun x0=>Zt2 x0
def Zn4 (a:ZnF) (b:ZnF):Option ZnF:=
 (ZrV a.Words b.Words).bind fun q=>
 (Zn6 (!(a.Neg == b.Neg)) q).bind fun q_1=>
 some q_1
def Zub (c:Int) (out:(List Int)):Option (List Int):=
 chk (ZiZ (out.length+([(IntKind.wrap .u32 c)]:(List Int)).length) 4) <|
 some (out++([(IntKind.wrap .u32 c)]:(List Int)))
def ZqB (rec_:(List Int)→(List Int)→Int→Int→(List Int)→Option (Int×(List Int))) (a:(List Int)) (b:(List Int)) (c:Int) (i:Int) (out:(List Int)):Option (Int×(List Int)):=
 chk (ZiZ (out.length+([(IntKind.wrap .u32 c)]:(List Int)).length) 4) <|
 chk (decide (0≤(32:Int))) <|
 chk (inK .i64 (i+1)) <|
 rec_ a b (shrK .u64 c 32) (i+1) (out++([(IntKind.wrap .u32 c)]:(List Int)))
def ZqC (rec_:(List Int)→(List Int)→Int→Int→(List Int)→Option (Int×(List Int))) (a:(List Int)) (b:(List Int)) (c:Int) (i:Int) (out:(List Int)):Option (Int×(List Int)):=
 bif (decide (i < (b.length:Int)))then (
  (idx b i).bind fun b_e=>
  ZqB rec_ a b (IntKind.wrap .u64 (c+(IntKind.wrap .u64 b_e))) i out
 )else (
  ZqB rec_ a b c i out
 )
def ZpO (rec_:(List Int)→(List Int)→Int→Int→(List Int)→Option (Int×(List Int))) (a:(List Int)) (b:(List Int)) (c:Int) (i:Int) (t17:Bool) (out:(List Int)):Option (Int×(List Int)):=
 bif t17 then (
  bif (decide (i < (a.length:Int)))then (
   (idx a i).bind fun a_e=>
   ZqC rec_ a b (IntKind.wrap .u64 (c+(IntKind.wrap .u64 a_e))) i out
  )else (
   ZqC rec_ a b c i out
  )
 )else (
  some (c,out)
 )
def Zrm (rec_:(List Int)→(List Int)→Int→Int→(List Int)→Option (Int×(List Int))) (a:(List Int)) (b:(List Int)) (c:Int) (i:Int) (out:(List Int)):Option (Int×(List Int)):=
 bif (decide (i < (a.length:Int)))then (
  ZpO rec_ a b c i true out
 )else (
  ZpO rec_ a b c i (decide (i < (b.length:Int))) out
 )
def Zo9:Nat→(List Int)→(List Int)→Int→Int→(List Int)→Option (Int×(List Int))
 |0,_,_,_,_,_=>none
 |n_+1,a,b,c,i,out=>Zrm (Zo9 n_) a b c i out
def Zvm (n:Nat) (s:((List Int)×(List Int)×Int×Int×(List Int))):Option (Int×(List Int)):=Zo9 n s.1 s.2.1 s.2.2.1 s.2.2.2.1 s.2.2.2.2
def Ztc (rec_:((List Int)×(List Int)×Int×Int×(List Int))→Option (Int×(List Int))) (s:((List Int)×(List Int)×Int×Int×(List Int))):Option (Int×(List Int)):=Zrm (fun a b c i out=>rec_ (a,b,c,i,out)) s.1 s.2.1 s.2.2.1 s.2.2.2.1 s.2.2.2.2
theorem Zxq:∀n s,Zvm (n+1) s=Ztc (Zvm n) s:=fun _ _=>rfl
def Zqs (a:(List Int)) (b:(List Int)):Option (List Int):=
 (Zo9 big a b (0:Int) (0:Int) ([]:(List Int))).bind fun(x0,x1)=>Zub x0 x1
def ZpC (a:ZnF) (b:ZnF):Option ZnF:=
 bif (a.Neg == b.Neg)then (
  (Zqs a.Words b.Words).bind fun q=>
  (Zn6 a.Neg q).bind fun q_1=>
  some q_1
 )else (
  (ZoB a.Words b.Words).bind fun q_2=>
  bif (decide (q_2≥0))then (
   (Zph a.Words b.Words).bind fun q_3=>
   (Zn6 a.Neg q_3).bind fun q_4=>
   some q_4
  )else (
   (Zph b.Words a.Words).bind fun q_5=>
   (Zn6 b.Neg q_5).bind fun q_6=>
   some q_6
  )
 )
def Zuy (a:ZnF):Option ZnF:=
 (Zn6 (!a.Neg) a.Words).bind fun q=>
 some q
def ZsA (t2:Bool) (t2_1:Bool) (n:ZnF) (d:ZnF) (t2_2:(List Int)) (t2_3:(List Int)):Option (ZnB×Bool):=
 (Zo8 n d).bind fun q=>
 some (q,true)
def ZuS (neg:Bool) (t2:Bool) (t2_1:Bool) (n:ZnF) (d:ZnF) (t2_2:(List Int)) (t2_3:(List Int)):Option (ZnB×Bool):=
 bif neg then (
  (Zuy n).bind fun n_1=>
  ZsA t2 t2_1 n_1 d t2_2 t2_3
 )else (
  ZsA t2 t2_1 n d t2_2 t2_3
 )
def ZsB (rec_:Bool→Bool→Bool→ZnF→ZnF→Str→Nat→(List Int)→(List Int)→Option (Bool×Bool×Bool×ZnF×ZnF×(List Int)×(List Int))) (neg:Bool) (t45:Bool) (t2:Bool) (t2_1:Bool) (n:ZnF) (d:ZnF) (t43:Str) (t43_pos:Nat) (t2_2:(List Int)) (t2_3:(List Int)):Option (Bool×Bool×Bool×ZnF×ZnF×(List Int)×(List Int)):=
 bif t45 then (
  (Zn3 10).bind fun q=>
  (Zn4 d q).bind fun d_1=>
  rec_ neg t2 t2_1 n d_1 t43 t43_pos t2_2 t2_3
 )else (
  some (neg,t2,t2_1,n,d,t2_2,t2_3)
 )
def ZwD (rec_:Bool→Bool→Bool→ZnF→ZnF→Str→Nat→(List Int)→(List Int)→Option (Bool×Bool×Bool×ZnF×ZnF×(List Int)×(List Int))) (neg:Bool) (t2:Bool) (t2_1:Bool) (n:ZnF) (d:ZnF) (t43:Str) (t43_pos:Nat) (t2_2:(List Int)) (t2_3:(List Int)):Option (Bool×Bool×Bool×ZnF×ZnF×(List Int)×(List Int)):=
 bif (decide (t43_pos < t43.length))then (
  ZsB rec_ neg true t2 t2_1 n d t43 (t43_pos+(Utf8.decode ⟨List.toArray t43⟩ t43_pos).2) t2_2 t2_3
 )else (
  ZsB rec_ neg false t2 t2_1 n d t43 t43_pos t2_2 t2_3
 )
def ZqI:Nat→Bool→Bool→Bool→ZnF→ZnF→Str→Nat→(List Int)→(List Int)→Option (Bool×Bool×Bool×ZnF×ZnF×(List Int)×(List Int))
 |0,_,_,_,_,_,_,_,_,_=>none
 |n_+1,neg,t2,t2_1,n,d,t43,t43_pos,t2_2,t2_3=>ZwD (ZqI n_) neg t2 t2_1 n d t43 t43_pos t2_2 t2_3
def ZuT (neg:Bool) (places:Str) (t2:Bool) (t2_1:Bool) (n:ZnF) (d:ZnF) (t2_2:(List Int)) (t2_3:(List Int)):Option (ZnB×Bool):=
 (ZqI big neg t2 t2_1 n d places 0 t2_2 t2_3).bind fun(x0,x1,x2,x3,x4,x5,x6)=>ZuS x0 x1 x2 x3 x4 x5 x6
def ZwE (rec_:Bool→Str→Int→Int→Bool→Bool→ZnF→ZnF→(List Int)→(List Int)→(List Int)→Option (Bool×Str×Bool×Bool×ZnF×ZnF×(List Int)×(List Int))) (neg:Bool) (places:Str) (t28:Int) (t29:Int) (t2:Bool) (t2_1:Bool) (n:ZnF) (d:ZnF) (t27:(List Int)) (t2_2:(List Int)) (t2_3:(List Int)):Option (Bool×Str×Bool×Bool×ZnF×ZnF×(List Int)×(List Int)):=
 bif (decide (t29 < t28))then (
  chk (inR t29 (t27.length:Int)) <|
  (t27[(t29).toNat]?).bind fun c=>
  (Zn3 10).bind fun q=>
  (Zn4 n q).bind fun q_1=>
  (Zn3 (IntKind.wrap .i64 (IntKind.wrap .u8 (c - 48)))).bind fun q_2=>
  (ZpC q_1 q_2).bind fun n_1=>
  chk (inK .i64 (t29+1)) <|
  rec_ neg places t28 (t29+1) t2 t2_1 n_1 d t27 t2_2 t2_3
 )else (
  some (neg,places,t2,t2_1,n,d,t2_2,t2_3)
 )
def Zsz:Nat→Bool→Str→Int→Int→Bool→Bool→ZnF→ZnF→(List Int)→(List Int)→(List Int)→Option (Bool×Str×Bool×Bool×ZnF×ZnF×(List Int)×(List Int))
 |0,_,_,_,_,_,_,_,_,_,_,_=>none
 |n_+1,neg,places,t28,t29,t2,t2_1,n,d,t27,t2_2,t2_3=>ZwE (Zsz n_) neg places t28 t29 t2 t2_1 n d t27 t2_2 t2_3
def ZtH (s:Str):Option (ZnB×Bool):=
 (Zst s).bind fun(neg,digits,places,ok)=>
 bif (!ok)then (
  some ((ZnB.mk (ZnF.mk false ([]:(List Int))) (ZnF.mk false ([]:(List Int)))),false)
 )else (
  (Zn3 1).bind fun d=>
  chk (decide (digits.length+places.length≤Zq)) <|
  chk (decide ((digits++places).length≤281474976710656)) <|
  (Zsz big neg places (((digits++places).map fun b=>((b.toNat:Nat):Int)).length:Int) (0:Int) false false (ZnF.mk false ([]:(List Int))) d ((digits++places).map fun b=>((b.toNat:Nat):Int)) ([]:(List Int)) ([]:(List Int))).bind fun(x0,x1,x2,x3,x4,x5,x6,x7)=>ZuT x0 x1 x2 x3 x4 x5 x6 x7
 )
def Zrf (n:Int) (t4:Bool) (t4_1:Bool) (t4_2:(List Int)) (t4_3:(List Int)):Option (ZnB×Bool):=
 (Zq2 n 1).bind fun(f,q)=>
 some (f,true)
def Zs3 (kind:Int) (t:Str) (t26:Bool) (t4:Bool) (t4_1:Bool) (t4_2:(List Int)) (t4_3:(List Int)):Option (ZnB×Bool):=
 bif t26 then (
  some ((ZnB.mk (ZnF.mk false ([]:(List Int))) (ZnF.mk false ([]:(List Int)))),false)
 )else (
  bif (kind == 2)then (
   bif (t == ([116,114,117,101]:Str))then (
    Zrf (1:Int) t4 t4_1 t4_2 t4_3
   )else (
    Zrf (0:Int) t4 t4_1 t4_2 t4_3
   )
  )else (
   bif (kind == 5)then (
    (ZsR t).bind fun(y,m,d,q)=>
    (Ztt y m d).bind fun(n,q_1)=>
    Zrf n t4 t4_1 t4_2 t4_3
   )else (
    (ZtH t).bind fun(q_2,q_3)=>
    some (q_2,q_3)
   )
  )
 )
def Zux (kind:Int) (s:Str):Option (ZnB×Bool):=
 (ZsS kind s).bind fun(t,ok)=>
 bif (!ok)then (
  Zs3 kind t true false false ([]:(List Int)) ([]:(List Int))
 )else (
  Zs3 kind t (kind == 1) false false ([]:(List Int)) ([]:(List Int))
 )
def Zos (c:ZnC):Option (ZnB×Bool):=
 bif c.Null then (
  some ((ZnB.mk (ZnF.mk false ([]:(List Int))) (ZnF.mk false ([]:(List Int)))),false)
 )else (
  (Zux 4 c.Text).bind fun(q,q_1)=>
  some (q,q_1)
 )
def Zrd:Option ZnB:=
 (Zqp 0).bind fun q=>
 some q
def Zpl (t24:Bool) (f:ZnB):Option Bool:=
 bif t24 then (
  some false
 )else (
  bif ((f.Num.Words.length:Int) == 0)then (
   (ZoB f.Den.Words ([1]:(List Int))).bind fun q=>
   some (q == 0)
  )else (
   (Zqq f.Num.Words f.Den.Words).bind fun q_1=>
   (ZoB q_1 ([1]:(List Int))).bind fun q_2=>
   some (q_2 == 0)
  )
 )
def Zoe (f:ZnB):Option Bool:=
 (ZoR f.Num).bind fun q=>
 bif (!q)then (
  Zpl true f
 )else (
  (ZoR f.Den).bind fun q_1=>
  bif (!q_1)then (
   Zpl true f
  )else (
   bif f.Den.Neg then (
    Zpl true f
   )else (
    Zpl ((f.Den.Words.length:Int) == 0) f
   )
  )
 )
def Zq8 (t21:Bool) (t4:Bool) (t4_1:Bool) (f:ZnB) (t4_2:(List Int)) (t4_3:(List Int)):Option (ZnB×Int):=
 bif t21 then (
  some ((ZnB.mk (ZnF.mk false ([]:(List Int))) (ZnF.mk false ([]:(List Int)))),3)
 )else (
  some (f,0)
 )
def Zqx (num:ZnF) (den:ZnF):Option (ZnB×Int):=
 (Zo8 num den).bind fun f=>
 bif (decide ((f.Num.Words.length:Int) > 256))then (
  Zq8 true false false f ([]:(List Int)) ([]:(List Int))
 )else (
  Zq8 (decide ((f.Den.Words.length:Int) > 256)) false false f ([]:(List Int)) ([]:(List Int))
 )
def Zsi (t13:Bool) (a:ZnB) (b:ZnB) (t4:Bool) (t4_1:Bool) (t4_2:(List Int)) (t4_3:(List Int)):Option (ZnB×Int):=
 bif t13 then (
  some ((ZnB.mk (ZnF.mk false ([]:(List Int))) (ZnF.mk false ([]:(List Int)))),1)
 )else (
  (Zn4 a.Num b.Den).bind fun q=>
  (Zn4 b.Num a.Den).bind fun q_1=>
  (ZpC q q_1).bind fun q_2=>
  (Zn4 a.Den b.Den).bind fun q_3=>
  (Zqx q_2 q_3).bind fun(q_4,q_5)=>
  some (q_4,q_5)
 )
def ZrX (a:ZnB) (b:ZnB):Option (ZnB×Int):=
 (Zoe a).bind fun q=>
 bif (!q)then (
  Zsi true a b false false ([]:(List Int)) ([]:(List Int))
 )else (
  (Zoe b).bind fun q_1=>
  Zsi (!q_1) a b false false ([]:(List Int)) ([]:(List Int))
 )
def ZrU (a:ZnB) (b:ZnB):Option ZnB:=
 (ZrX a b).bind fun(f,q)=>
 some f
def Zrb:Option Bool:=
 (ZpZ).bind fun q=>
 some q
def ZoW (rec_:(List ZnC)→Int→Int→ZnD→ZnD→ZnI→Option (Out Unit Bool)) (t55:(List ZnC)) (t56:Int) (i:Int) (key:ZnD) (value:ZnD) (s:ZnI):Option (Out Unit Bool):=
 chk (inK .i64 (i+1)) <|
 rec_ t55 t56 (i+1) key value s
def ZnQ (rec_:(List ZnC)→Int→Int→ZnD→ZnD→ZnI→Option (Out Unit Bool)) (t55:(List ZnC)) (t56:Int) (i:Int) (t174:Bool) (key:ZnD) (value:ZnD) (s:ZnI):Option (Out Unit Bool):=
 bif t174 then (
  some (.ret false)
 )else (
  ZoW rec_ t55 t56 i key value s
 )
def Zrt (rec_:(List ZnC)→Int→Int→ZnD→ZnD→ZnI→Option (Out Unit Bool)) (in_:Bool) (t55:(List ZnC)) (t56:Int) (i:Int) (key:ZnD) (value:ZnD) (s:ZnI) (c:ZnC) (f:ZnB):Option (Out Unit Bool):=
 bif (!in_)then (
  bif s.All then (
   ZnQ rec_ t55 t56 i true key value s
  )else (
   bif ((s.Entries.length:Int) == 0)then (
    ZnQ rec_ t55 t56 i true key value s
   )else (
    bif (!in_)then (
     chk (inK .i64 ((s.Entries.length:Int) - 1)) <|
     (idx s.Entries ((s.Entries.length:Int) - 1)).bind fun Entrie=>
     (ZsV c.Text).bind fun q=>
     bif (decide (Entrie.Hash > q))then (
      ZnQ rec_ t55 t56 i true key value s
     )else (
      (Zoe f).bind fun q_1=>
      ZnQ rec_ t55 t56 i (!q_1) key value s
     )
    )else (
     (Zoe f).bind fun q_2=>
     ZnQ rec_ t55 t56 i (!q_2) key value s
    )
   )
  )
 )else (
  bif (!in_)then (
   chk (inK .i64 ((s.Entries.length:Int) - 1)) <|
   (idx s.Entries ((s.Entries.length:Int) - 1)).bind fun Entrie_1=>
   (ZsV c.Text).bind fun q_3=>
   bif (decide (Entrie_1.Hash > q_3))then (
    ZnQ rec_ t55 t56 i true key value s
   )else (
    (Zoe f).bind fun q_4=>
    ZnQ rec_ t55 t56 i (!q_4) key value s
   )
  )else (
   (Zoe f).bind fun q_5=>
   ZnQ rec_ t55 t56 i (!q_5) key value s
  )
 )
def ZpS (rec_:Int→Bool→(List ZnC)→Int→Int→(List ZnA)→Int→Int→ZnD→ZnD→ZnI→ZnC→ZnB→ZnB→Option (Out (Bool×(List ZnC)×Int×Int×ZnD×ZnD×ZnI×ZnC×ZnB) Bool)) (count:Int) (in_:Bool) (t55:(List ZnC)) (t56:Int) (i:Int) (t115:(List ZnA)) (t116:Int) (t117:Int) (key:ZnD) (value:ZnD) (s:ZnI) (c:ZnC) (f:ZnB) (sum:ZnB):Option (Out (Bool×(List ZnC)×Int×Int×ZnD×ZnD×ZnI×ZnC×ZnB) Bool):=
 chk (inK .i64 (t117+1)) <|
 rec_ count in_ t55 t56 i t115 t116 (t117+1) key value s c f sum
def ZpT (rec_:Int→Bool→(List ZnC)→Int→Int→(List ZnA)→Int→Int→ZnD→ZnD→ZnI→ZnC→ZnB→ZnB→Option (Out (Bool×(List ZnC)×Int×Int×ZnD×ZnD×ZnI×ZnC×ZnB) Bool)) (count:Int) (in_:Bool) (t55:(List ZnC)) (t56:Int) (i:Int) (t115:(List ZnA)) (t116:Int) (t117:Int) (key:ZnD) (value:ZnD) (s:ZnI) (c:ZnC) (f:ZnB) (sum:ZnB):Option (Out (Bool×(List ZnC)×Int×Int×ZnD×ZnD×ZnI×ZnC×ZnB) Bool):=
 bif (!in_)then (
  some (.ret false)
 )else (
  ZpS rec_ count in_ t55 t56 i t115 t116 t117 key value s c f sum
 )
def ZpD (rec_:Int→Bool→(List ZnC)→Int→Int→(List ZnA)→Int→Int→ZnD→ZnD→ZnI→ZnC→ZnB→ZnB→Option (Out (Bool×(List ZnC)×Int×Int×ZnD×ZnD×ZnI×ZnC×ZnB) Bool)) (count:Int) (in_:Bool) (t55:(List ZnC)) (t56:Int) (i:Int) (t115:(List ZnA)) (t116:Int) (t117:Int) (key:ZnD) (value:ZnD) (s:ZnI) (c:ZnC) (f:ZnB) (sum:ZnB):Option (Out (Bool×(List ZnC)×Int×Int×ZnD×ZnD×ZnI×ZnC×ZnB) Bool):=
 bif (decide (t117 < t116))then (
  (idx t115 t117).bind fun x_=>
  bif (x_.Key == c.Text)then (
   bif (x_.Count == count)then (
    (Zqb x_.Sum sum).bind fun q=>
    ZpT rec_ count q t55 t56 i t115 t116 t117 key value s c f sum
   )else (
    ZpT rec_ count false t55 t56 i t115 t116 t117 key value s c f sum
   )
  )else (
   ZpS rec_ count in_ t55 t56 i t115 t116 t117 key value s c f sum
  )
 )else (
  some (.brk (in_,t55,t56,i,key,value,s,c,f))
 )
def Zoj:Nat→Int→Bool→(List ZnC)→Int→Int→(List ZnA)→Int→Int→ZnD→ZnD→ZnI→ZnC→ZnB→ZnB→Option (Out (Bool×(List ZnC)×Int×Int×ZnD×ZnD×ZnI×ZnC×ZnB) Bool)
 |0,_,_,_,_,_,_,_,_,_,_,_,_,_,_=>none
 |n_+1,count,in_,t55,t56,i,t115,t116,t117,key,value,s,c,f,sum=>ZpD (Zoj n_) count in_ t55 t56 i t115 t116 t117 key value s c f sum
def Zth (n:Nat) (s:(Int×Bool×(List ZnC)×Int×Int×(List ZnA)×Int×Int×ZnD×ZnD×ZnI×ZnC×ZnB×ZnB)):Option (Out (Bool×(List ZnC)×Int×Int×ZnD×ZnD×ZnI×ZnC×ZnB) Bool):=Zoj n s.1 s.2.1 s.2.2.1 s.2.2.2.1 s.2.2.2.2.1 s.2.2.2.2.2.1 s.2.2.2.2.2.2.1 s.2.2.2.2.2.2.2.1 s.2.2.2.2.2.2.2.2.1 s.2.2.2.2.2.2.2.2.2.1 s.2.2.2.2.2.2.2.2.2.2.1 s.2.2.2.2.2.2.2.2.2.2.2.1 s.2.2.2.2.2.2.2.2.2.2.2.2.1 s.2.2.2.2.2.2.2.2.2.2.2.2.2
def ZqX (rec_:(Int×Bool×(List ZnC)×Int×Int×(List ZnA)×Int×Int×ZnD×ZnD×ZnI×ZnC×ZnB×ZnB)→Option (Out (Bool×(List ZnC)×Int×Int×ZnD×ZnD×ZnI×ZnC×ZnB) Bool)) (s:(Int×Bool×(List ZnC)×Int×Int×(List ZnA)×Int×Int×ZnD×ZnD×ZnI×ZnC×ZnB×ZnB)):Option (Out (Bool×(List ZnC)×Int×Int×ZnD×ZnD×ZnI×ZnC×ZnB) Bool):=ZpD (fun count in_ t55 t56 i t115 t116 t117 key value s c f sum=>rec_ (count,in_,t55,t56,i,t115,t116,t117,key,value,s,c,f,sum)) s.1 s.2.1 s.2.2.1 s.2.2.2.1 s.2.2.2.2.1 s.2.2.2.2.2.1 s.2.2.2.2.2.2.1 s.2.2.2.2.2.2.2.1 s.2.2.2.2.2.2.2.2.1 s.2.2.2.2.2.2.2.2.2.1 s.2.2.2.2.2.2.2.2.2.2.1 s.2.2.2.2.2.2.2.2.2.2.2.1 s.2.2.2.2.2.2.2.2.2.2.2.2.1 s.2.2.2.2.2.2.2.2.2.2.2.2.2
theorem Zv7:∀n s,Zth (n+1) s=ZqX (Zth n) s:=fun _ _=>rfl
def Zru (rec_:(List ZnC)→Int→Int→ZnD→ZnD→ZnI→Option (Out Unit Bool)) (count:Int) (in_:Bool) (t55:(List ZnC)) (t56:Int) (i:Int) (key:ZnD) (value:ZnD) (s:ZnI) (c:ZnC) (f:ZnB) (sum:ZnB):Option (Out Unit Bool):=
 (Zoj big count in_ t55 t56 i s.Entries (s.Entries.length:Int) (0:Int) key value s c f sum).bind fun
  | .ret q_=>some (.ret q_)
  | .brk (x0,x1,x2,x3,x4,x5,x6,x7,x8)=>Zrt rec_ x0 x1 x2 x3 x4 x5 x6 x7 x8
def ZpU (rec_:Int→Bool→(List ZnC)→Int→Int→(List ZnC)→Int→Int→ZnD→ZnD→ZnI→ZnC→ZnB→ZnB→Option (Int×Bool×(List ZnC)×Int×Int×ZnD×ZnD×ZnI×ZnC×ZnB×ZnB)) (count:Int) (in_:Bool) (t55:(List ZnC)) (t56:Int) (i:Int) (t79:(List ZnC)) (t80:Int) (x_:Int) (key:ZnD) (value:ZnD) (s:ZnI) (c:ZnC) (f:ZnB) (sum:ZnB):Option (Int×Bool×(List ZnC)×Int×Int×ZnD×ZnD×ZnI×ZnC×ZnB×ZnB):=
 chk (inK .i64 (x_+1)) <|
 rec_ count in_ t55 t56 i t79 t80 (x_+1) key value s c f sum
def Zo3 (rec_:Int→Bool→(List ZnC)→Int→Int→(List ZnC)→Int→Int→ZnD→ZnD→ZnI→ZnC→ZnB→ZnB→Option (Int×Bool×(List ZnC)×Int×Int×ZnD×ZnD×ZnI×ZnC×ZnB×ZnB)) (count:Int) (in_:Bool) (t55:(List ZnC)) (t56:Int) (i:Int) (t79:(List ZnC)) (t80:Int) (x_:Int) (t107:Bool) (key:ZnD) (value:ZnD) (s:ZnI) (c:ZnC) (f:ZnB) (sum:ZnB) (g:ZnB):Option (Int×Bool×(List ZnC)×Int×Int×ZnD×ZnD×ZnI×ZnC×ZnB×ZnB):=
 bif t107 then (
  chk (inK .i64 (count+1)) <|
  (ZrU sum g).bind fun sum_1=>
  ZpU rec_ (count+1) in_ t55 t56 i t79 t80 x_ key value s c f sum_1
 )else (
  ZpU rec_ count in_ t55 t56 i t79 t80 x_ key value s c f sum
 )
def ZpE (rec_:Int→Bool→(List ZnC)→Int→Int→(List ZnC)→Int→Int→ZnD→ZnD→ZnI→ZnC→ZnB→ZnB→Option (Int×Bool×(List ZnC)×Int×Int×ZnD×ZnD×ZnI×ZnC×ZnB×ZnB)) (count:Int) (in_:Bool) (t55:(List ZnC)) (t56:Int) (i:Int) (t79:(List ZnC)) (t80:Int) (x_:Int) (key:ZnD) (value:ZnD) (s:ZnI) (c:ZnC) (f:ZnB) (sum:ZnB):Option (Int×Bool×(List ZnC)×Int×Int×ZnD×ZnD×ZnI×ZnC×ZnB×ZnB):=
 bif (decide (x_ < t80))then (
  (idx t79 x_).bind fun y=>
  (idx value.Cells x_).bind fun Cell=>
  (Zos Cell).bind fun(g,is)=>
  bif is then (
   bif (!y.Null)then (
    Zo3 rec_ count in_ t55 t56 i t79 t80 x_ (y.Text == c.Text) key value s c f sum g
   )else (
    Zo3 rec_ count in_ t55 t56 i t79 t80 x_ false key value s c f sum g
   )
  )else (
   Zo3 rec_ count in_ t55 t56 i t79 t80 x_ false key value s c f sum g
  )
 )else (
  some (count,in_,t55,t56,i,key,value,s,c,f,sum)
 )
def Zok:Nat→Int→Bool→(List ZnC)→Int→Int→(List ZnC)→Int→Int→ZnD→ZnD→ZnI→ZnC→ZnB→ZnB→Option (Int×Bool×(List ZnC)×Int×Int×ZnD×ZnD×ZnI×ZnC×ZnB×ZnB)
 |0,_,_,_,_,_,_,_,_,_,_,_,_,_,_=>none
 |n_+1,count,in_,t55,t56,i,t79,t80,x_,key,value,s,c,f,sum=>ZpE (Zok n_) count in_ t55 t56 i t79 t80 x_ key value s c f sum
def Zti (n:Nat) (s:(Int×Bool×(List ZnC)×Int×Int×(List ZnC)×Int×Int×ZnD×ZnD×ZnI×ZnC×ZnB×ZnB)):Option (Int×Bool×(List ZnC)×Int×Int×ZnD×ZnD×ZnI×ZnC×ZnB×ZnB):=Zok n s.1 s.2.1 s.2.2.1 s.2.2.2.1 s.2.2.2.2.1 s.2.2.2.2.2.1 s.2.2.2.2.2.2.1 s.2.2.2.2.2.2.2.1 s.2.2.2.2.2.2.2.2.1 s.2.2.2.2.2.2.2.2.2.1 s.2.2.2.2.2.2.2.2.2.2.1 s.2.2.2.2.2.2.2.2.2.2.2.1 s.2.2.2.2.2.2.2.2.2.2.2.2.1 s.2.2.2.2.2.2.2.2.2.2.2.2.2
def ZqY (rec_:(Int×Bool×(List ZnC)×Int×Int×(List ZnC)×Int×Int×ZnD×ZnD×ZnI×ZnC×ZnB×ZnB)→Option (Int×Bool×(List ZnC)×Int×Int×ZnD×ZnD×ZnI×ZnC×ZnB×ZnB)) (s:(Int×Bool×(List ZnC)×Int×Int×(List ZnC)×Int×Int×ZnD×ZnD×ZnI×ZnC×ZnB×ZnB)):Option (Int×Bool×(List ZnC)×Int×Int×ZnD×ZnD×ZnI×ZnC×ZnB×ZnB):=ZpE (fun count in_ t55 t56 i t79 t80 x_ key value s c f sum=>rec_ (count,in_,t55,t56,i,t79,t80,x_,key,value,s,c,f,sum)) s.1 s.2.1 s.2.2.1 s.2.2.2.1 s.2.2.2.2.1 s.2.2.2.2.2.1 s.2.2.2.2.2.2.1 s.2.2.2.2.2.2.2.1 s.2.2.2.2.2.2.2.2.1 s.2.2.2.2.2.2.2.2.2.1 s.2.2.2.2.2.2.2.2.2.2.1 s.2.2.2.2.2.2.2.2.2.2.2.1 s.2.2.2.2.2.2.2.2.2.2.2.2.1 s.2.2.2.2.2.2.2.2.2.2.2.2.2
theorem Zv8:∀n s,Zti (n+1) s=ZqY (Zti n) s:=fun _ _=>rfl
def ZpV (rec_:(List ZnC)→Int→Int→ZnD→ZnD→ZnI→Option (Out Unit Bool)) (t55:(List ZnC)) (t56:Int) (i:Int) (t76:Bool) (key:ZnD) (value:ZnD) (s:ZnI) (c:ZnC) (f:ZnB):Option (Out Unit Bool):=
 bif t76 then (
  ZoW rec_ t55 t56 i key value s
 )else (
  (Zrd).bind fun sum=>
  (Zok big (0:Int) false t55 t56 i key.Cells (key.Cells.length:Int) (0:Int) key value s c f sum).bind fun(x0,x1,x2,x3,x4,x5,x6,x7,x8,x9,x10)=>Zru rec_ x0 x1 x2 x3 x4 x5 x6 x7 x8 x9 x10
 )
def ZpF (rec_:(List ZnC)→Int→Int→ZnD→ZnD→ZnI→Option (Out Unit Bool)) (t55:(List ZnC)) (t56:Int) (i:Int) (key:ZnD) (value:ZnD) (s:ZnI):Option (Out Unit Bool):=
 bif (decide (i < t56))then (
  (idx t55 i).bind fun c=>
  (idx value.Cells i).bind fun Cell=>
  (Zos Cell).bind fun(f,ok)=>
  bif c.Null then (
   ZpV rec_ t55 t56 i true key value s c f
  )else (
   ZpV rec_ t55 t56 i (!ok) key value s c f
  )
 )else (
  some (.brk ())
 )
def ZnP:Nat→(List ZnC)→Int→Int→ZnD→ZnD→ZnI→Option (Out Unit Bool)
 |0,_,_,_,_,_,_=>none
 |n_+1,t55,t56,i,key,value,s=>ZpF (ZnP n_) t55 t56 i key value s
def Ztj (n:Nat) (s:((List ZnC)×Int×Int×ZnD×ZnD×ZnI)):Option (Out Unit Bool):=ZnP n s.1 s.2.1 s.2.2.1 s.2.2.2.1 s.2.2.2.2.1 s.2.2.2.2.2
def ZqZ (rec_:((List ZnC)×Int×Int×ZnD×ZnD×ZnI)→Option (Out Unit Bool)) (s:((List ZnC)×Int×Int×ZnD×ZnD×ZnI)):Option (Out Unit Bool):=ZpF (fun t55 t56 i key value s=>rec_ (t55,t56,i,key,value,s)) s.1 s.2.1 s.2.2.1 s.2.2.2.1 s.2.2.2.2.1 s.2.2.2.2.2
theorem Zv9:∀n s,Ztj (n+1) s=ZqZ (Ztj n) s:=fun _ _=>rfl
def ZpW (t53:Bool) (key:ZnD) (value:ZnD) (s:ZnI):Option Bool:=
 bif t53 then (
  some false
 )else (
  (ZnP big key.Cells (key.Cells.length:Int) (0:Int) key value s).bind fun
   | .ret q_=>some q_
   | .brk ()=>Zrb
 )
def Zqm (t:(List Int)) (k:Int):Option Bool:=
 (Ztu t).bind fun q=>
 bif (!q)then (
  (ZpZ).bind fun q_1=>
  some q_1
 )else (
  (ZtP t).bind fun d=>
  (Zod d 14).bind fun(n,t30)=>
  (Zqd t30 n).bind fun(key,t32)=>
  (Zqd t32 n).bind fun(value,t35)=>
  (ZrG k 5).bind fun q_2=>
  chk (inK .i64 (1+q_2)) <|
  (ZvJ key value (1+q_2)).bind fun(s,e)=>
  bif (e != 0)then (
   ZpW true key value s
  )else (
   (Zsk s).bind fun q_3=>
   ZpW (!q_3) key value s
  )
 )
end
end Go.Proofs
