/- Printed by wip/tools/tgen.py: specs. -/
import Derived.Test.YthefajbigloihaaGreatDoorE4
import Derived.Lib.Bytealg
import Derived.Lib.ItoaNum
import Derived.Lib.SlTrimSet
import Derived.Shelf.Strconv.Itoa3
set_option linter.unusedVariables false
set_option linter.unusedSimpArgs false
set_option linter.unusedSectionVars false
namespace Go.Proofs
open Go Eng
set_option maxRecDepth 100000
noncomputable section
structure G_api_Cell where
 Null:Bool
 Text:Str
 deriving DecidableEq,Inhabited
structure G_api_Column where
 Name:Str
 Cells:(List G_api_Cell)
 deriving DecidableEq,Inhabited
structure ZnD where
 Neg:Bool
 Words:(List Int)
 deriving DecidableEq,Inhabited
structure ZnE where
 Num:ZnD
 Den:ZnD
 deriving DecidableEq,Inhabited
structure ZnA where
 Key:Str
 Hash:Int
 Count:Int
 Sum:ZnE
 deriving DecidableEq,Inhabited
structure ZnM where
 K:Int
 All:Bool
 Entries:(List ZnA)
 deriving DecidableEq,Inhabited
structure ZpW where
 word:Str
 canonical:(Option Nat)
 value:(Option Nat)
 deriving DecidableEq,Inhabited
structure ZnI where
 l:(List Int)
 at_:Int
 deriving DecidableEq,Inhabited
structure ZnH where
 e0:G_api_Column
 e1:G_api_Column
 deriving DecidableEq,Inhabited
def ZyW:Nat→Type
 |0=>G_api_Cell
 |1=>G_api_Column
 |2=>ZnD
 |3=>ZnE
 |4=>ZnA
 |5=>ZnM
 |6=>ZpW
 |7=>ZnI
 |8=>ZnH
 |_=>Unit
def ZKN:Nat→Nat
 |0=>2
 |1=>2
 |2=>2
 |3=>4
 |4=>7
 |5=>3
 |6=>3
 |7=>2
 |8=>4
 |_=>0
def ZBJ:List (Lf ZyW):=[⟨.sl (.int .u32),([1]:List Int)⟩]
def ZyF:List (Lf ZyW):=(Lib.pow10Tab.map fun n=>⟨.int .u64,n⟩)
def Zvn (t:(List Int)):Option Bool:=
 some (decide ((t.length:Int)≤500))
def ZxS (w_:(List Int)):Option (List Int):=
 some w_
def ZvM (rec_:(List Int)→Option (List Int)) (w_:(List Int)) (t14:Bool):Option (List Int):=
 bif t14 then (
  chk (inK .i64 ((w_.length:Int) - 1)) <|
  chk (Zb9 0 ((w_.length:Int) - 1) (w_.length:Int)) <|
  rec_ (w_.take (((w_.length:Int) - 1)).toNat)
 )else (
  some w_
 )
def ZuM (rec_:(List Int)→Option (List Int)) (w_:(List Int)):Option (List Int):=
 bif (decide ((w_.length:Int) > 0))then (
  chk (inK .i64 ((w_.length:Int) - 1)) <|
  (idx w_ ((w_.length:Int) - 1)).bind fun w__e=>
  ZvM rec_ w_ (w__e == 0)
 )else (
  ZvM rec_ w_ false
 )
def Zqm:Nat→(List Int)→Option (List Int)
 |0,_=>none
 |n_+1,w_=>ZuM (Zqm n_) w_
def ZyK (n:Nat) (s:(List Int)):Option (List Int):=Zqm n s
def ZyL (rec_:(List Int)→Option (List Int)) (s:(List Int)):Option (List Int):=ZuM (fun w_=>rec_ w_) s
theorem ZAu:∀n s,ZyK (n+1) s=ZyL (ZyK n) s:=fun _ _=>rfl
def ZoD (w_:(List Int)):Option (List Int):=
 (Zqm big w_).bind fun x0=>ZxS x0
def Zti (n:Int):Option (List Int):=
 chk (decide (0≤(32:Int))) <|
 (ZoD ([(IntKind.wrap .u32 n),(IntKind.wrap .u32 (shrK .u64 n 32))]:(List Int))).bind fun q=>
 some q
def Zwn (t4:Bool) (t4_1:(List Int)):Option ZnD:=
 some (ZnD.mk t4 t4_1)
def ZoW (neg:Bool) (w_:(List Int)):Option ZnD:=
 bif neg then (
  chk (ZiZ w_.length 4) <|
  Zwn (decide ((w_.length:Int) > 0)) w_
 )else (
  chk (ZiZ w_.length 4) <|
  Zwn false w_
 )
def Zui (n:Int):Option ZnD:=
 bif (decide (n < 0))then (
  (Zti (IntKind.wrap .u64 (0 - (IntKind.wrap .u64 n)))).bind fun q=>
  (ZoW true q).bind fun q_1=>
  some q_1
 )else (
  (Zti (IntKind.wrap .u64 n)).bind fun q_2=>
  (ZoW false q_2).bind fun q_3=>
  some q_3
 )
def ZpV (t2:Bool):Option Bool:=
 some t2
def ZtS (a:ZnD):Option Bool:=
 bif (decide ((a.Words.length:Int)≤256))then (
  bif ((a.Words.length:Int) == 0)then (
   bif (!a.Neg)then (
    ZpV true
   )else (
    bif (decide ((a.Words.length:Int) > 0))then (
     chk (inK .i64 ((a.Words.length:Int) - 1)) <|
     (idx a.Words ((a.Words.length:Int) - 1)).bind fun Word=>
     ZpV (Word != 0)
    )else (
     ZpV false
    )
   )
  )else (
   bif (decide ((a.Words.length:Int) > 0))then (
    chk (inK .i64 ((a.Words.length:Int) - 1)) <|
    (idx a.Words ((a.Words.length:Int) - 1)).bind fun Word_1=>
    ZpV (Word_1 != 0)
   )else (
    ZpV false
   )
  )
 )else (
  ZpV false
 )
def ZAi:Option Bool:=
 some true
def Zwo (rec_:(List ZnD)→Int→Int→Option (Out Unit Bool)) (t5:(List ZnD)) (t6:Int) (t7:Int):Option (Out Unit Bool):=
 bif (decide (t7 < t6))then (
  (idx t5 t7).bind fun a=>
  (ZtS a).bind fun q=>
  bif (!q)then (
   some (.ret false)
  )else (
   chk (inK .i64 (t7+1)) <|
   rec_ t5 t6 (t7+1)
  )
 )else (
  some (.brk ())
 )
def ZxB:Nat→(List ZnD)→Int→Int→Option (Out Unit Bool)
 |0,_,_,_=>none
 |n_+1,t5,t6,t7=>Zwo (ZxB n_) t5 t6 t7
def ZzC (n:Nat) (s:((List ZnD)×Int×Int)):Option (Out Unit Bool):=ZxB n s.1 s.2.1 s.2.2
def Zyi (rec_:((List ZnD)×Int×Int)→Option (Out Unit Bool)) (s:((List ZnD)×Int×Int)):Option (Out Unit Bool):=Zwo (fun t5 t6 t7=>rec_ (t5,t6,t7)) s.1 s.2.1 s.2.2
theorem ZAV:∀n s,ZzC (n+1) s=Zyi (ZzC n) s:=fun _ _=>rfl
def ZwE (l:(List ZnD)):Option Bool:=
 (ZxB big l (l.length:Int) (0:Int)).bind fun
  | .ret q_=>some q_
  | .brk ()=>ZAi
def ZxZ (x_:Int):Option Bool:=
 some (x_ != x_)
def ZwF (x_:Int) (y:Int):Option Int:=
 (ZxZ x_).bind fun xNaN=>
 (ZxZ y).bind fun yNaN=>
 bif xNaN then (
  bif yNaN then (
   some (0:Int)
  )else (
   some (-1:Int)
  )
 )else (
  bif yNaN then (
   some (1:Int)
  )else (
   bif (decide (x_ < y))then (
    some (-1:Int)
   )else (
    bif (decide (x_ > y))then (
     some (1:Int)
    )else (
     some (0:Int)
    )
   )
  )
 )
def ZxC (x_:Int):Option Bool:=
 some (x_ != x_)
def Zwq (x_:Int) (y:Int):Option Int:=
 (ZxC x_).bind fun xNaN=>
 (ZxC y).bind fun yNaN=>
 bif xNaN then (
  bif yNaN then (
   some (0:Int)
  )else (
   some (-1:Int)
  )
 )else (
  bif yNaN then (
   some (1:Int)
  )else (
   bif (decide (x_ < y))then (
    some (-1:Int)
   )else (
    bif (decide (x_ > y))then (
     some (1:Int)
    )else (
     some (0:Int)
    )
   )
  )
 )
def Zvj:Option Int:=
 some (0:Int)
def Zsa (rec_:(List Int)→(List Int)→Int→Option (Out Unit Int)) (w_:(List Int)) (v_:(List Int)) (i:Int):Option (Out Unit Int):=
 bif (decide (i≥0))then (
  (idx w_ i).bind fun w__e=>
  (idx v_ i).bind fun v__e=>
  (Zwq w__e v__e).bind fun c=>
  bif (c != 0)then (
   some (.ret c)
  )else (
   chk (inK .i64 (i - 1)) <|
   rec_ w_ v_ (i - 1)
  )
 )else (
  some (.brk ())
 )
def Ztf:Nat→(List Int)→(List Int)→Int→Option (Out Unit Int)
 |0,_,_,_=>none
 |n_+1,w_,v_,i=>Zsa (Ztf n_) w_ v_ i
def Zw9 (n:Nat) (s:((List Int)×(List Int)×Int)):Option (Out Unit Int):=Ztf n s.1 s.2.1 s.2.2
def Zus (rec_:((List Int)×(List Int)×Int)→Option (Out Unit Int)) (s:((List Int)×(List Int)×Int)):Option (Out Unit Int):=Zsa (fun w_ v_ i=>rec_ (w_,v_,i)) s.1 s.2.1 s.2.2
theorem Zzd:∀n s,Zw9 (n+1) s=Zus (Zw9 n) s:=fun _ _=>rfl
def Zpr (w_:(List Int)) (v_:(List Int)):Option Int:=
 (ZwF (w_.length:Int) (v_.length:Int)).bind fun c=>
 bif (c != 0)then (
  some c
 )else (
  chk (inK .i64 ((w_.length:Int) - 1)) <|
  (Ztf big w_ v_ ((w_.length:Int) - 1)).bind fun
   | .ret q_=>some q_
   | .brk ()=>Zvj
 )
def ZnN (s:(List Int)) (t4:Bool):Option (List Int):=
 bif t4 then (
  some ([]:(List Int))
 )else (
  chk (ZiZ (([]:(List Int)).length+s.length) 4) <|
  some (([]:(List Int))++s)
 )
def Zpi (s:(List Int)):Option (List Int):=
 bif (List.isEmpty s)then agree (
  ZnN s true
 ) (
  ZnN s false
 )else (
  ZnN s false
 )
def Zuv (hi:Int) (lo:Int) (y:Int) (t15:Bool):Option (Int×Int):=
 bif t15 then (
  none
 )else (
  chk (decide (0≤(32:Int))) <|
  chk (decide ((IntKind.wrap .u64 y)≠0)) <|
  chk (decide ((IntKind.wrap .u64 y)≠0)) <|
  some ((IntKind.wrap .u32 (IntKind.wrap .u64 (Int.tdiv (orK .u64 (shlK .u64 (IntKind.wrap .u64 hi) 32) (IntKind.wrap .u64 lo)) (IntKind.wrap .u64 y)))),(IntKind.wrap .u32 (Int.tmod (orK .u64 (shlK .u64 (IntKind.wrap .u64 hi) 32) (IntKind.wrap .u64 lo)) (IntKind.wrap .u64 y))))
 )
def ZwA (hi:Int) (lo:Int) (y:Int):Option (Int×Int):=
 bif (y != 0)then (
  Zuv hi lo y (decide (y≤hi))
 )else (
  Zuv hi lo y false
 )
def Zwf (rest:Int) (out:(List Int)):Option ((List Int)×Int):=
 (ZoD out).bind fun q=>
 some (q,rest)
def Ztc (rec_:(List Int)→Int→Int→Int→(List Int)→Option (Int×(List Int))) (w_:(List Int)) (d:Int) (rest:Int) (i:Int) (out:(List Int)):Option (Int×(List Int)):=
 bif (decide (i≥0))then (
  (idx w_ i).bind fun w__e=>
  (ZwA rest w__e d).bind fun(q,rest_1)=>
  chk (inR i (out.length:Int)) <|
  chk (inK .i64 (i - 1)) <|
  rec_ w_ d rest_1 (i - 1) (out.set ((i).toNat) q)
 )else (
  some (rest,out)
 )
def Zua:Nat→(List Int)→Int→Int→Int→(List Int)→Option (Int×(List Int))
 |0,_,_,_,_,_=>none
 |n_+1,w_,d,rest,i,out=>Ztc (Zua n_) w_ d rest i out
def ZxP (n:Nat) (s:((List Int)×Int×Int×Int×(List Int))):Option (Int×(List Int)):=Zua n s.1 s.2.1 s.2.2.1 s.2.2.2.1 s.2.2.2.2
def Zvg (rec_:((List Int)×Int×Int×Int×(List Int))→Option (Int×(List Int))) (s:((List Int)×Int×Int×Int×(List Int))):Option (Int×(List Int)):=Ztc (fun w_ d rest i out=>rec_ (w_,d,rest,i,out)) s.1 s.2.1 s.2.2.1 s.2.2.2.1 s.2.2.2.2
theorem ZzR:∀n s,ZxP (n+1) s=Zvg (ZxP n) s:=fun _ _=>rfl
def ZtH (w_:(List Int)) (d:Int):Option ((List Int)×Int):=
 chk (mkOk (w_.length:Int) (w_.length:Int) 4) <|
 chk (inK .i64 ((w_.length:Int) - 1)) <|
 (Zua big w_ d (0:Int) ((w_.length:Int) - 1) (List.replicate ((w_.length:Int)).toNat (0:Int))).bind fun(x0,x1)=>Zwf x0 x1
def Ztk (x_:Int) (n:Int):Option Int:=
 (idx ([0,1,2,2,3,3,3,3,4,4,4,4,4,4,4,4,5,5,5,5,5,5,5,5,5,5,5,5,5,5,5,5,6,6,6,6,6,6,6,6,6,6,6,6,6,6,6,6,6,6,6,6,6,6,6,6,6,6,6,6,6,6,6,6,7,7,7,7,7,7,7,7,7,7,7,7,7,7,7,7,7,7,7,7,7,7,7,7,7,7,7,7,7,7,7,7,7,7,7,7,7,7,7,7,7,7,7,7,7,7,7,7,7,7,7,7,7,7,7,7,7,7,7,7,7,7,7,7,8,8,8,8,8,8,8,8,8,8,8,8,8,8,8,8,8,8,8,8,8,8,8,8,8,8,8,8,8,8,8,8,8,8,8,8,8,8,8,8,8,8,8,8,8,8,8,8,8,8,8,8,8,8,8,8,8,8,8,8,8,8,8,8,8,8,8,8,8,8,8,8,8,8,8,8,8,8,8,8,8,8,8,8,8,8,8,8,8,8,8,8,8,8,8,8,8,8,8,8,8,8,8,8,8,8,8,8,8,8,8,8,8,8,8,8,8,8,8,8,8,8,8,8,8,8,8,8]:Str) (IntKind.wrap .u8 x_)).bind fun c=>
 chk (inK .i64 (n+(IntKind.wrap .i64 ((c.toNat:Nat):Int)))) <|
 some (n+(IntKind.wrap .i64 ((c.toNat:Nat):Int)))
def Zwl (x_:Int) (n:Int):Option Int:=
 bif (decide (x_≥256))then (
  chk (decide (0≤(8:Int))) <|
  chk (inK .i64 (n+8)) <|
  Ztk (shrK .u32 x_ 8) (n+8)
 )else (
  Ztk x_ n
 )
def Zwz (x_:Int):Option Int:=
 bif (decide (x_≥65536))then (
  chk (decide (0≤(16:Int))) <|
  Zwl (shrK .u32 x_ 16) (16:Int)
 )else (
  Zwl x_ (0:Int)
 )
def ZrC (x_:Int):Option Int:=
 (Zwz x_).bind fun q=>
 chk (inK .i64 (32 - q)) <|
 some (32 - q)
def Zvh (out:(List Int)):Option (List Int):=
 some out
def Zr9 (rec_:Int→(List Int)→Int→Int→(List Int)→Option (List Int)) (n:Int) (t13:(List Int)) (t14:Int) (i:Int) (out:(List Int)):Option (List Int):=
 bif (decide (i < t14))then (
  (idx t13 i).bind fun d=>
  chk (decide (0≤n)) <|
  chk (inR i (out.length:Int)) <|
  (out[(i).toNat]?).bind fun out_e=>
  chk (inR i (out.length:Int)) <|
  chk (inK .i64 (i+1)) <|
  chk (decide (0≤(32:Int))) <|
  chk (inR (i+1) ((out.set ((i).toNat) (orK .u32 out_e (IntKind.wrap .u32 (shlK .u64 (IntKind.wrap .u64 d) n)))).length:Int)) <|
  chk (inK .i64 (i+1)) <|
  rec_ n t13 t14 (i+1) ((out.set ((i).toNat) (orK .u32 out_e (IntKind.wrap .u32 (shlK .u64 (IntKind.wrap .u64 d) n)))).set (((i+1)).toNat) (IntKind.wrap .u32 (shrK .u64 (shlK .u64 (IntKind.wrap .u64 d) n) 32)))
 )else (
  some out
 )
def Ztd:Nat→Int→(List Int)→Int→Int→(List Int)→Option (List Int)
 |0,_,_,_,_,_=>none
 |n_+1,n,t13,t14,i,out=>Zr9 (Ztd n_) n t13 t14 i out
def Zw8 (n:Nat) (s:(Int×(List Int)×Int×Int×(List Int))):Option (List Int):=Ztd n s.1 s.2.1 s.2.2.1 s.2.2.2.1 s.2.2.2.2
def Zur (rec_:(Int×(List Int)×Int×Int×(List Int))→Option (List Int)) (s:(Int×(List Int)×Int×Int×(List Int))):Option (List Int):=Zr9 (fun n t13 t14 i out=>rec_ (n,t13,t14,i,out)) s.1 s.2.1 s.2.2.1 s.2.2.2.1 s.2.2.2.2
theorem Zzc:∀n s,Zw8 (n+1) s=Zur (Zw8 n) s:=fun _ _=>rfl
def Zp6 (w_:(List Int)) (n:Int):Option (List Int):=
 chk (inK .i64 ((w_.length:Int)+1)) <|
 chk (mkOk ((w_.length:Int)+1) ((w_.length:Int)+1) 4) <|
 (Ztd big n w_ (w_.length:Int) (0:Int) (List.replicate (((w_.length:Int)+1)).toNat (0:Int))).bind fun x0=>Zvh x0
def ZtP (x_:Int) (y:Int) (borrow:Int):Option (Int×Int):=
 chk (decide (0≤(31:Int))) <|
 some ((IntKind.wrap .u32 ((IntKind.wrap .u32 (x_ - y)) - borrow)),(shrK .u32 (orK .u32 (andK .u32 (xorK .u32 (if IntKind.signed .u32 then -1 else IntKind.max .u32) x_) y) (andK .u32 (xorK .u32 (if IntKind.signed .u32 then -1 else IntKind.max .u32) (xorK .u32 x_ y)) (IntKind.wrap .u32 ((IntKind.wrap .u32 (x_ - y)) - borrow)))) 31))
def ZuW (x_:Int) (y:Int) (carry:Int):Option (Int×Int):=
 chk (decide (0≤(32:Int))) <|
 some ((IntKind.wrap .u32 (IntKind.wrap .u64 ((IntKind.wrap .u64 ((IntKind.wrap .u64 x_)+(IntKind.wrap .u64 y)))+(IntKind.wrap .u64 carry)))),(IntKind.wrap .u32 (shrK .u64 (IntKind.wrap .u64 ((IntKind.wrap .u64 ((IntKind.wrap .u64 x_)+(IntKind.wrap .u64 y)))+(IntKind.wrap .u64 carry))) 32)))
def ZwQ (u_off:Nat) (u_len:Nat) (n:Int) (guess:Int) (add:Int) (u:(List Int)):Option (Int×(List Int)):=
 chk (inR n (u_len:Int)) <|
 (u[(u_off+(n).toNat)]?).bind fun u_e=>
 chk (inR n (u_len:Int)) <|
 some ((IntKind.wrap .u32 (IntKind.wrap .u64 (guess - 1))),(u.set (u_off+(n).toNat) (IntKind.wrap .u32 (u_e+add))))
def ZvN (rec_:Nat→Nat→Int→Int→Int→(List Int)→Int→Int→(List Int)→Option (Nat×Nat×Int×Int×Int×(List Int))) (u_off:Nat) (u_len:Nat) (n:Int) (guess:Int) (add:Int) (t130:(List Int)) (t131:Int) (i:Int) (u:(List Int)):Option (Nat×Nat×Int×Int×Int×(List Int)):=
 bif (decide (i < t131))then (
  (idx t130 i).bind fun x_=>
  chk (inR i (u_len:Int)) <|
  (u[(u_off+(i).toNat)]?).bind fun u_e=>
  (ZuW u_e x_ add).bind fun(q,add_1)=>
  chk (inR i (u_len:Int)) <|
  chk (inK .i64 (i+1)) <|
  rec_ u_off u_len n guess add_1 t130 t131 (i+1) (u.set (u_off+(i).toNat) q)
 )else (
  some (u_off,u_len,n,guess,add,u)
 )
def Zvk:Nat→Nat→Nat→Int→Int→Int→(List Int)→Int→Int→(List Int)→Option (Nat×Nat×Int×Int×Int×(List Int))
 |0,_,_,_,_,_,_,_,_,_=>none
 |n_+1,u_off,u_len,n,guess,add,t130,t131,i,u=>ZvN (Zvk n_) u_off u_len n guess add t130 t131 i u
def Zze (n:Nat) (s:(Nat×Nat×Int×Int×Int×(List Int)×Int×Int×(List Int))):Option (Nat×Nat×Int×Int×Int×(List Int)):=Zvk n s.1 s.2.1 s.2.2.1 s.2.2.2.1 s.2.2.2.2.1 s.2.2.2.2.2.1 s.2.2.2.2.2.2.1 s.2.2.2.2.2.2.2.1 s.2.2.2.2.2.2.2.2
def ZxT (rec_:(Nat×Nat×Int×Int×Int×(List Int)×Int×Int×(List Int))→Option (Nat×Nat×Int×Int×Int×(List Int))) (s:(Nat×Nat×Int×Int×Int×(List Int)×Int×Int×(List Int))):Option (Nat×Nat×Int×Int×Int×(List Int)):=ZvN (fun u_off u_len n guess add t130 t131 i u=>rec_ (u_off,u_len,n,guess,add,t130,t131,i,u)) s.1 s.2.1 s.2.2.1 s.2.2.2.1 s.2.2.2.2.1 s.2.2.2.2.2.1 s.2.2.2.2.2.2.1 s.2.2.2.2.2.2.2.1 s.2.2.2.2.2.2.2.2
theorem ZAO:∀n s,Zze (n+1) s=ZxT (Zze n) s:=fun _ _=>rfl
def ZyD (u_off:Nat) (u_len:Nat) (d:(List Int)) (n:Int) (guess:Int) (borrow:Int) (carry:Int) (u:(List Int)):Option (Int×(List Int)):=
 chk (inR n (u_len:Int)) <|
 (u[(u_off+(n).toNat)]?).bind fun u_e=>
 (ZtP u_e (IntKind.wrap .u32 carry) borrow).bind fun(q,borrow_1)=>
 chk (inR n (u_len:Int)) <|
 bif (borrow_1 == 0)then (
  some ((IntKind.wrap .u32 guess),(u.set (u_off+(n).toNat) q))
 )else (
  (Zvk big u_off u_len n guess (0:Int) d (d.length:Int) (0:Int) (u.set (u_off+(n).toNat) q)).bind fun(x0,x1,x2,x3,x4,x5)=>ZwQ x0 x1 x2 x3 x4 x5
 )
def ZvO (rec_:Nat→Nat→(List Int)→Int→Int→Int→Int→(List Int)→Int→Int→(List Int)→Option (Nat×Nat×(List Int)×Int×Int×Int×Int×(List Int))) (u_off:Nat) (u_len:Nat) (d:(List Int)) (n:Int) (guess:Int) (borrow:Int) (carry:Int) (t82:(List Int)) (t83:Int) (i:Int) (u:(List Int)):Option (Nat×Nat×(List Int)×Int×Int×Int×Int×(List Int)):=
 bif (decide (i < t83))then (
  (idx t82 i).bind fun x_=>
  chk (inR i (u_len:Int)) <|
  (u[(u_off+(i).toNat)]?).bind fun u_e=>
  (ZtP u_e (IntKind.wrap .u32 (IntKind.wrap .u64 (carry+(IntKind.wrap .u64 (guess*(IntKind.wrap .u64 x_)))))) borrow).bind fun(q,borrow_1)=>
  chk (inR i (u_len:Int)) <|
  chk (decide (0≤(32:Int))) <|
  chk (inK .i64 (i+1)) <|
  rec_ u_off u_len d n guess borrow_1 (shrK .u64 (IntKind.wrap .u64 (carry+(IntKind.wrap .u64 (guess*(IntKind.wrap .u64 x_))))) 32) t82 t83 (i+1) (u.set (u_off+(i).toNat) q)
 )else (
  some (u_off,u_len,d,n,guess,borrow,carry,u)
 )
def ZwP:Nat→Nat→Nat→(List Int)→Int→Int→Int→Int→(List Int)→Int→Int→(List Int)→Option (Nat×Nat×(List Int)×Int×Int×Int×Int×(List Int))
 |0,_,_,_,_,_,_,_,_,_,_,_=>none
 |n_+1,u_off,u_len,d,n,guess,borrow,carry,t82,t83,i,u=>ZvO (ZwP n_) u_off u_len d n guess borrow carry t82 t83 i u
def Zzf (n:Nat) (s:(Nat×Nat×(List Int)×Int×Int×Int×Int×(List Int)×Int×Int×(List Int))):Option (Nat×Nat×(List Int)×Int×Int×Int×Int×(List Int)):=ZwP n s.1 s.2.1 s.2.2.1 s.2.2.2.1 s.2.2.2.2.1 s.2.2.2.2.2.1 s.2.2.2.2.2.2.1 s.2.2.2.2.2.2.2.1 s.2.2.2.2.2.2.2.2.1 s.2.2.2.2.2.2.2.2.2.1 s.2.2.2.2.2.2.2.2.2.2
def ZxU (rec_:(Nat×Nat×(List Int)×Int×Int×Int×Int×(List Int)×Int×Int×(List Int))→Option (Nat×Nat×(List Int)×Int×Int×Int×Int×(List Int))) (s:(Nat×Nat×(List Int)×Int×Int×Int×Int×(List Int)×Int×Int×(List Int))):Option (Nat×Nat×(List Int)×Int×Int×Int×Int×(List Int)):=ZvO (fun u_off u_len d n guess borrow carry t82 t83 i u=>rec_ (u_off,u_len,d,n,guess,borrow,carry,t82,t83,i,u)) s.1 s.2.1 s.2.2.1 s.2.2.2.1 s.2.2.2.2.1 s.2.2.2.2.2.1 s.2.2.2.2.2.2.1 s.2.2.2.2.2.2.2.1 s.2.2.2.2.2.2.2.2.1 s.2.2.2.2.2.2.2.2.2.1 s.2.2.2.2.2.2.2.2.2.2
theorem ZAP:∀n s,Zzf (n+1) s=ZxU (Zzf n) s:=fun _ _=>rfl
def ZwR (u_off:Nat) (u_len:Nat) (d:(List Int)) (n:Int) (guess:Int) (u:(List Int)):Option (Int×(List Int)):=
 (ZwP big u_off u_len d n guess (0:Int) (0:Int) d (d.length:Int) (0:Int) u).bind fun(x0,x1,x2,x3,x4,x5,x6,x7)=>ZyD x0 x1 x2 x3 x4 x5 x6 x7
def Zvl (rec_:Nat→Nat→(List Int)→Int→Int→Int→(List Int)→Option (Nat×Nat×(List Int)×Int×Int×(List Int))) (u_off:Nat) (u_len:Nat) (d:(List Int)) (n:Int) (guess:Int) (rest:Int) (t71:Bool) (u:(List Int)):Option (Nat×Nat×(List Int)×Int×Int×(List Int)):=
 bif t71 then (
  chk (inK .i64 (n - 1)) <|
  (idx d (n - 1)).bind fun d_e=>
  rec_ u_off u_len d n (IntKind.wrap .u64 (guess - 1)) (IntKind.wrap .u64 (rest+(IntKind.wrap .u64 d_e))) u
 )else (
  some (u_off,u_len,d,n,guess,u)
 )
def ZxV (rec_:Nat→Nat→(List Int)→Int→Int→Int→(List Int)→Option (Nat×Nat×(List Int)×Int×Int×(List Int))) (u_off:Nat) (u_len:Nat) (d:(List Int)) (n:Int) (guess:Int) (rest:Int) (u:(List Int)):Option (Nat×Nat×(List Int)×Int×Int×(List Int)):=
 bif (decide (rest < 4294967296))then (
  chk (inK .i64 (n - 2)) <|
  (idx d (n - 2)).bind fun d_e=>
  chk (decide (0≤(32:Int))) <|
  chk (inK .i64 (n - 2)) <|
  chk (inR (n - 2) (u_len:Int)) <|
  (u[(u_off+((n - 2)).toNat)]?).bind fun u_e=>
  Zvl rec_ u_off u_len d n guess rest (decide ((IntKind.wrap .u64 (guess*(IntKind.wrap .u64 d_e))) > (orK .u64 (shlK .u64 rest 32) (IntKind.wrap .u64 u_e)))) u
 )else (
  Zvl rec_ u_off u_len d n guess rest false u
 )
def ZtQ:Nat→Nat→Nat→(List Int)→Int→Int→Int→(List Int)→Option (Nat×Nat×(List Int)×Int×Int×(List Int))
 |0,_,_,_,_,_,_,_=>none
 |n_+1,u_off,u_len,d,n,guess,rest,u=>ZxV (ZtQ n_) u_off u_len d n guess rest u
def Zzg (n:Nat) (s:(Nat×Nat×(List Int)×Int×Int×Int×(List Int))):Option (Nat×Nat×(List Int)×Int×Int×(List Int)):=ZtQ n s.1 s.2.1 s.2.2.1 s.2.2.2.1 s.2.2.2.2.1 s.2.2.2.2.2.1 s.2.2.2.2.2.2
def Zzh (rec_:(Nat×Nat×(List Int)×Int×Int×Int×(List Int))→Option (Nat×Nat×(List Int)×Int×Int×(List Int))) (s:(Nat×Nat×(List Int)×Int×Int×Int×(List Int))):Option (Nat×Nat×(List Int)×Int×Int×(List Int)):=ZxV (fun u_off u_len d n guess rest u=>rec_ (u_off,u_len,d,n,guess,rest,u)) s.1 s.2.1 s.2.2.1 s.2.2.2.1 s.2.2.2.2.1 s.2.2.2.2.2.1 s.2.2.2.2.2.2
theorem ZAQ:∀n s,Zzg (n+1) s=Zzh (Zzg n) s:=fun _ _=>rfl
def ZyA (u:(List Int)) (u_off:Nat) (u_len:Nat) (d:(List Int)):Option (Int×(List Int)):=
 chk (inR (d.length:Int) (u_len:Int)) <|
 (u[(u_off+((d.length:Int)).toNat)]?).bind fun u_e=>
 chk (decide (0≤(32:Int))) <|
 chk (inK .i64 ((d.length:Int) - 1)) <|
 chk (inR ((d.length:Int) - 1) (u_len:Int)) <|
 (u[(u_off+(((d.length:Int) - 1)).toNat)]?).bind fun u_e_1=>
 chk (inK .i64 ((d.length:Int) - 1)) <|
 (idx d ((d.length:Int) - 1)).bind fun d_e=>
 chk (decide ((IntKind.wrap .u64 d_e)≠0)) <|
 chk (inK .i64 ((d.length:Int) - 1)) <|
 (idx d ((d.length:Int) - 1)).bind fun d_e_1=>
 (ZtQ big u_off u_len d (d.length:Int) (if (4294967295:Int) < (IntKind.wrap .u64 (Int.tdiv (orK .u64 (shlK .u64 (IntKind.wrap .u64 u_e) 32) (IntKind.wrap .u64 u_e_1)) (IntKind.wrap .u64 d_e)))then (4294967295:Int)else (IntKind.wrap .u64 (Int.tdiv (orK .u64 (shlK .u64 (IntKind.wrap .u64 u_e) 32) (IntKind.wrap .u64 u_e_1)) (IntKind.wrap .u64 d_e)))) (IntKind.wrap .u64 ((orK .u64 (shlK .u64 (IntKind.wrap .u64 u_e) 32) (IntKind.wrap .u64 u_e_1)) - (IntKind.wrap .u64 ((if (4294967295:Int) < (IntKind.wrap .u64 (Int.tdiv (orK .u64 (shlK .u64 (IntKind.wrap .u64 u_e) 32) (IntKind.wrap .u64 u_e_1)) (IntKind.wrap .u64 d_e)))then (4294967295:Int)else (IntKind.wrap .u64 (Int.tdiv (orK .u64 (shlK .u64 (IntKind.wrap .u64 u_e) 32) (IntKind.wrap .u64 u_e_1)) (IntKind.wrap .u64 d_e))))*(IntKind.wrap .u64 d_e_1))))) u).bind fun(x0,x1,x2,x3,x4,x5)=>ZwR x0 x1 x2 x3 x4 x5
def ZxA (u:(List Int)) (u_off:Nat) (u_len:Nat) (d:(List Int)):Option (Int×(List Int)):=
 (ZyA u u_off u_len d).bind fun r=>chk (decide (r.2.length=u.length)&&true) (some r)
def ZwO (w_off:Nat) (w_len:Nat) (w_:(List Int)):Option (Nat×Nat×(List Int)):=
 some (w_off,w_len,w_)
def ZuN (rec_:Nat→Nat→(List Int)→Option (Nat×Nat×(List Int))) (w_off:Nat) (w_len:Nat) (t14:Bool) (w_:(List Int)):Option (Nat×Nat×(List Int)):=
 bif t14 then (
  chk (inK .i64 (((w_len:Nat):Int) - 1)) <|
  chk (Zb9 0 (((w_len:Nat):Int) - 1) (w_len:Int)) <|
  rec_ (w_off+0) (((((w_len:Nat):Int) - 1)).toNat - 0) w_
 )else (
  some (w_off,w_len,w_)
 )
def Zwh (rec_:Nat→Nat→(List Int)→Option (Nat×Nat×(List Int))) (w_off:Nat) (w_len:Nat) (w_:(List Int)):Option (Nat×Nat×(List Int)):=
 bif (decide (((w_len:Nat):Int) > 0))then (
  chk (inK .i64 (((w_len:Nat):Int) - 1)) <|
  chk (inR (((w_len:Nat):Int) - 1) (w_len:Int)) <|
  (w_[(w_off+((((w_len:Nat):Int) - 1)).toNat)]?).bind fun w__e=>
  ZuN rec_ w_off w_len (w__e == 0) w_
 )else (
  ZuN rec_ w_off w_len false w_
 )
def Ztg:Nat→Nat→Nat→(List Int)→Option (Nat×Nat×(List Int))
 |0,_,_,_=>none
 |n_+1,w_off,w_len,w_=>Zwh (Ztg n_) w_off w_len w_
def Zyu (n:Nat) (s:(Nat×Nat×(List Int))):Option (Nat×Nat×(List Int)):=Ztg n s.1 s.2.1 s.2.2
def Zyv (rec_:(Nat×Nat×(List Int))→Option (Nat×Nat×(List Int))) (s:(Nat×Nat×(List Int))):Option (Nat×Nat×(List Int)):=Zwh (fun w_off w_len w_=>rec_ (w_off,w_len,w_)) s.1 s.2.1 s.2.2
theorem ZAf:∀n s,Zyu (n+1) s=Zyv (Zyu n) s:=fun _ _=>rfl
def Zwm (w_:(List Int)) (w_off:Nat) (w_len:Nat):Option (Nat×Nat×(List Int)):=
 (Ztg big w_off w_len w_).bind fun(x0,x1,x2)=>ZwO x0 x1 x2
def Zvo (w_:(List Int)) (w_off:Nat) (w_len:Nat):Option (Nat×Nat×(List Int)):=
 (Zwm w_ w_off w_len).bind fun r=>chk (decide (r.2.2.length=w_.length)&&true) (some r)
def Zsn (w_:(List Int)) (i:Int):Option Int:=
 bif (decide (i < (w_.length:Int)))then (
  (idx w_ i).bind fun w__e=>
  some w__e
 )else (
  some (0:Int)
 )
def ZxR (w_:(List Int)) (w_off:Nat) (w_len:Nat) (i:Int):Option (Int×(List Int)):=
 bif (decide (i < ((w_len:Nat):Int)))then (
  chk (inR i (w_len:Int)) <|
  (w_[(w_off+(i).toNat)]?).bind fun w__e=>
  some (w__e,w_)
 )else (
  some (0,w_)
 )
def ZuL (w_:(List Int)) (w_off:Nat) (w_len:Nat) (i:Int):Option (Int×(List Int)):=
 (ZxR w_ w_off w_len i).bind fun r=>chk (decide (r.2.length=w_.length)&&true) (some r)
def ZwC (rest_off:Nat) (rest_len:Nat) (q:(List Int)) (rest:(List Int)):Option ((List Int)×(List Int)):=
 (ZoD q).bind fun q_1=>
 (ZoD ((rest.drop rest_off).take rest_len)).bind fun q_2=>
 some (q_1,q_2)
def Ztz (rec_:Int→Nat→Nat→Int→Int→(List Int)→(List Int)→Option (Nat×Nat×(List Int)×(List Int))) (shift:Int) (rest_off:Nat) (rest_len:Nat) (t86:Int) (i:Int) (q:(List Int)) (rest:(List Int)):Option (Nat×Nat×(List Int)×(List Int)):=
 bif (decide (i < t86))then (
  chk (inK .i64 (i+1)) <|
  (ZuL rest rest_off rest_len (i+1)).bind fun(q_1,t90)=>
  chk (decide (0≤(32:Int))) <|
  chk (inR i (rest_len:Int)) <|
  (t90[(rest_off+(i).toNat)]?).bind fun t90_e=>
  chk (decide (0≤shift)) <|
  chk (inR i (rest_len:Int)) <|
  chk (inK .i64 (i+1)) <|
  rec_ shift rest_off rest_len t86 (i+1) q (t90.set (rest_off+(i).toNat) (IntKind.wrap .u32 (shrK .u64 (orK .u64 (shlK .u64 (IntKind.wrap .u64 q_1) 32) (IntKind.wrap .u64 t90_e)) shift)))
 )else (
  some (rest_off,rest_len,q,rest)
 )
def Zsy:Nat→Int→Nat→Nat→Int→Int→(List Int)→(List Int)→Option (Nat×Nat×(List Int)×(List Int))
 |0,_,_,_,_,_,_,_=>none
 |n_+1,shift,rest_off,rest_len,t86,i,q,rest=>Ztz (Zsy n_) shift rest_off rest_len t86 i q rest
def Zyd (n:Nat) (s:(Int×Nat×Nat×Int×Int×(List Int)×(List Int))):Option (Nat×Nat×(List Int)×(List Int)):=Zsy n s.1 s.2.1 s.2.2.1 s.2.2.2.1 s.2.2.2.2.1 s.2.2.2.2.2.1 s.2.2.2.2.2.2
def ZvG (rec_:(Int×Nat×Nat×Int×Int×(List Int)×(List Int))→Option (Nat×Nat×(List Int)×(List Int))) (s:(Int×Nat×Nat×Int×Int×(List Int)×(List Int))):Option (Nat×Nat×(List Int)×(List Int)):=Ztz (fun shift rest_off rest_len t86 i q rest=>rec_ (shift,rest_off,rest_len,t86,i,q,rest)) s.1 s.2.1 s.2.2.1 s.2.2.2.1 s.2.2.2.2.1 s.2.2.2.2.2.1 s.2.2.2.2.2.2
theorem Zz2:∀n s,Zyd (n+1) s=ZvG (Zyd n) s:=fun _ _=>rfl
def ZwD (n:Int) (shift:Int) (u:(List Int)) (q:(List Int)):Option ((List Int)×(List Int)):=
 chk (Zb9 0 n (u.length:Int)) <|
 (Zvo u 0 ((n).toNat - 0)).bind fun(rest_off,rest_len,t83)=>
 (Zsy big shift rest_off rest_len ((rest_len:Nat):Int) (0:Int) q t83).bind fun(x0,x1,x2,x3)=>ZwC x0 x1 x2 x3
def ZtA (rec_:Int→Int→(List Int)→Int→(List Int)→(List Int)→Option (Int×Int×(List Int)×(List Int))) (n:Int) (shift:Int) (d:(List Int)) (j:Int) (u:(List Int)) (q:(List Int)):Option (Int×Int×(List Int)×(List Int)):=
 bif (decide (j≥0))then (
  chk (inK .i64 (j+n)) <|
  chk (inK .i64 ((j+n)+1)) <|
  chk (Zb9 j ((j+n)+1) (u.length:Int)) <|
  (ZxA u ((j).toNat) ((((j+n)+1)).toNat - (j).toNat) d).bind fun(q_1,t77)=>
  chk (inR j (q.length:Int)) <|
  chk (inK .i64 (j - 1)) <|
  rec_ n shift d (j - 1) t77 (q.set ((j).toNat) q_1)
 )else (
  some (n,shift,u,q)
 )
def Zsz:Nat→Int→Int→(List Int)→Int→(List Int)→(List Int)→Option (Int×Int×(List Int)×(List Int))
 |0,_,_,_,_,_,_=>none
 |n_+1,n,shift,d,j,u,q=>ZtA (Zsz n_) n shift d j u q
def Zye (n:Nat) (s:(Int×Int×(List Int)×Int×(List Int)×(List Int))):Option (Int×Int×(List Int)×(List Int)):=Zsz n s.1 s.2.1 s.2.2.1 s.2.2.2.1 s.2.2.2.2.1 s.2.2.2.2.2
def ZvH (rec_:(Int×Int×(List Int)×Int×(List Int)×(List Int))→Option (Int×Int×(List Int)×(List Int))) (s:(Int×Int×(List Int)×Int×(List Int)×(List Int))):Option (Int×Int×(List Int)×(List Int)):=ZtA (fun n shift d j u q=>rec_ (n,shift,d,j,u,q)) s.1 s.2.1 s.2.2.1 s.2.2.2.1 s.2.2.2.2.1 s.2.2.2.2.2
theorem Zz3:∀n s,Zye (n+1) s=ZvH (Zye n) s:=fun _ _=>rfl
def Zrd (w_:(List Int)) (v_:(List Int)):Option ((List Int)×(List Int)):=
 (Zpr w_ v_).bind fun q=>
 bif (decide (q < 0))then (
  (Zpi w_).bind fun q_1=>
  some (([]:(List Int)),q_1)
 )else (
  bif ((v_.length:Int) == 1)then (
   (idx v_ 0).bind fun v__e=>
   (ZtH w_ v__e).bind fun(q_2,r_)=>
   (ZoD ([r_]:(List Int))).bind fun q_3=>
   some (q_2,q_3)
  )else (
   chk (inK .i64 ((v_.length:Int) - 1)) <|
   (idx v_ ((v_.length:Int) - 1)).bind fun v__e_1=>
   (ZrC v__e_1).bind fun shift=>
   (Zp6 w_ shift).bind fun u=>
   (Zp6 v_ shift).bind fun q_4=>
   chk (Zb9 0 (v_.length:Int) (q_4.length:Int)) <|
   chk (inK .i64 ((w_.length:Int) - (v_.length:Int))) <|
   chk (inK .i64 (((w_.length:Int) - (v_.length:Int))+1)) <|
   chk (mkOk (((w_.length:Int) - (v_.length:Int))+1) (((w_.length:Int) - (v_.length:Int))+1) 4) <|
   chk (inK .i64 (((List.replicate ((((w_.length:Int) - (v_.length:Int))+1)).toNat (0:Int)).length:Int) - 1)) <|
   (Zsz big (v_.length:Int) shift ((q_4.drop 0).take (((v_.length:Int)).toNat - 0)) (((List.replicate ((((w_.length:Int) - (v_.length:Int))+1)).toNat (0:Int)).length:Int) - 1) u (List.replicate ((((w_.length:Int) - (v_.length:Int))+1)).toNat (0:Int))).bind fun(x0,x1,x2,x3)=>ZwD x0 x1 x2 x3
  )
 )
def ZvI (w_:(List Int)):Option (List Int):=
 some w_
def ZqQ (rec_:(List Int)→(List Int)→Option (List Int)) (w_:(List Int)) (v_:(List Int)):Option (List Int):=
 bif (decide ((v_.length:Int) > 0))then (
  (Zrd w_ v_).bind fun(q,r_)=>
  rec_ v_ r_
 )else (
  some w_
 )
def ZpD:Nat→(List Int)→(List Int)→Option (List Int)
 |0,_,_=>none
 |n_+1,w_,v_=>ZqQ (ZpD n_) w_ v_
def Zrr (w_:(List Int)) (v_:(List Int)):Option (List Int):=
 (ZpD big w_ v_).bind fun x0=>ZvI x0
def ZrF (num:ZnD) (den:ZnD):Option ZnE:=
 (Zrr num.Words den.Words).bind fun g=>
 (Zrd num.Words g).bind fun(x_,q)=>
 (Zrd den.Words g).bind fun(y,q_1)=>
 (ZoW (!(num.Neg == den.Neg)) x_).bind fun q_2=>
 (ZoW false y).bind fun q_3=>
 some (ZnE.mk q_2 q_3)
def ZxW (num:ZnD) (den:ZnD):Option (ZnE×Int):=
 (ZwE ([num,den]:(List ZnD))).bind fun q=>
 bif (!q)then (
  some ((ZnE.mk (ZnD.mk false ([]:(List Int))) (ZnD.mk false ([]:(List Int)))),1)
 )else (
  bif ((den.Words.length:Int) == 0)then (
   some ((ZnE.mk (ZnD.mk false ([]:(List Int))) (ZnD.mk false ([]:(List Int)))),8)
  )else (
   (ZrF num den).bind fun q_1=>
   some (q_1,0)
  )
 )
def ZyN (num:Int) (den:Int):Option (ZnE×Int):=
 (Zui num).bind fun q=>
 (Zui den).bind fun q_1=>
 (ZxW q q_1).bind fun(q_2,q_3)=>
 some (q_2,q_3)
def ZzT:Option ZnE:=
 (ZyN 0 1).bind fun(f,q)=>
 some f
def ZzH:Option (List (Int×ZpW)):=
 some (setB (k:=(.int .i64)) (v:=(.st 6)) (car:=ZyW) (setB (k:=(.int .i64)) (v:=(.st 6)) (car:=ZyW) (setB (k:=(.int .i64)) (v:=(.st 6)) (car:=ZyW) (setB (k:=(.int .i64)) (v:=(.st 6)) (car:=ZyW) (setB (k:=(.int .i64)) (v:=(.st 6)) (car:=ZyW) ([]:(List (Int×ZpW))) 1 (ZpW.mk ([116,101,120,116]:Str) (none:Option Nat) (some 237:Option Nat))) 2 (ZpW.mk ([98,111,111,108]:Str) (some 238:Option Nat) (some 239:Option Nat))) 3 (ZpW.mk ([105,110,116,101,103,101,114]:Str) (some 240:Option Nat) (some 241:Option Nat))) 4 (ZpW.mk ([100,101,99,105,109,97,108]:Str) (some 242:Option Nat) (some 241:Option Nat))) 5 (ZpW.mk ([100,97,116,101]:Str) (some 243:Option Nat) (some 244:Option Nat)))
def Zyt (s cs:Str):Option Str:=
 chk (cs.all fun b=>decide (b.toNat < 128)) <| chk (decide (cs.length < 4294967281)) <| some (Lib.trimS s cs)
def ZyX (s:Str):Option Str:=
 (Zyt s ([32]:Str)).bind fun q=>
 some q
def Zqy (t4:Bool):Option Bool:=
 some t4
def Zo9 (s:Str) (prefix_:Str):Option Bool:=
 bif (decide ((s.length:Int)≥(prefix_.length:Int)))then (
  chk (Zb9 0 (prefix_.length:Int) (s.length:Int)) <|
  Zqy ((s.take ((prefix_.length:Int)).toNat) == prefix_)
 )else (
  Zqy false
 )
def ZqX (s:Str) (prefix_:Str):Option (Str×Bool):=
 (Zo9 s prefix_).bind fun q=>
 bif (!q)then (
  some (s,false)
 )else (
  chk (Zb9 (prefix_.length:Int) (s.length:Int) (s.length:Int)) <|
  some ((s.drop ((prefix_.length:Int)).toNat),true)
 )
def Zvb (s:Str) (prefix_:Str):Option (Str×Bool):=
 (ZqX s prefix_).bind fun(after,found)=>
 some (after,found)
def ZqO (s:Str) (prefix_:Str):Option Str:=
 (Zo9 s prefix_).bind fun q=>
 bif q then (
  chk (Zb9 (prefix_.length:Int) (s.length:Int) (s.length:Int)) <|
  some (s.drop ((prefix_.length:Int)).toNat)
 )else (
  some s
 )
def Zuu (s:Str) (prefix_:Str):Option Str:=
 (ZqO s prefix_).bind fun q=>
 some q
def ZqW (s:Str) (c:Int):Option Int:=
 some (Lib.indexByte s c.toNat.toUInt8)
def Zrq (s:Str) (substr:Str) (n:Int) (t16:Bool):Option Int:=
 bif t16 then (
  some (0:Int)
 )else (
  bif (n == 1)then (
   (idx substr 0).bind fun c=>
   (ZqW s ((c.toNat:Nat):Int)).bind fun q=>
   some q
  )else (
   bif (decide (n≥(s.length:Int)))then (
    some (-1:Int)
   )else (
    none
   )
  )
 )
def ZqP (s:Str) (substr:Str):Option Int:=
 bif ((substr.length:Int) == 0)then (
  Zrq s substr (substr.length:Int) true
 )else (
  Zrq s substr (substr.length:Int) (substr == s)
 )
def Ztx (s:Str) (sep:Str):Option (Str×Str×Bool):=
 (ZqP s sep).bind fun i=>
 bif (decide (i≥0))then (
  chk (Zb9 0 i (s.length:Int)) <|
  chk (inK .i64 (i+(sep.length:Int))) <|
  chk (Zb9 (i+(sep.length:Int)) (s.length:Int) (s.length:Int)) <|
  some ((s.take (i).toNat),(s.drop ((i+(sep.length:Int))).toNat),true)
 )else (
  some (s,([]:Str),false)
 )
def Zx5 (s:Str) (sep:Str):Option (Str×Str×Bool):=
 (Ztx s sep).bind fun(before,after,found)=>
 some (before,after,found)
def Zuw (t4:Bool):Option Bool:=
 some t4
def ZuX (s:Str) (most:Int):Option Bool:=
 bif (decide ((s.length:Int)≥1))then (
  bif (decide ((s.length:Int)≤most))then (
   (Zyt s ([48,49,50,51,52,53,54,55,56,57]:Str)).bind fun q=>
   Zuw (q == ([]:Str))
  )else (
   Zuw false
  )
 )else (
  Zuw false
 )
def Zwd (out:(List Int)):Option (List Int):=
 (ZoD out).bind fun q=>
 some q
def Zwe (rec_:(List Int)→(List Int)→Int→Int→(List Int)→Option (List Int)) (v_:(List Int)) (i:Int) (carry:Int) (t17:(List Int)) (t18:Int) (i_1:Int) (out:(List Int)):Option (List Int):=
 chk (inK .i64 (i+(v_.length:Int))) <|
 chk (inR (i+(v_.length:Int)) (out.length:Int)) <|
 chk (inK .i64 (i_1+1)) <|
 rec_ v_ t17 t18 (i_1+1) (out.set (((i+(v_.length:Int))).toNat) (IntKind.wrap .u32 carry))
def Zta (rec_:(List Int)→Int→Int→Int→(List Int)→Int→Int→(List Int)→Int→Int→(List Int)→Option ((List Int)×Int×Int×(List Int)×Int×Int×(List Int))) (v_:(List Int)) (i:Int) (x_:Int) (carry:Int) (t17:(List Int)) (t18:Int) (i_1:Int) (t24:(List Int)) (t25:Int) (j:Int) (out:(List Int)):Option ((List Int)×Int×Int×(List Int)×Int×Int×(List Int)):=
 bif (decide (j < t25))then (
  (idx t24 j).bind fun y=>
  chk (inK .i64 (i+j)) <|
  chk (inR (i+j) (out.length:Int)) <|
  (out[((i+j)).toNat]?).bind fun out_e=>
  chk (inK .i64 (i+j)) <|
  chk (inR (i+j) (out.length:Int)) <|
  chk (decide (0≤(32:Int))) <|
  chk (inK .i64 (j+1)) <|
  rec_ v_ i x_ (shrK .u64 (IntKind.wrap .u64 (carry+(IntKind.wrap .u64 ((IntKind.wrap .u64 ((IntKind.wrap .u64 x_)*(IntKind.wrap .u64 y)))+(IntKind.wrap .u64 out_e))))) 32) t17 t18 i_1 t24 t25 (j+1) (out.set (((i+j)).toNat) (IntKind.wrap .u32 (IntKind.wrap .u64 (carry+(IntKind.wrap .u64 ((IntKind.wrap .u64 ((IntKind.wrap .u64 x_)*(IntKind.wrap .u64 y)))+(IntKind.wrap .u64 out_e)))))))
 )else (
  some (v_,i,carry,t17,t18,i_1,out)
 )
def Zt9:Nat→(List Int)→Int→Int→Int→(List Int)→Int→Int→(List Int)→Int→Int→(List Int)→Option ((List Int)×Int×Int×(List Int)×Int×Int×(List Int))
 |0,_,_,_,_,_,_,_,_,_,_,_=>none
 |n_+1,v_,i,x_,carry,t17,t18,i_1,t24,t25,j,out=>Zta (Zt9 n_) v_ i x_ carry t17 t18 i_1 t24 t25 j out
def ZxN (n:Nat) (s:((List Int)×Int×Int×Int×(List Int)×Int×Int×(List Int)×Int×Int×(List Int))):Option ((List Int)×Int×Int×(List Int)×Int×Int×(List Int)):=Zt9 n s.1 s.2.1 s.2.2.1 s.2.2.2.1 s.2.2.2.2.1 s.2.2.2.2.2.1 s.2.2.2.2.2.2.1 s.2.2.2.2.2.2.2.1 s.2.2.2.2.2.2.2.2.1 s.2.2.2.2.2.2.2.2.2.1 s.2.2.2.2.2.2.2.2.2.2
def Zve (rec_:((List Int)×Int×Int×Int×(List Int)×Int×Int×(List Int)×Int×Int×(List Int))→Option ((List Int)×Int×Int×(List Int)×Int×Int×(List Int))) (s:((List Int)×Int×Int×Int×(List Int)×Int×Int×(List Int)×Int×Int×(List Int))):Option ((List Int)×Int×Int×(List Int)×Int×Int×(List Int)):=Zta (fun v_ i x_ carry t17 t18 i_1 t24 t25 j out=>rec_ (v_,i,x_,carry,t17,t18,i_1,t24,t25,j,out)) s.1 s.2.1 s.2.2.1 s.2.2.2.1 s.2.2.2.2.1 s.2.2.2.2.2.1 s.2.2.2.2.2.2.1 s.2.2.2.2.2.2.2.1 s.2.2.2.2.2.2.2.2.1 s.2.2.2.2.2.2.2.2.2.1 s.2.2.2.2.2.2.2.2.2.2
theorem ZzP:∀n s,ZxN (n+1) s=Zve (ZxN n) s:=fun _ _=>rfl
def Ztb (rec_:(List Int)→(List Int)→Int→Int→(List Int)→Option (List Int)) (v_:(List Int)) (t17:(List Int)) (t18:Int) (i:Int) (out:(List Int)):Option (List Int):=
 bif (decide (i < t18))then (
  (idx t17 i).bind fun x_=>
  (Zt9 big v_ i x_ (0:Int) t17 t18 i v_ (v_.length:Int) (0:Int) out).bind fun(x0,x1,x2,x3,x4,x5,x6)=>Zwe rec_ x0 x1 x2 x3 x4 x5 x6
 )else (
  some out
 )
def ZrZ:Nat→(List Int)→(List Int)→Int→Int→(List Int)→Option (List Int)
 |0,_,_,_,_,_=>none
 |n_+1,v_,t17,t18,i,out=>Ztb (ZrZ n_) v_ t17 t18 i out
def ZxO (n:Nat) (s:((List Int)×(List Int)×Int×Int×(List Int))):Option (List Int):=ZrZ n s.1 s.2.1 s.2.2.1 s.2.2.2.1 s.2.2.2.2
def Zvf (rec_:((List Int)×(List Int)×Int×Int×(List Int))→Option (List Int)) (s:((List Int)×(List Int)×Int×Int×(List Int))):Option (List Int):=Ztb (fun v_ t17 t18 i out=>rec_ (v_,t17,t18,i,out)) s.1 s.2.1 s.2.2.1 s.2.2.2.1 s.2.2.2.2
theorem ZzQ:∀n s,ZxO (n+1) s=Zvf (ZxO n) s:=fun _ _=>rfl
def ZqG (w_:(List Int)) (v_:(List Int)):Option (List Int):=
 chk (inK .i64 ((w_.length:Int)+(v_.length:Int))) <|
 chk (mkOk ((w_.length:Int)+(v_.length:Int)) ((w_.length:Int)+(v_.length:Int)) 4) <|
 (ZrZ big v_ w_ (w_.length:Int) (0:Int) (List.replicate (((w_.length:Int)+(v_.length:Int))).toNat (0:Int))).bind fun x0=>Zwd x0
def ZwB (carry:Int) (out:(List Int)):Option (List Int):=
 chk (ZiZ (out.length+([carry]:(List Int)).length) 4) <|
 (ZoD (out++([carry]:(List Int)))).bind fun q=>
 some q
def Zty (rec_:(List Int)→(List Int)→Int→Int→Int→(List Int)→Option (Int×(List Int))) (w_:(List Int)) (v_:(List Int)) (carry:Int) (t20:Int) (i:Int) (out:(List Int)):Option (Int×(List Int)):=
 bif (decide (i < t20))then (
  (Zsn w_ i).bind fun q=>
  (Zsn v_ i).bind fun q_1=>
  (ZuW q q_1 carry).bind fun(d,carry_1)=>
  chk (ZiZ (out.length+([d]:(List Int)).length) 4) <|
  chk (inK .i64 (i+1)) <|
  rec_ w_ v_ carry_1 t20 (i+1) (out++([d]:(List Int)))
 )else (
  some (carry,out)
 )
def Zuh:Nat→(List Int)→(List Int)→Int→Int→Int→(List Int)→Option (Int×(List Int))
 |0,_,_,_,_,_,_=>none
 |n_+1,w_,v_,carry,t20,i,out=>Zty (Zuh n_) w_ v_ carry t20 i out
def Zyc (n:Nat) (s:((List Int)×(List Int)×Int×Int×Int×(List Int))):Option (Int×(List Int)):=Zuh n s.1 s.2.1 s.2.2.1 s.2.2.2.1 s.2.2.2.2.1 s.2.2.2.2.2
def ZvF (rec_:((List Int)×(List Int)×Int×Int×Int×(List Int))→Option (Int×(List Int))) (s:((List Int)×(List Int)×Int×Int×Int×(List Int))):Option (Int×(List Int)):=Zty (fun w_ v_ carry t20 i out=>rec_ (w_,v_,carry,t20,i,out)) s.1 s.2.1 s.2.2.1 s.2.2.2.1 s.2.2.2.2.1 s.2.2.2.2.2
theorem Zz1:∀n s,Zyc (n+1) s=ZvF (Zyc n) s:=fun _ _=>rfl
def Zsx (w_:(List Int)) (v_:(List Int)):Option (List Int):=
 chk (inK .i64 ((if (v_.length:Int) > (w_.length:Int)then (v_.length:Int)else (w_.length:Int))+1)) <|
 chk (mkOk 0 ((if (v_.length:Int) > (w_.length:Int)then (v_.length:Int)else (w_.length:Int))+1) 4) <|
 (Zuh big w_ v_ (0:Int) (if (v_.length:Int) > (w_.length:Int)then (v_.length:Int)else (w_.length:Int)) (0:Int) (List.replicate ((0:Int)).toNat (0:Int))).bind fun(x0,x1)=>ZwB x0 x1
def ZxX (neg:Bool) (num:(List Int)) (den:(List Int)) (t2:Bool) (t2_1:Bool) (t2_2:(List Int)) (t2_3:(List Int)):Option (ZnE×Bool):=
 (ZoW neg num).bind fun q=>
 (ZoW false den).bind fun q_1=>
 (ZrF q q_1).bind fun q_2=>
 some (q_2,true)
def ZuO (rec_:Bool→(List Int)→(List Int)→(List Int)→Int→Int→Bool→Bool→(List Int)→(List Int)→Option (Bool×(List Int)×(List Int)×Bool×Bool×(List Int)×(List Int))) (neg:Bool) (num:(List Int)) (ten:(List Int)) (den:(List Int)) (t63:Int) (t64:Int) (t2:Bool) (t2_1:Bool) (t2_2:(List Int)) (t2_3:(List Int)):Option (Bool×(List Int)×(List Int)×Bool×Bool×(List Int)×(List Int)):=
 bif (decide (t64 < t63))then (
  (ZqG den ten).bind fun den_1=>
  chk (inK .i64 (t64+1)) <|
  rec_ neg num ten den_1 t63 (t64+1) t2 t2_1 t2_2 t2_3
 )else (
  some (neg,num,den,t2,t2_1,t2_2,t2_3)
 )
def ZvP:Nat→Bool→(List Int)→(List Int)→(List Int)→Int→Int→Bool→Bool→(List Int)→(List Int)→Option (Bool×(List Int)×(List Int)×Bool×Bool×(List Int)×(List Int))
 |0,_,_,_,_,_,_,_,_,_,_=>none
 |n_+1,neg,num,ten,den,t63,t64,t2,t2_1,t2_2,t2_3=>ZuO (ZvP n_) neg num ten den t63 t64 t2 t2_1 t2_2 t2_3
def ZyO (n:Nat) (s:(Bool×(List Int)×(List Int)×(List Int)×Int×Int×Bool×Bool×(List Int)×(List Int))):Option (Bool×(List Int)×(List Int)×Bool×Bool×(List Int)×(List Int)):=ZvP n s.1 s.2.1 s.2.2.1 s.2.2.2.1 s.2.2.2.2.1 s.2.2.2.2.2.1 s.2.2.2.2.2.2.1 s.2.2.2.2.2.2.2.1 s.2.2.2.2.2.2.2.2.1 s.2.2.2.2.2.2.2.2.2
def ZwS (rec_:(Bool×(List Int)×(List Int)×(List Int)×Int×Int×Bool×Bool×(List Int)×(List Int))→Option (Bool×(List Int)×(List Int)×Bool×Bool×(List Int)×(List Int))) (s:(Bool×(List Int)×(List Int)×(List Int)×Int×Int×Bool×Bool×(List Int)×(List Int))):Option (Bool×(List Int)×(List Int)×Bool×Bool×(List Int)×(List Int)):=ZuO (fun neg num ten den t63 t64 t2 t2_1 t2_2 t2_3=>rec_ (neg,num,ten,den,t63,t64,t2,t2_1,t2_2,t2_3)) s.1 s.2.1 s.2.2.1 s.2.2.2.1 s.2.2.2.2.1 s.2.2.2.2.2.1 s.2.2.2.2.2.2.1 s.2.2.2.2.2.2.2.1 s.2.2.2.2.2.2.2.2.1 s.2.2.2.2.2.2.2.2.2
theorem ZAv:∀n s,ZyO (n+1) s=ZwS (ZyO n) s:=fun _ _=>rfl
def ZxY (neg:Bool) (back:Str) (num:(List Int)) (ten:(List Int)) (t2:Bool) (t2_1:Bool) (den:(List Int)) (t2_2:(List Int)) (t2_3:(List Int)):Option (ZnE×Bool):=
 (ZvP big neg num ten den (back.length:Int) (0:Int) t2 t2_1 t2_2 t2_3).bind fun(x0,x1,x2,x3,x4,x5,x6)=>ZxX x0 x1 x2 x3 x4 x5 x6
def ZuP (rec_:Bool→Str→(List Int)→(List Int)→Int→Int→Bool→Bool→(List Int)→(List Int)→(List Int)→(List Int)→Option (Bool×Str×(List Int)×(List Int)×Bool×Bool×(List Int)×(List Int)×(List Int))) (neg:Bool) (back:Str) (num:(List Int)) (ten:(List Int)) (t48:Int) (t49:Int) (t2:Bool) (t2_1:Bool) (den:(List Int)) (t47:(List Int)) (t2_2:(List Int)) (t2_3:(List Int)):Option (Bool×Str×(List Int)×(List Int)×Bool×Bool×(List Int)×(List Int)×(List Int)):=
 bif (decide (t49 < t48))then (
  chk (inR t49 (t47.length:Int)) <|
  (t47[(t49).toNat]?).bind fun d=>
  (ZqG num ten).bind fun q=>
  (Zti (IntKind.wrap .u64 (IntKind.wrap .u8 (d - 48)))).bind fun q_1=>
  (Zsx q q_1).bind fun num_1=>
  chk (inK .i64 (t49+1)) <|
  rec_ neg back num_1 ten t48 (t49+1) t2 t2_1 den t47 t2_2 t2_3
 )else (
  some (neg,back,num,ten,t2,t2_1,den,t2_2,t2_3)
 )
def ZvQ:Nat→Bool→Str→(List Int)→(List Int)→Int→Int→Bool→Bool→(List Int)→(List Int)→(List Int)→(List Int)→Option (Bool×Str×(List Int)×(List Int)×Bool×Bool×(List Int)×(List Int)×(List Int))
 |0,_,_,_,_,_,_,_,_,_,_,_,_=>none
 |n_+1,neg,back,num,ten,t48,t49,t2,t2_1,den,t47,t2_2,t2_3=>ZuP (ZvQ n_) neg back num ten t48 t49 t2 t2_1 den t47 t2_2 t2_3
def ZyP (n:Nat) (s:(Bool×Str×(List Int)×(List Int)×Int×Int×Bool×Bool×(List Int)×(List Int)×(List Int)×(List Int))):Option (Bool×Str×(List Int)×(List Int)×Bool×Bool×(List Int)×(List Int)×(List Int)):=ZvQ n s.1 s.2.1 s.2.2.1 s.2.2.2.1 s.2.2.2.2.1 s.2.2.2.2.2.1 s.2.2.2.2.2.2.1 s.2.2.2.2.2.2.2.1 s.2.2.2.2.2.2.2.2.1 s.2.2.2.2.2.2.2.2.2.1 s.2.2.2.2.2.2.2.2.2.2.1 s.2.2.2.2.2.2.2.2.2.2.2
def ZwT (rec_:(Bool×Str×(List Int)×(List Int)×Int×Int×Bool×Bool×(List Int)×(List Int)×(List Int)×(List Int))→Option (Bool×Str×(List Int)×(List Int)×Bool×Bool×(List Int)×(List Int)×(List Int))) (s:(Bool×Str×(List Int)×(List Int)×Int×Int×Bool×Bool×(List Int)×(List Int)×(List Int)×(List Int))):Option (Bool×Str×(List Int)×(List Int)×Bool×Bool×(List Int)×(List Int)×(List Int)):=ZuP (fun neg back num ten t48 t49 t2 t2_1 den t47 t2_2 t2_3=>rec_ (neg,back,num,ten,t48,t49,t2,t2_1,den,t47,t2_2,t2_3)) s.1 s.2.1 s.2.2.1 s.2.2.2.1 s.2.2.2.2.1 s.2.2.2.2.2.1 s.2.2.2.2.2.2.1 s.2.2.2.2.2.2.2.1 s.2.2.2.2.2.2.2.2.1 s.2.2.2.2.2.2.2.2.2.1 s.2.2.2.2.2.2.2.2.2.2.1 s.2.2.2.2.2.2.2.2.2.2.2
theorem ZAw:∀n s,ZyP (n+1) s=ZwT (ZyP n) s:=fun _ _=>rfl
def ZsA (neg:Bool) (front:Str) (back:Str) (t39:Bool) (t2:Bool) (t2_1:Bool) (t2_2:(List Int)) (t2_3:(List Int)):Option (ZnE×Bool):=
 bif t39 then (
  some ((ZnE.mk (ZnD.mk false ([]:(List Int))) (ZnD.mk false ([]:(List Int)))),false)
 )else (
  (Zpi ([1]:List Int)).bind fun den=>
  chk (decide (front.length+back.length≤Zq)) <|
  chk (decide ((front++back).length≤281474976710656)) <|
  (ZvQ big neg back ([]:(List Int)) ([10]:(List Int)) (((front++back).map fun b=>((b.toNat:Nat):Int)).length:Int) (0:Int) t2 t2_1 den ((front++back).map fun b=>((b.toNat:Nat):Int)) t2_2 t2_3).bind fun(x0,x1,x2,x3,x4,x5,x6,x7,x8)=>ZxY x0 x1 x2 x3 x4 x5 x6 x7 x8
 )
def Zuf (body:Str) (neg:Bool) (t2:Bool) (t2_1:Bool) (t2_2:(List Int)) (t2_3:(List Int)):Option (ZnE×Bool):=
 (Zx5 body ([46]:Str)).bind fun(front,back,point)=>
 (ZuX front 15).bind fun q=>
 bif (!q)then (
  ZsA neg front back true t2 t2_1 t2_2 t2_3
 )else (
  bif point then (
   (ZuX back 9).bind fun q_1=>
   ZsA neg front back (!q_1) t2 t2_1 t2_2 t2_3
  )else (
   ZsA neg front back false t2 t2_1 t2_2 t2_3
  )
 )
def Ztj (text:Str):Option (ZnE×Bool):=
 (Zvb text ([45]:Str)).bind fun(body,neg)=>
 bif (!neg)then (
  (Zuu text ([43]:Str)).bind fun body_1=>
  Zuf body_1 neg false false ([]:(List Int)) ([]:(List Int))
 )else (
  Zuf body neg false false ([]:(List Int)) ([]:(List Int))
 )
def Zxx (s cs:Str):Option Str:=
 chk (cs.all fun b=>decide (b.toNat < 128)) <| chk (decide (cs.length < 4294967281)) <| some (Lib.trimLeftS s cs)
def ZyB (s cs:Str):Option Str:=
 chk (cs.all fun b=>decide (b.toNat < 128)) <| chk (decide (cs.length < 4294967281)) <| some (Lib.trimRightS s cs)
def ZAj (zero:Str):Option Str:=
 some zero
def Zyj (rec_:Str→(List Str)→Int→Int→Option (Out Str Str)) (zero:Str) (t6:(List Str)) (t7:Int) (t8:Int):Option (Out Str Str):=
 bif (decide (t8 < t7))then (
  (idx t6 t8).bind fun val=>
  bif (!(val == zero))then (
   some (.ret val)
  )else (
   chk (inK .i64 (t8+1)) <|
   rec_ zero t6 t7 (t8+1)
  )
 )else (
  some (.brk zero)
 )
def ZvS:Nat→Str→(List Str)→Int→Int→Option (Out Str Str)
 |0,_,_,_,_=>none
 |n_+1,zero,t6,t7,t8=>Zyj (ZvS n_) zero t6 t7 t8
def ZzD (n:Nat) (s:(Str×(List Str)×Int×Int)):Option (Out Str Str):=ZvS n s.1 s.2.1 s.2.2.1 s.2.2.2
def ZzE (rec_:(Str×(List Str)×Int×Int)→Option (Out Str Str)) (s:(Str×(List Str)×Int×Int)):Option (Out Str Str):=Zyj (fun zero t6 t7 t8=>rec_ (zero,t6,t7,t8)) s.1 s.2.1 s.2.2.1 s.2.2.2
theorem ZAW:∀n s,ZzD (n+1) s=ZzE (ZzD n) s:=fun _ _=>rfl
def Zx0 (vals:(List Str)):Option Str:=
 (ZvS big ([]:Str) vals (vals.length:Int) (0:Int)).bind fun
  | .ret q_=>some q_
  | .brk x0=>ZAj x0
def Zxj (out:Str):Option (Str×Bool):=
 some (out,true)
def Zxk (out:Str) (t43:Bool):Option (Str×Bool):=
 bif t43 then (
  chk (decide (([45]:Str).length+out.length≤Zq)) <|
  Zxj (([45]:Str)++out)
 )else (
  Zxj out
 )
def ZsP (t:Str) (out:Str):Option (Str×Bool):=
 (idx t 0).bind fun c=>
 bif (((c.toNat:Nat):Int) == 45)then (
  Zxk out (!(out == ([48]:Str)))
 )else (
  Zxk out false
 )
def Zwt (t:Str):Option (Str×Bool):=
 (Ztj t).bind fun(q,ok)=>
 bif (!ok)then (
  some (([]:Str),false)
 )else (
  (Zxx t ([43,45]:Str)).bind fun q_1=>
  (Zx5 q_1 ([46]:Str)).bind fun(front,back,q_2)=>
  (Zxx front ([48]:Str)).bind fun front_1=>
  (ZyB back ([48]:Str)).bind fun back_1=>
  (Zx0 ([front_1,([48]:Str)]:(List Str))).bind fun out=>
  bif (!(back_1 == ([]:Str)))then (
   chk (decide (([46]:Str).length+back_1.length≤Zq)) <|
   chk (decide (out.length+(([46]:Str)++back_1).length≤Zq)) <|
   ZsP t (out++(([46]:Str)++back_1))
  )else (
   ZsP t out
  )
 )
def ZuR (n:Int) (s:Str):Option (Str×Bool):=
 (ZzH).bind fun q=>
 bif (!(Zg3 (k:=(.int .i64)) (v:=(.st 6)) (car:=ZyW) q n).isSome)then (
  some (([]:Str),false)
 )else (
  bif (Option.isNone (((Zg3 (k:=(.int .i64)) (v:=(.st 6)) (car:=ZyW) q n).getD (ZpW.mk ([]:Str) (none:Option Nat) (none:Option Nat))).canonical))then (
   some (s,true)
  )else (
   (ZyX s).bind fun q_1=>
   chk (decide (((Zg3 (k:=(.int .i64)) (v:=(.st 6)) (car:=ZyW) q n).getD (ZpW.mk ([]:Str) (none:Option Nat) (none:Option Nat))).canonical=some 242)) <|
   (Zwt q_1).bind fun(q_2,q_3)=>
   some (q_2,q_3)
  )
 )
def ZyG (n:Int) (s:Str):Option (ZnE×Bool):=
 (ZuR n s).bind fun(t,ok)=>
 bif (!ok)then (
  some ((ZnE.mk (ZnD.mk false ([]:(List Int))) (ZnD.mk false ([]:(List Int)))),false)
 )else (
  (ZzH).bind fun q=>
  chk (decide (((Zg3 (k:=(.int .i64)) (v:=(.st 6)) (car:=ZyW) q n).getD (ZpW.mk ([]:Str) (none:Option Nat) (none:Option Nat))).value=some 241)) <|
  (Ztj t).bind fun(q_1,q_2)=>
  some (q_1,q_2)
 )
def Zz0 (c:G_api_Cell):Option (ZnE×Bool):=
 bif c.Null then (
  (ZzT).bind fun q=>
  some (q,false)
 )else (
  (ZyG 4 c.Text).bind fun(q_1,q_2)=>
  some (q_1,q_2)
 )
def Zzx (h_:Int):Option Int:=
 some h_
def Zxz (rec_:Str→Int→Int→Int→Option Int) (s:Str) (h_:Int) (t6:Int) (i:Int):Option Int:=
 bif (decide (i < t6))then (
  (idx s i).bind fun c=>
  chk (inK .i64 (i+1)) <|
  rec_ s (IntKind.wrap .u64 ((xorK .u64 h_ (IntKind.wrap .u64 ((c.toNat:Nat):Int)))*1099511628211)) t6 (i+1)
 )else (
  some h_
 )
def Zyz:Nat→Str→Int→Int→Int→Option Int
 |0,_,_,_,_=>none
 |n_+1,s,h_,t6,i=>Zxz (Zyz n_) s h_ t6 i
def ZAh (n:Nat) (s:(Str×Int×Int×Int)):Option Int:=Zyz n s.1 s.2.1 s.2.2.1 s.2.2.2
def ZyJ (rec_:(Str×Int×Int×Int)→Option Int) (s:(Str×Int×Int×Int)):Option Int:=Zxz (fun s h_ t6 i=>rec_ (s,h_,t6,i)) s.1 s.2.1 s.2.2.1 s.2.2.2
theorem ZBj:∀n s,ZAh (n+1) s=ZyJ (ZAh n) s:=fun _ _=>rfl
def ZvL (s:Str):Option Int:=
 (Zyz big s (14695981039346656037:Int) (s.length:Int) (0:Int)).bind fun x0=>Zzx x0
def ZtR (t2:Bool):Option Bool:=
 some t2
def Zut (f:ZnE):Option Bool:=
 (ZwE ([f.Num,f.Den]:(List ZnD))).bind fun q=>
 bif q then (
  bif (decide ((f.Den.Words.length:Int) > 0))then (
   bif (!f.Den.Neg)then (
    (Zrr f.Num.Words f.Den.Words).bind fun q_1=>
    (Zpr q_1 ([1]:List Int)).bind fun q_2=>
    ZtR (q_2 == 0)
   )else (
    ZtR false
   )
  )else (
   ZtR false
  )
 )else (
  ZtR false
 )
def Zp7 (a:ZnD) (b:ZnD):Option ZnD:=
 (ZqG a.Words b.Words).bind fun q=>
 (ZoW (!(a.Neg == b.Neg)) q).bind fun q_1=>
 some q_1
def Zwg (out:(List Int)):Option (List Int):=
 (ZoD out).bind fun q=>
 some q
def Zte (rec_:(List Int)→(List Int)→Int→Int→Int→(List Int)→Option (List Int)) (w_:(List Int)) (v_:(List Int)) (borrow:Int) (t12:Int) (i:Int) (out:(List Int)):Option (List Int):=
 bif (decide (i < t12))then (
  (idx w_ i).bind fun w__e=>
  (Zsn v_ i).bind fun q=>
  (ZtP w__e q borrow).bind fun(q_1,borrow_1)=>
  chk (inR i (out.length:Int)) <|
  chk (inK .i64 (i+1)) <|
  rec_ w_ v_ borrow_1 t12 (i+1) (out.set ((i).toNat) q_1)
 )else (
  some out
 )
def Zub:Nat→(List Int)→(List Int)→Int→Int→Int→(List Int)→Option (List Int)
 |0,_,_,_,_,_,_=>none
 |n_+1,w_,v_,borrow,t12,i,out=>Zte (Zub n_) w_ v_ borrow t12 i out
def ZxQ (n:Nat) (s:((List Int)×(List Int)×Int×Int×Int×(List Int))):Option (List Int):=Zub n s.1 s.2.1 s.2.2.1 s.2.2.2.1 s.2.2.2.2.1 s.2.2.2.2.2
def Zvi (rec_:((List Int)×(List Int)×Int×Int×Int×(List Int))→Option (List Int)) (s:((List Int)×(List Int)×Int×Int×Int×(List Int))):Option (List Int):=Zte (fun w_ v_ borrow t12 i out=>rec_ (w_,v_,borrow,t12,i,out)) s.1 s.2.1 s.2.2.1 s.2.2.2.1 s.2.2.2.2.1 s.2.2.2.2.2
theorem ZzS:∀n s,ZxQ (n+1) s=Zvi (ZxQ n) s:=fun _ _=>rfl
def ZrK (w_:(List Int)) (v_:(List Int)):Option (List Int):=
 chk (mkOk (w_.length:Int) (w_.length:Int) 4) <|
 (Zub big w_ v_ (0:Int) (w_.length:Int) (0:Int) (List.replicate ((w_.length:Int)).toNat (0:Int))).bind fun x0=>Zwg x0
def Zxe (a:ZnD) (b:ZnD):Option ZnD:=
 bif (a.Neg == b.Neg)then (
  (Zsx a.Words b.Words).bind fun q=>
  (ZoW a.Neg q).bind fun q_1=>
  some q_1
 )else (
  (Zpr a.Words b.Words).bind fun q_2=>
  bif (decide (q_2≥0))then (
   (ZrK a.Words b.Words).bind fun q_3=>
   (ZoW a.Neg q_3).bind fun q_4=>
   some q_4
  )else (
   (ZrK b.Words a.Words).bind fun q_5=>
   (ZoW b.Neg q_5).bind fun q_6=>
   some q_6
  )
 )
def ZyM (a:ZnE) (b:ZnE):Option (ZnD×ZnD):=
 (Zp7 a.Num b.Den).bind fun q=>
 (Zp7 b.Num a.Den).bind fun q_1=>
 (Zxe q q_1).bind fun num=>
 (Zp7 a.Den b.Den).bind fun den=>
 some (num,den)
def ZrG (t18:Bool) (a:ZnE) (b:ZnE) (t6:Bool) (t6_1:Bool) (t6_2:(List Int)) (t6_3:(List Int)):Option (ZnE×Int):=
 bif t18 then (
  some ((ZnE.mk (ZnD.mk false ([]:(List Int))) (ZnD.mk false ([]:(List Int)))),1)
 )else (
  (ZyM a b).bind fun(num,den)=>
  bif ((den.Words.length:Int) == 0)then (
   some ((ZnE.mk (ZnD.mk false ([]:(List Int))) (ZnD.mk false ([]:(List Int)))),8)
  )else (
   (ZrF num den).bind fun f=>
   bif (decide ((if (f.Den.Words.length:Int) > (f.Num.Words.length:Int)then (f.Den.Words.length:Int)else (f.Num.Words.length:Int)) > 256))then (
    some ((ZnE.mk (ZnD.mk false ([]:(List Int))) (ZnD.mk false ([]:(List Int)))),3)
   )else (
    some (f,0)
   )
  )
 )
def Zth (a:ZnE) (b:ZnE):Option (ZnE×Int):=
 (Zut a).bind fun q=>
 bif (!q)then (
  ZrG true a b false false ([]:(List Int)) ([]:(List Int))
 )else (
  (Zut b).bind fun q_1=>
  ZrG (!q_1) a b false false ([]:(List Int)) ([]:(List Int))
 )
def Zyw (a:ZnE) (b:ZnE):Option (ZnE×Int):=
 (Zth a b).bind fun(q,q_1)=>
 some (q,q_1)
def ZAE (f:ZnE) (a1:Int):Option ZnE:=
 some f
def ZAU (a:ZnE) (b:ZnE):Option ZnE:=
 (Zyw a b).bind fun(q,q_1)=>
 (ZAE q q_1).bind fun q_2=>
 some q_2
def Zyf (x_:Int) (n:Int):Option Int:=
 (idx ([0,1,2,2,3,3,3,3,4,4,4,4,4,4,4,4,5,5,5,5,5,5,5,5,5,5,5,5,5,5,5,5,6,6,6,6,6,6,6,6,6,6,6,6,6,6,6,6,6,6,6,6,6,6,6,6,6,6,6,6,6,6,6,6,7,7,7,7,7,7,7,7,7,7,7,7,7,7,7,7,7,7,7,7,7,7,7,7,7,7,7,7,7,7,7,7,7,7,7,7,7,7,7,7,7,7,7,7,7,7,7,7,7,7,7,7,7,7,7,7,7,7,7,7,7,7,7,7,8,8,8,8,8,8,8,8,8,8,8,8,8,8,8,8,8,8,8,8,8,8,8,8,8,8,8,8,8,8,8,8,8,8,8,8,8,8,8,8,8,8,8,8,8,8,8,8,8,8,8,8,8,8,8,8,8,8,8,8,8,8,8,8,8,8,8,8,8,8,8,8,8,8,8,8,8,8,8,8,8,8,8,8,8,8,8,8,8,8,8,8,8,8,8,8,8,8,8,8,8,8,8,8,8,8,8,8,8,8,8,8,8,8,8,8,8,8,8,8,8,8,8,8,8,8,8,8]:Str) (IntKind.wrap .u8 x_)).bind fun c=>
 chk (inK .i64 (n+(IntKind.wrap .i64 ((c.toNat:Nat):Int)))) <|
 some (n+(IntKind.wrap .i64 ((c.toNat:Nat):Int)))
def Zyg (x_:Int) (n:Int):Option Int:=
 bif (decide (x_≥256))then (
  chk (decide (0≤(8:Int))) <|
  chk (inK .i64 (n+8)) <|
  Zyf (shrK .u64 x_ 8) (n+8)
 )else (
  Zyf x_ n
 )
def Zyh (x_:Int) (n:Int):Option Int:=
 bif (decide (x_≥65536))then (
  chk (decide (0≤(16:Int))) <|
  chk (inK .i64 (n+16)) <|
  Zyg (shrK .u64 x_ 16) (n+16)
 )else (
  Zyg x_ n
 )
def Zy1 (x_:Int):Option Int:=
 bif (decide (x_≥4294967296))then (
  chk (decide (0≤(32:Int))) <|
  Zyh (shrK .u64 x_ 32) (32:Int)
 )else (
  Zyh x_ (0:Int)
 )
def ZxM (x_:Int):Option Int:=
 (Zy1 x_).bind fun q=>
 some q
def ZvR (x_:Int):Option Bool:=
 some (x_ != x_)
def Zwp (x_:Int) (y:Int):Option Int:=
 (ZvR x_).bind fun xNaN=>
 (ZvR y).bind fun yNaN=>
 bif xNaN then (
  bif yNaN then (
   some (0:Int)
  )else (
   some (-1:Int)
  )
 )else (
  bif yNaN then (
   some (1:Int)
  )else (
   bif (decide (x_ < y))then (
    some (-1:Int)
   )else (
    bif (decide (x_ > y))then (
     some (1:Int)
    )else (
     some (0:Int)
    )
   )
  )
 )
def ZqY (a b:Str):Option Int:=
 some (Lib.compareBytes a b)
def Zx6 (a:Str) (b:Str):Option Int:=
 (ZqY a b).bind fun q=>
 some q
def Zz4 (zero:Int):Option Int:=
 some zero
def ZtT (rec_:Int→(List Int)→Int→Int→Option (Out Int Int)) (zero:Int) (t6:(List Int)) (t7:Int) (t8:Int):Option (Out Int Int):=
 bif (decide (t8 < t7))then (
  (idx t6 t8).bind fun val=>
  bif (val != zero)then (
   some (.ret val)
  )else (
   chk (inK .i64 (t8+1)) <|
   rec_ zero t6 t7 (t8+1)
  )
 )else (
  some (.brk zero)
 )
def Zx1:Nat→Int→(List Int)→Int→Int→Option (Out Int Int)
 |0,_,_,_,_=>none
 |n_+1,zero,t6,t7,t8=>ZtT (Zx1 n_) zero t6 t7 t8
def Zzi (vals:(List Int)):Option Int:=
 (Zx1 big (0:Int) vals (vals.length:Int) (0:Int)).bind fun
  | .ret q_=>some q_
  | .brk x0=>Zz4 x0
def ZoH (a:ZnA) (b:ZnA):Option Int:=
 (Zwp a.Hash b.Hash).bind fun q=>
 (Zx6 a.Key b.Key).bind fun q_1=>
 (Zzi ([q,q_1]:(List Int))).bind fun q_2=>
 some q_2
def ZpF (data:(List ZnA)):Option (List ZnA):=
 some data
def ZpG (rec_:Int→Int→Int→(List ZnA)→Option (List ZnA)) (a:Int) (b:Int) (i:Int) (data:(List ZnA)):Option (List ZnA):=
 chk (inK .i64 (i+1)) <|
 rec_ a b (i+1) data
def ZoC (rec_:Int→Int→Int→Int→(List ZnA)→Option (Int×Int×Int×(List ZnA))) (a:Int) (b:Int) (i:Int) (j:Int) (t34:Bool) (data:(List ZnA)):Option (Int×Int×Int×(List ZnA)):=
 bif t34 then (
  chk (inK .i64 (j - 1)) <|
  chk (inK .i64 (j - 1)) <|
  chk (inR (j - 1) (data.length:Int)) <|
  (data[((j - 1)).toNat]?).bind fun data_e=>
  chk (inR j (data.length:Int)) <|
  (data[(j).toNat]?).bind fun data_e_1=>
  chk (inR j (data.length:Int)) <|
  chk (inR (j - 1) ((data.set ((j).toNat) data_e).length:Int)) <|
  chk (inK .i64 (j - 1)) <|
  rec_ a b i (j - 1) ((data.set ((j).toNat) data_e).set (((j - 1)).toNat) data_e_1)
 )else (
  some (a,b,i,data)
 )
def Zps (rec_:Int→Int→Int→Int→(List ZnA)→Option (Int×Int×Int×(List ZnA))) (a:Int) (b:Int) (i:Int) (j:Int) (data:(List ZnA)):Option (Int×Int×Int×(List ZnA)):=
 bif (decide (j > a))then (
  chk (inR j (data.length:Int)) <|
  (data[(j).toNat]?).bind fun data_e=>
  chk (inK .i64 (j - 1)) <|
  chk (inR (j - 1) (data.length:Int)) <|
  (data[((j - 1)).toNat]?).bind fun data_e_1=>
  (ZoH data_e data_e_1).bind fun q=>
  ZoC rec_ a b i j (decide (q < 0)) data
 )else (
  ZoC rec_ a b i j false data
 )
def ZnV:Nat→Int→Int→Int→Int→(List ZnA)→Option (Int×Int×Int×(List ZnA))
 |0,_,_,_,_,_=>none
 |n_+1,a,b,i,j,data=>Zps (ZnV n_) a b i j data
def Zre (n:Nat) (s:(Int×Int×Int×Int×(List ZnA))):Option (Int×Int×Int×(List ZnA)):=ZnV n s.1 s.2.1 s.2.2.1 s.2.2.2.1 s.2.2.2.2
def Zrf (rec_:(Int×Int×Int×Int×(List ZnA))→Option (Int×Int×Int×(List ZnA))) (s:(Int×Int×Int×Int×(List ZnA))):Option (Int×Int×Int×(List ZnA)):=Zps (fun a b i j data=>rec_ (a,b,i,j,data)) s.1 s.2.1 s.2.2.1 s.2.2.2.1 s.2.2.2.2
theorem Zvc:∀n s,Zre (n+1) s=Zrf (Zre n) s:=fun _ _=>rfl
def Zn4 (rec_:Int→Int→Int→(List ZnA)→Option (List ZnA)) (a:Int) (b:Int) (i:Int) (data:(List ZnA)):Option (List ZnA):=
 bif (decide (i < b))then (
  (ZnV big a b i i data).bind fun(x0,x1,x2,x3)=>ZpG rec_ x0 x1 x2 x3
 )else (
  some data
 )
def Zoa:Nat→Int→Int→Int→(List ZnA)→Option (List ZnA)
 |0,_,_,_,_=>none
 |n_+1,a,b,i,data=>Zn4 (Zoa n_) a b i data
def ZoT (data:(List ZnA)) (a:Int) (b:Int):Option (List ZnA):=
 chk (inK .i64 (a+1)) <|
 (Zoa big a b (a+1) data).bind fun x0=>ZpF x0
def Zof (data:(List ZnA)) (a:Int) (b:Int):Option (List ZnA):=
 (ZoT data a b).bind fun r=>chk (decide (r.length=data.length)&&true) (some r)
def Zqv (data:(List ZnA)):Option (List ZnA):=
 some data
def Zou (rec_:Int→Int→Int→(List ZnA)→Option (Out (List ZnA) (List ZnA))) (hi:Int) (first:Int) (root:Int) (child:Int) (data:(List ZnA)):Option (Out (List ZnA) (List ZnA)):=
 chk (inK .i64 (first+root)) <|
 chk (inR (first+root) (data.length:Int)) <|
 (data[((first+root)).toNat]?).bind fun data_e=>
 chk (inK .i64 (first+child)) <|
 chk (inR (first+child) (data.length:Int)) <|
 (data[((first+child)).toNat]?).bind fun data_e_1=>
 (ZoH data_e data_e_1).bind fun q=>
 bif (!(decide (q < 0)))then (
  some (.ret data)
 )else (
  chk (inK .i64 (first+root)) <|
  chk (inK .i64 (first+child)) <|
  chk (inK .i64 (first+child)) <|
  chk (inR (first+child) (data.length:Int)) <|
  (data[((first+child)).toNat]?).bind fun data_e_2=>
  chk (inK .i64 (first+root)) <|
  chk (inR (first+root) (data.length:Int)) <|
  (data[((first+root)).toNat]?).bind fun data_e_3=>
  chk (inR (first+root) (data.length:Int)) <|
  chk (inR (first+child) ((data.set (((first+root)).toNat) data_e_2).length:Int)) <|
  rec_ hi first child ((data.set (((first+root)).toNat) data_e_2).set (((first+child)).toNat) data_e_3)
 )
def Zpa (rec_:Int→Int→Int→(List ZnA)→Option (Out (List ZnA) (List ZnA))) (hi:Int) (first:Int) (root:Int) (child:Int) (t40:Bool) (data:(List ZnA)):Option (Out (List ZnA) (List ZnA)):=
 bif t40 then (
  chk (inK .i64 (child+1)) <|
  Zou rec_ hi first root (child+1) data
 )else (
  Zou rec_ hi first root child data
 )
def Zoo (rec_:Int→Int→Int→(List ZnA)→Option (Out (List ZnA) (List ZnA))) (hi:Int) (first:Int) (root:Int) (data:(List ZnA)):Option (Out (List ZnA) (List ZnA)):=
 chk (inK .i64 (2*root)) <|
 chk (inK .i64 ((2*root)+1)) <|
 bif (decide (((2*root)+1)≥hi))then (
  some (.brk data)
 )else (
  chk (inK .i64 (((2*root)+1)+1)) <|
  bif (decide ((((2*root)+1)+1) < hi))then (
   chk (inK .i64 (first+((2*root)+1))) <|
   chk (inR (first+((2*root)+1)) (data.length:Int)) <|
   (data[((first+((2*root)+1))).toNat]?).bind fun data_e=>
   chk (inK .i64 (first+((2*root)+1))) <|
   chk (inK .i64 ((first+((2*root)+1))+1)) <|
   chk (inR ((first+((2*root)+1))+1) (data.length:Int)) <|
   (data[(((first+((2*root)+1))+1)).toNat]?).bind fun data_e_1=>
   (ZoH data_e data_e_1).bind fun q=>
   Zpa rec_ hi first root ((2*root)+1) (decide (q < 0)) data
  )else (
   Zpa rec_ hi first root ((2*root)+1) false data
  )
 )
def Zn5:Nat→Int→Int→Int→(List ZnA)→Option (Out (List ZnA) (List ZnA))
 |0,_,_,_,_=>none
 |n_+1,hi,first,root,data=>Zoo (Zn5 n_) hi first root data
def Zsr (n:Nat) (s:(Int×Int×Int×(List ZnA))):Option (Out (List ZnA) (List ZnA)):=Zn5 n s.1 s.2.1 s.2.2.1 s.2.2.2
def Zss (rec_:(Int×Int×Int×(List ZnA))→Option (Out (List ZnA) (List ZnA))) (s:(Int×Int×Int×(List ZnA))):Option (Out (List ZnA) (List ZnA)):=Zoo (fun hi first root data=>rec_ (hi,first,root,data)) s.1 s.2.1 s.2.2.1 s.2.2.2
theorem Zwi:∀n s,Zsr (n+1) s=Zss (Zsr n) s:=fun _ _=>rfl
def Zpu (data:(List ZnA)) (lo:Int) (hi:Int) (first:Int):Option (List ZnA):=
 (Zn5 big hi first lo data).bind fun
  | .ret q_=>some q_
  | .brk x0=>Zqv x0
def Zn8 (data:(List ZnA)) (lo:Int) (hi:Int) (first:Int):Option (List ZnA):=
 (Zpu data lo hi first).bind fun r=>chk (decide (r.length=data.length)&&true) (some r)
def Zqw (data:(List ZnA)):Option (List ZnA):=
 some data
def Zp4 (rec_:Int→Int→Int→(List ZnA)→Option (List ZnA)) (first:Int) (lo:Int) (i:Int) (data:(List ZnA)):Option (List ZnA):=
 bif (decide (i≥0))then (
  chk (inK .i64 (first+i)) <|
  chk (inK .i64 (first+i)) <|
  chk (inR (first+i) (data.length:Int)) <|
  (data[((first+i)).toNat]?).bind fun data_e=>
  chk (inR first (data.length:Int)) <|
  (data[(first).toNat]?).bind fun data_e_1=>
  chk (inR first (data.length:Int)) <|
  chk (inR (first+i) ((data.set ((first).toNat) data_e).length:Int)) <|
  (Zn8 ((data.set ((first).toNat) data_e).set (((first+i)).toNat) data_e_1) lo i first).bind fun t54=>
  chk (inK .i64 (i - 1)) <|
  rec_ first lo (i - 1) t54
 )else (
  some data
 )
def Zpc:Nat→Int→Int→Int→(List ZnA)→Option (List ZnA)
 |0,_,_,_,_=>none
 |n_+1,first,lo,i,data=>Zp4 (Zpc n_) first lo i data
def Zst (n:Nat) (s:(Int×Int×Int×(List ZnA))):Option (List ZnA):=Zpc n s.1 s.2.1 s.2.2.1 s.2.2.2
def Zsu (rec_:(Int×Int×Int×(List ZnA))→Option (List ZnA)) (s:(Int×Int×Int×(List ZnA))):Option (List ZnA):=Zp4 (fun first lo i data=>rec_ (first,lo,i,data)) s.1 s.2.1 s.2.2.1 s.2.2.2
theorem Zwj:∀n s,Zst (n+1) s=Zsu (Zst n) s:=fun _ _=>rfl
def Zqx (first:Int) (lo:Int) (hi:Int) (data:(List ZnA)):Option (List ZnA):=
 chk (inK .i64 (hi - 1)) <|
 (Zpc big first lo (hi - 1) data).bind fun x0=>Zqw x0
def Zp5 (rec_:Int→Int→Int→Int→(List ZnA)→Option (Int×Int×Int×(List ZnA))) (first:Int) (lo:Int) (hi:Int) (i:Int) (data:(List ZnA)):Option (Int×Int×Int×(List ZnA)):=
 bif (decide (i≥0))then (
  (Zn8 data i hi first).bind fun t24=>
  chk (inK .i64 (i - 1)) <|
  rec_ first lo hi (i - 1) t24
 )else (
  some (first,lo,hi,data)
 )
def Zpd:Nat→Int→Int→Int→Int→(List ZnA)→Option (Int×Int×Int×(List ZnA))
 |0,_,_,_,_,_=>none
 |n_+1,first,lo,hi,i,data=>Zp5 (Zpd n_) first lo hi i data
def Zsv (n:Nat) (s:(Int×Int×Int×Int×(List ZnA))):Option (Int×Int×Int×(List ZnA)):=Zpd n s.1 s.2.1 s.2.2.1 s.2.2.2.1 s.2.2.2.2
def Zsw (rec_:(Int×Int×Int×Int×(List ZnA))→Option (Int×Int×Int×(List ZnA))) (s:(Int×Int×Int×Int×(List ZnA))):Option (Int×Int×Int×(List ZnA)):=Zp5 (fun first lo hi i data=>rec_ (first,lo,hi,i,data)) s.1 s.2.1 s.2.2.1 s.2.2.2.1 s.2.2.2.2
theorem Zwk:∀n s,Zsv (n+1) s=Zsw (Zsv n) s:=fun _ _=>rfl
def Zpv (data:(List ZnA)) (a:Int) (b:Int):Option (List ZnA):=
 chk (inK .i64 (b - a)) <|
 chk (inK .i64 ((b - a) - 1)) <|
 chk (decide ((2:Int)≠0)) <|
 chk (inK .i64 (Int.tdiv ((b - a) - 1) 2)) <|
 (Zpd big a (0:Int) (b - a) (Int.tdiv ((b - a) - 1) 2) data).bind fun(x0,x1,x2,x3)=>Zqx x0 x1 x2 x3
def Zpj (data:(List ZnA)) (a:Int) (b:Int):Option (List ZnA):=
 (Zpv data a b).bind fun r=>chk (decide (r.length=data.length)&&true) (some r)
def Zs9 (length:Int):Option Int:=
 (ZxM (IntKind.wrap .u64 length)).bind fun q=>
 chk (decide (0≤q)) <|
 some (shlK .u64 1 q)
def ZtG (r_:Int):Option (Int×Int):=
 chk (decide (0≤(13:Int))) <|
 chk (decide (0≤(7:Int))) <|
 chk (decide (0≤(17:Int))) <|
 some ((xorK .u64 (xorK .u64 (xorK .u64 r_ (shlK .u64 r_ 13)) (shrK .u64 (xorK .u64 r_ (shlK .u64 r_ 13)) 7)) (shlK .u64 (xorK .u64 (xorK .u64 r_ (shlK .u64 r_ 13)) (shrK .u64 (xorK .u64 r_ (shlK .u64 r_ 13)) 7)) 17)),(xorK .u64 (xorK .u64 (xorK .u64 r_ (shlK .u64 r_ 13)) (shrK .u64 (xorK .u64 r_ (shlK .u64 r_ 13)) 7)) (shlK .u64 (xorK .u64 (xorK .u64 r_ (shlK .u64 r_ 13)) (shrK .u64 (xorK .u64 r_ (shlK .u64 r_ 13)) 7)) 17)))
def ZpH (data:(List ZnA)):Option (List ZnA):=
 some data
def Zoc (rec_:Int→Int→Int→Int→(List ZnA)→Int→Option (List ZnA)) (a:Int) (length:Int) (modulus:Int) (idx_:Int) (other:Int) (data:(List ZnA)) (random:Int):Option (List ZnA):=
 chk (inK .i64 (a+other)) <|
 chk (inK .i64 (a+other)) <|
 chk (inR (a+other) (data.length:Int)) <|
 (data[((a+other)).toNat]?).bind fun data_e=>
 chk (inR idx_ (data.length:Int)) <|
 (data[(idx_).toNat]?).bind fun data_e_1=>
 chk (inR idx_ (data.length:Int)) <|
 chk (inR (a+other) ((data.set ((idx_).toNat) data_e).length:Int)) <|
 chk (inK .i64 (idx_+1)) <|
 rec_ a length modulus (idx_+1) ((data.set ((idx_).toNat) data_e).set (((a+other)).toNat) data_e_1) random
def Zpt (rec_:Int→Int→Int→Int→(List ZnA)→Int→Option (List ZnA)) (a:Int) (length:Int) (modulus:Int) (idx_:Int) (data:(List ZnA)) (random:Int):Option (List ZnA):=
 chk (decide ((4:Int)≠0)) <|
 chk (inK .i64 (Int.tdiv length 4)) <|
 chk (inK .i64 ((Int.tdiv length 4)*2)) <|
 chk (inK .i64 (a+((Int.tdiv length 4)*2))) <|
 chk (inK .i64 ((a+((Int.tdiv length 4)*2))+1)) <|
 bif (decide (idx_≤((a+((Int.tdiv length 4)*2))+1)))then (
  (ZtG random).bind fun(q,random_1)=>
  bif (decide ((IntKind.wrap .i64 (andK .u64 q (IntKind.wrap .u64 (modulus - 1))))≥length))then (
   chk (inK .i64 ((IntKind.wrap .i64 (andK .u64 q (IntKind.wrap .u64 (modulus - 1)))) - length)) <|
   Zoc rec_ a length modulus idx_ ((IntKind.wrap .i64 (andK .u64 q (IntKind.wrap .u64 (modulus - 1)))) - length) data random_1
  )else (
   Zoc rec_ a length modulus idx_ (IntKind.wrap .i64 (andK .u64 q (IntKind.wrap .u64 (modulus - 1)))) data random_1
  )
 )else (
  some data
 )
def Zob:Nat→Int→Int→Int→Int→(List ZnA)→Int→Option (List ZnA)
 |0,_,_,_,_,_,_=>none
 |n_+1,a,length,modulus,idx_,data,random=>Zpt (Zob n_) a length modulus idx_ data random
def Zrg (n:Nat) (s:(Int×Int×Int×Int×(List ZnA)×Int)):Option (List ZnA):=Zob n s.1 s.2.1 s.2.2.1 s.2.2.2.1 s.2.2.2.2.1 s.2.2.2.2.2
def Zrh (rec_:(Int×Int×Int×Int×(List ZnA)×Int)→Option (List ZnA)) (s:(Int×Int×Int×Int×(List ZnA)×Int)):Option (List ZnA):=Zpt (fun a length modulus idx_ data random=>rec_ (a,length,modulus,idx_,data,random)) s.1 s.2.1 s.2.2.1 s.2.2.2.1 s.2.2.2.2.1 s.2.2.2.2.2
theorem Zvd:∀n s,Zrg (n+1) s=Zrh (Zrg n) s:=fun _ _=>rfl
def ZoV (data:(List ZnA)) (a:Int) (b:Int):Option (List ZnA):=
 chk (inK .i64 (b - a)) <|
 bif (decide ((b - a)≥8))then (
  (Zs9 (b - a)).bind fun modulus=>
  chk (decide ((4:Int)≠0)) <|
  chk (inK .i64 (Int.tdiv (b - a) 4)) <|
  chk (inK .i64 ((Int.tdiv (b - a) 4)*2)) <|
  chk (inK .i64 (a+((Int.tdiv (b - a) 4)*2))) <|
  chk (inK .i64 ((a+((Int.tdiv (b - a) 4)*2)) - 1)) <|
  (Zob big a (b - a) modulus ((a+((Int.tdiv (b - a) 4)*2)) - 1) data (IntKind.wrap .u64 (b - a))).bind fun x0=>ZpH x0
 )else (
  some data
 )
def ZoG (data:(List ZnA)) (a:Int) (b:Int):Option (List ZnA):=
 (ZoV data a b).bind fun r=>chk (decide (r.length=data.length)&&true) (some r)
def Zro (data:(List ZnA)) (a:Int) (b:Int) (swaps:Int):Option (Int×Int×(List ZnA)×Int):=
 chk (inR b (data.length:Int)) <|
 (data[(b).toNat]?).bind fun data_e=>
 chk (inR a (data.length:Int)) <|
 (data[(a).toNat]?).bind fun data_e_1=>
 (ZoH data_e data_e_1).bind fun q=>
 bif (decide (q < 0))then (
  chk (inK .i64 (swaps+1)) <|
  some (b,a,data,(swaps+1))
 )else (
  some (a,b,data,swaps)
 )
def Zoi (data:(List ZnA)) (a:Int) (b:Int) (swaps:Int):Option (Int×Int×(List ZnA)×Int):=
 (Zro data a b swaps).bind fun r=>chk (decide (r.2.2.1.length=data.length)&&true) (some r)
def Zrp (data:(List ZnA)) (a:Int) (b:Int) (c:Int) (swaps:Int):Option (Int×(List ZnA)×Int):=
 (Zoi data a b swaps).bind fun(a_1,b_1,t14,t17)=>
 (Zoi t14 b_1 c t17).bind fun(b_2,c_1,t23,t26)=>
 (Zoi t23 a_1 b_2 t26).bind fun(a_2,b_3,t32,t35)=>
 some (b_3,t32,t35)
def ZoE (data:(List ZnA)) (a:Int) (b:Int) (c:Int) (swaps:Int):Option (Int×(List ZnA)×Int):=
 (Zrp data a b c swaps).bind fun r=>chk (decide (r.2.1.length=data.length)&&true) (some r)
def ZpR (data:(List ZnA)) (a:Int) (swaps:Int):Option (Int×(List ZnA)×Int):=
 chk (inK .i64 (a - 1)) <|
 chk (inK .i64 (a+1)) <|
 (ZoE data (a - 1) a (a+1) swaps).bind fun(q,t9,t15)=>
 some (q,t9,t15)
def ZnU (data:(List ZnA)) (a:Int) (swaps:Int):Option (Int×(List ZnA)×Int):=
 (ZpR data a swaps).bind fun r=>chk (decide (r.2.1.length=data.length)&&true) (some r)
def Zoj (j:Int) (data:(List ZnA)) (swaps:Int):Option (Int×Int×(List ZnA)):=
 bif (swaps == 0)then (
  some (j,1,data)
 )else (
  bif (swaps == 12)then (
   some (j,2,data)
  )else (
   some (j,0,data)
  )
 )
def Zok (i:Int) (j:Int) (k:Int) (data:(List ZnA)) (swaps:Int):Option (Int×Int×(List ZnA)):=
 (ZoE data i j k swaps).bind fun(j_1,t49,swaps_1)=>
 Zoj j_1 t49 swaps_1
def Zpe (data:(List ZnA)) (a:Int) (b:Int):Option (Int×Int×(List ZnA)):=
 chk (inK .i64 (b - a)) <|
 chk (decide ((4:Int)≠0)) <|
 chk (inK .i64 (Int.tdiv (b - a) 4)) <|
 chk (inK .i64 ((Int.tdiv (b - a) 4)*1)) <|
 chk (inK .i64 (a+((Int.tdiv (b - a) 4)*1))) <|
 chk (decide ((4:Int)≠0)) <|
 chk (inK .i64 (Int.tdiv (b - a) 4)) <|
 chk (inK .i64 ((Int.tdiv (b - a) 4)*2)) <|
 chk (inK .i64 (a+((Int.tdiv (b - a) 4)*2))) <|
 chk (decide ((4:Int)≠0)) <|
 chk (inK .i64 (Int.tdiv (b - a) 4)) <|
 chk (inK .i64 ((Int.tdiv (b - a) 4)*3)) <|
 chk (inK .i64 (a+((Int.tdiv (b - a) 4)*3))) <|
 bif (decide ((b - a)≥8))then (
  bif (decide ((b - a)≥50))then (
   (ZnU data (a+((Int.tdiv (b - a) 4)*1)) 0).bind fun(i,t37,swaps)=>
   (ZnU t37 (a+((Int.tdiv (b - a) 4)*2)) swaps).bind fun(j,t41,swaps_1)=>
   (ZnU t41 (a+((Int.tdiv (b - a) 4)*3)) swaps_1).bind fun(k,t45,swaps_2)=>
   Zok i j k t45 swaps_2
  )else (
   Zok (a+((Int.tdiv (b - a) 4)*1)) (a+((Int.tdiv (b - a) 4)*2)) (a+((Int.tdiv (b - a) 4)*3)) data (0:Int)
  )
 )else (
  Zoj (a+((Int.tdiv (b - a) 4)*2)) data (0:Int)
 )
def ZoU (data:(List ZnA)) (a:Int) (b:Int):Option (Int×Int×(List ZnA)):=
 (Zpe data a b).bind fun r=>chk (decide (r.2.2.length=data.length)&&true) (some r)
def ZpL (data:(List ZnA)):Option (List ZnA):=
 some data
def Zpy (rec_:Int→Int→(List ZnA)→Option (List ZnA)) (i:Int) (j:Int) (data:(List ZnA)):Option (List ZnA):=
 bif (decide (i < j))then (
  chk (inR j (data.length:Int)) <|
  (data[(j).toNat]?).bind fun data_e=>
  chk (inR i (data.length:Int)) <|
  (data[(i).toNat]?).bind fun data_e_1=>
  chk (inR i (data.length:Int)) <|
  chk (inR j ((data.set ((i).toNat) data_e).length:Int)) <|
  chk (inK .i64 (i+1)) <|
  chk (inK .i64 (j - 1)) <|
  rec_ (i+1) (j - 1) ((data.set ((i).toNat) data_e).set ((j).toNat) data_e_1)
 )else (
  some data
 )
def ZoF:Nat→Int→Int→(List ZnA)→Option (List ZnA)
 |0,_,_,_=>none
 |n_+1,i,j,data=>Zpy (ZoF n_) i j data
def ZrA (n:Nat) (s:(Int×Int×(List ZnA))):Option (List ZnA):=ZoF n s.1 s.2.1 s.2.2
def ZrB (rec_:(Int×Int×(List ZnA))→Option (List ZnA)) (s:(Int×Int×(List ZnA))):Option (List ZnA):=Zpy (fun i j data=>rec_ (i,j,data)) s.1 s.2.1 s.2.2
theorem Zvp:∀n s,ZrA (n+1) s=ZrB (ZrA n) s:=fun _ _=>rfl
def Zo3 (data:(List ZnA)) (a:Int) (b:Int):Option (List ZnA):=
 chk (inK .i64 (b - 1)) <|
 (ZoF big a (b - 1) data).bind fun x0=>ZpL x0
def ZoO (data:(List ZnA)) (a:Int) (b:Int):Option (List ZnA):=
 (Zo3 data a b).bind fun r=>chk (decide (r.length=data.length)&&true) (some r)
def ZoY (data:(List ZnA)):Option (Bool×(List ZnA)):=
 some (false,data)
def ZoZ (rec_:Int→Int→Int→Int→(List ZnA)→Option (Out (List ZnA) (Bool×(List ZnA)))) (a:Int) (b:Int) (i:Int) (j:Int) (data:(List ZnA)):Option (Out (List ZnA) (Bool×(List ZnA))):=
 chk (inK .i64 (j+1)) <|
 rec_ a b i (j+1) data
def ZoK (rec_:Int→Int→Int→Int→Int→(List ZnA)→Option (Int×Int×Int×Int×(List ZnA))) (a:Int) (b:Int) (i:Int) (j:Int) (j_1:Int) (data:(List ZnA)):Option (Int×Int×Int×Int×(List ZnA)):=
 bif (decide (j_1 < b))then (
  chk (inR j_1 (data.length:Int)) <|
  (data[(j_1).toNat]?).bind fun data_e=>
  chk (inK .i64 (j_1 - 1)) <|
  chk (inR (j_1 - 1) (data.length:Int)) <|
  (data[((j_1 - 1)).toNat]?).bind fun data_e_1=>
  (ZoH data_e data_e_1).bind fun q=>
  bif (!(decide (q < 0)))then (
   some (a,b,i,j,data)
  )else (
   chk (inK .i64 (j_1 - 1)) <|
   chk (inK .i64 (j_1 - 1)) <|
   chk (inR (j_1 - 1) (data.length:Int)) <|
   (data[((j_1 - 1)).toNat]?).bind fun data_e_2=>
   chk (inR j_1 (data.length:Int)) <|
   (data[(j_1).toNat]?).bind fun data_e_3=>
   chk (inR j_1 (data.length:Int)) <|
   chk (inR (j_1 - 1) ((data.set ((j_1).toNat) data_e_2).length:Int)) <|
   chk (inK .i64 (j_1+1)) <|
   rec_ a b i j (j_1+1) ((data.set ((j_1).toNat) data_e_2).set (((j_1 - 1)).toNat) data_e_3)
  )
 )else (
  some (a,b,i,j,data)
 )
def ZnW:Nat→Int→Int→Int→Int→Int→(List ZnA)→Option (Int×Int×Int×Int×(List ZnA))
 |0,_,_,_,_,_,_=>none
 |n_+1,a,b,i,j,j_1,data=>ZoK (ZnW n_) a b i j j_1 data
def Zqe (n:Nat) (s:(Int×Int×Int×Int×Int×(List ZnA))):Option (Int×Int×Int×Int×(List ZnA)):=ZnW n s.1 s.2.1 s.2.2.1 s.2.2.2.1 s.2.2.2.2.1 s.2.2.2.2.2
def Zqf (rec_:(Int×Int×Int×Int×Int×(List ZnA))→Option (Int×Int×Int×Int×(List ZnA))) (s:(Int×Int×Int×Int×Int×(List ZnA))):Option (Int×Int×Int×Int×(List ZnA)):=ZoK (fun a b i j j_1 data=>rec_ (a,b,i,j,j_1,data)) s.1 s.2.1 s.2.2.1 s.2.2.2.1 s.2.2.2.2.1 s.2.2.2.2.2
theorem Zt5:∀n s,Zqe (n+1) s=Zqf (Zqe n) s:=fun _ _=>rfl
def ZnY (rec_:Int→Int→Int→Int→(List ZnA)→Option (Out (List ZnA) (Bool×(List ZnA)))) (a:Int) (b:Int) (i:Int) (j:Int) (t104:Bool) (data:(List ZnA)):Option (Out (List ZnA) (Bool×(List ZnA))):=
 bif t104 then (
  chk (inK .i64 (i+1)) <|
  (ZnW big a b i j (i+1) data).bind fun(x0,x1,x2,x3,x4)=>ZoZ rec_ x0 x1 x2 x3 x4
 )else (
  chk (inK .i64 (j+1)) <|
  rec_ a b i (j+1) data
 )
def Zo0 (rec_:Int→Int→Int→Int→(List ZnA)→Option (Out (List ZnA) (Bool×(List ZnA)))) (a:Int) (b:Int) (i:Int) (j:Int) (data:(List ZnA)):Option (Out (List ZnA) (Bool×(List ZnA))):=
 chk (inK .i64 (b - i)) <|
 ZnY rec_ a b i j (decide ((b - i)≥2)) data
def ZoL (rec_:Int→Int→Int→Int→Int→(List ZnA)→Option (Int×Int×Int×Int×(List ZnA))) (a:Int) (b:Int) (i:Int) (j:Int) (j_1:Int) (data:(List ZnA)):Option (Int×Int×Int×Int×(List ZnA)):=
 bif (decide (j_1≥1))then (
  chk (inR j_1 (data.length:Int)) <|
  (data[(j_1).toNat]?).bind fun data_e=>
  chk (inK .i64 (j_1 - 1)) <|
  chk (inR (j_1 - 1) (data.length:Int)) <|
  (data[((j_1 - 1)).toNat]?).bind fun data_e_1=>
  (ZoH data_e data_e_1).bind fun q=>
  bif (!(decide (q < 0)))then (
   some (a,b,i,j,data)
  )else (
   chk (inK .i64 (j_1 - 1)) <|
   chk (inK .i64 (j_1 - 1)) <|
   chk (inR (j_1 - 1) (data.length:Int)) <|
   (data[((j_1 - 1)).toNat]?).bind fun data_e_2=>
   chk (inR j_1 (data.length:Int)) <|
   (data[(j_1).toNat]?).bind fun data_e_3=>
   chk (inR j_1 (data.length:Int)) <|
   chk (inR (j_1 - 1) ((data.set ((j_1).toNat) data_e_2).length:Int)) <|
   chk (inK .i64 (j_1 - 1)) <|
   rec_ a b i j (j_1 - 1) ((data.set ((j_1).toNat) data_e_2).set (((j_1 - 1)).toNat) data_e_3)
  )
 )else (
  some (a,b,i,j,data)
 )
def ZnX:Nat→Int→Int→Int→Int→Int→(List ZnA)→Option (Int×Int×Int×Int×(List ZnA))
 |0,_,_,_,_,_,_=>none
 |n_+1,a,b,i,j,j_1,data=>ZoL (ZnX n_) a b i j j_1 data
def Zqg (n:Nat) (s:(Int×Int×Int×Int×Int×(List ZnA))):Option (Int×Int×Int×Int×(List ZnA)):=ZnX n s.1 s.2.1 s.2.2.1 s.2.2.2.1 s.2.2.2.2.1 s.2.2.2.2.2
def Zqh (rec_:(Int×Int×Int×Int×Int×(List ZnA))→Option (Int×Int×Int×Int×(List ZnA))) (s:(Int×Int×Int×Int×Int×(List ZnA))):Option (Int×Int×Int×Int×(List ZnA)):=ZoL (fun a b i j j_1 data=>rec_ (a,b,i,j,j_1,data)) s.1 s.2.1 s.2.2.1 s.2.2.2.1 s.2.2.2.2.1 s.2.2.2.2.2
theorem Zt6:∀n s,Zqg (n+1) s=Zqh (Zqg n) s:=fun _ _=>rfl
def Zo1 (rec_:Int→Int→Int→Int→(List ZnA)→Option (Out (List ZnA) (Bool×(List ZnA)))) (a:Int) (b:Int) (i:Int) (j:Int) (data:(List ZnA)):Option (Out (List ZnA) (Bool×(List ZnA))):=
 bif (i == b)then (
  some (.ret (true,data))
 )else (
  chk (inK .i64 (b - a)) <|
  bif (decide ((b - a) < 50))then (
   some (.ret (false,data))
  )else (
   chk (inK .i64 (i - 1)) <|
   chk (inK .i64 (i - 1)) <|
   chk (inR (i - 1) (data.length:Int)) <|
   (data[((i - 1)).toNat]?).bind fun data_e=>
   chk (inR i (data.length:Int)) <|
   (data[(i).toNat]?).bind fun data_e_1=>
   chk (inR i (data.length:Int)) <|
   chk (inR (i - 1) ((data.set ((i).toNat) data_e).length:Int)) <|
   chk (inK .i64 (i - a)) <|
   bif (decide ((i - a)≥2))then (
    chk (inK .i64 (i - 1)) <|
    (ZnX big a b i j (i - 1) ((data.set ((i).toNat) data_e).set (((i - 1)).toNat) data_e_1)).bind fun(x0,x1,x2,x3,x4)=>Zo0 rec_ x0 x1 x2 x3 x4
   )else (
    chk (inK .i64 (b - i)) <|
    ZnY rec_ a b i j (decide ((b - i)≥2)) ((data.set ((i).toNat) data_e).set (((i - 1)).toNat) data_e_1)
   )
  )
 )
def Zoh (rec_:Int→Int→Int→Int→(List ZnA)→Option (Int×Int×Int×Int×(List ZnA))) (a:Int) (b:Int) (i:Int) (j:Int) (t36:Bool) (data:(List ZnA)):Option (Int×Int×Int×Int×(List ZnA)):=
 bif t36 then (
  chk (inK .i64 (i+1)) <|
  rec_ a b (i+1) j data
 )else (
  some (a,b,i,j,data)
 )
def ZoM (rec_:Int→Int→Int→Int→(List ZnA)→Option (Int×Int×Int×Int×(List ZnA))) (a:Int) (b:Int) (i:Int) (j:Int) (data:(List ZnA)):Option (Int×Int×Int×Int×(List ZnA)):=
 bif (decide (i < b))then (
  chk (inR i (data.length:Int)) <|
  (data[(i).toNat]?).bind fun data_e=>
  chk (inK .i64 (i - 1)) <|
  chk (inR (i - 1) (data.length:Int)) <|
  (data[((i - 1)).toNat]?).bind fun data_e_1=>
  (ZoH data_e data_e_1).bind fun q=>
  Zoh rec_ a b i j (!(decide (q < 0))) data
 )else (
  Zoh rec_ a b i j false data
 )
def ZnQ:Nat→Int→Int→Int→Int→(List ZnA)→Option (Int×Int×Int×Int×(List ZnA))
 |0,_,_,_,_,_=>none
 |n_+1,a,b,i,j,data=>ZoM (ZnQ n_) a b i j data
def Zqi (n:Nat) (s:(Int×Int×Int×Int×(List ZnA))):Option (Int×Int×Int×Int×(List ZnA)):=ZnQ n s.1 s.2.1 s.2.2.1 s.2.2.2.1 s.2.2.2.2
def Zqj (rec_:(Int×Int×Int×Int×(List ZnA))→Option (Int×Int×Int×Int×(List ZnA))) (s:(Int×Int×Int×Int×(List ZnA))):Option (Int×Int×Int×Int×(List ZnA)):=ZoM (fun a b i j data=>rec_ (a,b,i,j,data)) s.1 s.2.1 s.2.2.1 s.2.2.2.1 s.2.2.2.2
theorem Zt7:∀n s,Zqi (n+1) s=Zqj (Zqi n) s:=fun _ _=>rfl
def ZoN (rec_:Int→Int→Int→Int→(List ZnA)→Option (Out (List ZnA) (Bool×(List ZnA)))) (a:Int) (b:Int) (i:Int) (j:Int) (data:(List ZnA)):Option (Out (List ZnA) (Bool×(List ZnA))):=
 bif (decide (j < 5))then (
  (ZnQ big a b i j data).bind fun(x0,x1,x2,x3,x4)=>Zo1 rec_ x0 x1 x2 x3 x4
 )else (
  some (.brk data)
 )
def ZnL:Nat→Int→Int→Int→Int→(List ZnA)→Option (Out (List ZnA) (Bool×(List ZnA)))
 |0,_,_,_,_,_=>none
 |n_+1,a,b,i,j,data=>ZoN (ZnL n_) a b i j data
def Zqk (n:Nat) (s:(Int×Int×Int×Int×(List ZnA))):Option (Out (List ZnA) (Bool×(List ZnA))):=ZnL n s.1 s.2.1 s.2.2.1 s.2.2.2.1 s.2.2.2.2
def Zql (rec_:(Int×Int×Int×Int×(List ZnA))→Option (Out (List ZnA) (Bool×(List ZnA)))) (s:(Int×Int×Int×Int×(List ZnA))):Option (Out (List ZnA) (Bool×(List ZnA))):=ZoN (fun a b i j data=>rec_ (a,b,i,j,data)) s.1 s.2.1 s.2.2.1 s.2.2.2.1 s.2.2.2.2
theorem Zt8:∀n s,Zqk (n+1) s=Zql (Zqk n) s:=fun _ _=>rfl
def Zoq (data:(List ZnA)) (a:Int) (b:Int):Option (Bool×(List ZnA)):=
 chk (inK .i64 (a+1)) <|
 (ZnL big a b (a+1) (0:Int) data).bind fun
  | .ret q_=>some q_
  | .brk x0=>ZoY x0
def Zom (data:(List ZnA)) (a:Int) (b:Int):Option (Bool×(List ZnA)):=
 (Zoq data a b).bind fun r=>chk (decide (r.2.length=data.length)&&true) (some r)
def Zpz (i:Int) (data:(List ZnA)):Option (Int×(List ZnA)):=
 some (i,data)
def ZpA (rec_:Int→Int→Int→(List ZnA)→Option (Int×(List ZnA))) (a:Int) (i:Int) (j:Int) (data:(List ZnA)):Option (Int×(List ZnA)):=
 bif (decide (i > j))then (
  some (i,data)
 )else (
  chk (inR j (data.length:Int)) <|
  (data[(j).toNat]?).bind fun data_e=>
  chk (inR i (data.length:Int)) <|
  (data[(i).toNat]?).bind fun data_e_1=>
  chk (inR i (data.length:Int)) <|
  chk (inR j ((data.set ((i).toNat) data_e).length:Int)) <|
  chk (inK .i64 (i+1)) <|
  chk (inK .i64 (j - 1)) <|
  rec_ a (i+1) (j - 1) ((data.set ((i).toNat) data_e).set ((j).toNat) data_e_1)
 )
def Zoz (rec_:Int→Int→Int→(List ZnA)→Option (Int×Int×Int×(List ZnA))) (a:Int) (i:Int) (j:Int) (t65:Bool) (data:(List ZnA)):Option (Int×Int×Int×(List ZnA)):=
 bif t65 then (
  chk (inK .i64 (j - 1)) <|
  rec_ a i (j - 1) data
 )else (
  some (a,i,j,data)
 )
def Zpm (rec_:Int→Int→Int→(List ZnA)→Option (Int×Int×Int×(List ZnA))) (a:Int) (i:Int) (j:Int) (data:(List ZnA)):Option (Int×Int×Int×(List ZnA)):=
 bif (decide (i≤j))then (
  chk (inR a (data.length:Int)) <|
  (data[(a).toNat]?).bind fun data_e=>
  chk (inR j (data.length:Int)) <|
  (data[(j).toNat]?).bind fun data_e_1=>
  (ZoH data_e data_e_1).bind fun q=>
  Zoz rec_ a i j (decide (q < 0)) data
 )else (
  Zoz rec_ a i j false data
 )
def ZnS:Nat→Int→Int→Int→(List ZnA)→Option (Int×Int×Int×(List ZnA))
 |0,_,_,_,_=>none
 |n_+1,a,i,j,data=>Zpm (ZnS n_) a i j data
def Zq7 (n:Nat) (s:(Int×Int×Int×(List ZnA))):Option (Int×Int×Int×(List ZnA)):=ZnS n s.1 s.2.1 s.2.2.1 s.2.2.2
def Zq8 (rec_:(Int×Int×Int×(List ZnA))→Option (Int×Int×Int×(List ZnA))) (s:(Int×Int×Int×(List ZnA))):Option (Int×Int×Int×(List ZnA)):=Zpm (fun a i j data=>rec_ (a,i,j,data)) s.1 s.2.1 s.2.2.1 s.2.2.2
theorem ZuS:∀n s,Zq7 (n+1) s=Zq8 (Zq7 n) s:=fun _ _=>rfl
def ZpB (rec_:Int→Int→Int→(List ZnA)→Option (Int×(List ZnA))) (a:Int) (i:Int) (j:Int) (data:(List ZnA)):Option (Int×(List ZnA)):=
 (ZnS big a i j data).bind fun(x0,x1,x2,x3)=>ZpA rec_ x0 x1 x2 x3
def ZoA (rec_:Int→Int→Int→(List ZnA)→Option (Int×Int×Int×(List ZnA))) (a:Int) (i:Int) (j:Int) (t47:Bool) (data:(List ZnA)):Option (Int×Int×Int×(List ZnA)):=
 bif t47 then (
  chk (inK .i64 (i+1)) <|
  rec_ a (i+1) j data
 )else (
  some (a,i,j,data)
 )
def Zpn (rec_:Int→Int→Int→(List ZnA)→Option (Int×Int×Int×(List ZnA))) (a:Int) (i:Int) (j:Int) (data:(List ZnA)):Option (Int×Int×Int×(List ZnA)):=
 bif (decide (i≤j))then (
  chk (inR a (data.length:Int)) <|
  (data[(a).toNat]?).bind fun data_e=>
  chk (inR i (data.length:Int)) <|
  (data[(i).toNat]?).bind fun data_e_1=>
  (ZoH data_e data_e_1).bind fun q=>
  ZoA rec_ a i j (!(decide (q < 0))) data
 )else (
  ZoA rec_ a i j false data
 )
def ZnT:Nat→Int→Int→Int→(List ZnA)→Option (Int×Int×Int×(List ZnA))
 |0,_,_,_,_=>none
 |n_+1,a,i,j,data=>Zpn (ZnT n_) a i j data
def Zq9 (n:Nat) (s:(Int×Int×Int×(List ZnA))):Option (Int×Int×Int×(List ZnA)):=ZnT n s.1 s.2.1 s.2.2.1 s.2.2.2
def Zra (rec_:(Int×Int×Int×(List ZnA))→Option (Int×Int×Int×(List ZnA))) (s:(Int×Int×Int×(List ZnA))):Option (Int×Int×Int×(List ZnA)):=Zpn (fun a i j data=>rec_ (a,i,j,data)) s.1 s.2.1 s.2.2.1 s.2.2.2
theorem ZuT:∀n s,Zq9 (n+1) s=Zra (Zq9 n) s:=fun _ _=>rfl
def Zpo (rec_:Int→Int→Int→(List ZnA)→Option (Int×(List ZnA))) (a:Int) (i:Int) (j:Int) (data:(List ZnA)):Option (Int×(List ZnA)):=
 (ZnT big a i j data).bind fun(x0,x1,x2,x3)=>ZpB rec_ x0 x1 x2 x3
def ZnP:Nat→Int→Int→Int→(List ZnA)→Option (Int×(List ZnA))
 |0,_,_,_,_=>none
 |n_+1,a,i,j,data=>Zpo (ZnP n_) a i j data
def Zrb (n:Nat) (s:(Int×Int×Int×(List ZnA))):Option (Int×(List ZnA)):=ZnP n s.1 s.2.1 s.2.2.1 s.2.2.2
def Zrc (rec_:(Int×Int×Int×(List ZnA))→Option (Int×(List ZnA))) (s:(Int×Int×Int×(List ZnA))):Option (Int×(List ZnA)):=Zpo (fun a i j data=>rec_ (a,i,j,data)) s.1 s.2.1 s.2.2.1 s.2.2.2
theorem ZuU:∀n s,Zrb (n+1) s=Zrc (Zrb n) s:=fun _ _=>rfl
def ZoP (data:(List ZnA)) (a:Int) (b:Int) (pivot:Int):Option (Int×(List ZnA)):=
 chk (inR pivot (data.length:Int)) <|
 (data[(pivot).toNat]?).bind fun data_e=>
 chk (inR a (data.length:Int)) <|
 (data[(a).toNat]?).bind fun data_e_1=>
 chk (inR a (data.length:Int)) <|
 chk (inR pivot ((data.set ((a).toNat) data_e).length:Int)) <|
 chk (inK .i64 (a+1)) <|
 chk (inK .i64 (b - 1)) <|
 (ZnP big a (a+1) (b - 1) ((data.set ((a).toNat) data_e).set ((pivot).toNat) data_e_1)).bind fun(x0,x1)=>Zpz x0 x1
def ZoB (data:(List ZnA)) (a:Int) (b:Int) (pivot:Int):Option (Int×(List ZnA)):=
 (ZoP data a b pivot).bind fun r=>chk (decide (r.2.length=data.length)&&true) (some r)
def Zp9 (a:Int) (j:Int) (data:(List ZnA)):Option (Int×Bool×(List ZnA)):=
 chk (inR a (data.length:Int)) <|
 (data[(a).toNat]?).bind fun data_e=>
 chk (inR j (data.length:Int)) <|
 (data[(j).toNat]?).bind fun data_e_1=>
 chk (inR j (data.length:Int)) <|
 chk (inR a ((data.set ((j).toNat) data_e).length:Int)) <|
 some (j,false,((data.set ((j).toNat) data_e).set ((a).toNat) data_e_1))
def Zqa (rec_:Int→Int→Int→(List ZnA)→Option (Int×Int×(List ZnA))) (a:Int) (i:Int) (j:Int) (data:(List ZnA)):Option (Int×Int×(List ZnA)):=
 bif (decide (i > j))then (
  some (a,j,data)
 )else (
  chk (inR j (data.length:Int)) <|
  (data[(j).toNat]?).bind fun data_e=>
  chk (inR i (data.length:Int)) <|
  (data[(i).toNat]?).bind fun data_e_1=>
  chk (inR i (data.length:Int)) <|
  chk (inR j ((data.set ((i).toNat) data_e).length:Int)) <|
  chk (inK .i64 (i+1)) <|
  chk (inK .i64 (j - 1)) <|
  rec_ a (i+1) (j - 1) ((data.set ((i).toNat) data_e).set ((j).toNat) data_e_1)
 )
def Zo4 (rec_:Int→Int→Int→(List ZnA)→Option (Int×Int×Int×(List ZnA))) (a:Int) (i:Int) (j:Int) (t139:Bool) (data:(List ZnA)):Option (Int×Int×Int×(List ZnA)):=
 bif t139 then (
  chk (inK .i64 (j - 1)) <|
  rec_ a i (j - 1) data
 )else (
  some (a,i,j,data)
 )
def ZpM (rec_:Int→Int→Int→(List ZnA)→Option (Int×Int×Int×(List ZnA))) (a:Int) (i:Int) (j:Int) (data:(List ZnA)):Option (Int×Int×Int×(List ZnA)):=
 bif (decide (i≤j))then (
  chk (inR j (data.length:Int)) <|
  (data[(j).toNat]?).bind fun data_e=>
  chk (inR a (data.length:Int)) <|
  (data[(a).toNat]?).bind fun data_e_1=>
  (ZoH data_e data_e_1).bind fun q=>
  Zo4 rec_ a i j (!(decide (q < 0))) data
 )else (
  Zo4 rec_ a i j false data
 )
def Zn0:Nat→Int→Int→Int→(List ZnA)→Option (Int×Int×Int×(List ZnA))
 |0,_,_,_,_=>none
 |n_+1,a,i,j,data=>ZpM (Zn0 n_) a i j data
def Zsb (n:Nat) (s:(Int×Int×Int×(List ZnA))):Option (Int×Int×Int×(List ZnA)):=Zn0 n s.1 s.2.1 s.2.2.1 s.2.2.2
def Zsc (rec_:(Int×Int×Int×(List ZnA))→Option (Int×Int×Int×(List ZnA))) (s:(Int×Int×Int×(List ZnA))):Option (Int×Int×Int×(List ZnA)):=ZpM (fun a i j data=>rec_ (a,i,j,data)) s.1 s.2.1 s.2.2.1 s.2.2.2
theorem Zv8:∀n s,Zsb (n+1) s=Zsc (Zsb n) s:=fun _ _=>rfl
def Zqb (rec_:Int→Int→Int→(List ZnA)→Option (Int×Int×(List ZnA))) (a:Int) (i:Int) (j:Int) (data:(List ZnA)):Option (Int×Int×(List ZnA)):=
 (Zn0 big a i j data).bind fun(x0,x1,x2,x3)=>Zqa rec_ x0 x1 x2 x3
def Zo5 (rec_:Int→Int→Int→(List ZnA)→Option (Int×Int×Int×(List ZnA))) (a:Int) (i:Int) (j:Int) (t120:Bool) (data:(List ZnA)):Option (Int×Int×Int×(List ZnA)):=
 bif t120 then (
  chk (inK .i64 (i+1)) <|
  rec_ a (i+1) j data
 )else (
  some (a,i,j,data)
 )
def ZpN (rec_:Int→Int→Int→(List ZnA)→Option (Int×Int×Int×(List ZnA))) (a:Int) (i:Int) (j:Int) (data:(List ZnA)):Option (Int×Int×Int×(List ZnA)):=
 bif (decide (i≤j))then (
  chk (inR i (data.length:Int)) <|
  (data[(i).toNat]?).bind fun data_e=>
  chk (inR a (data.length:Int)) <|
  (data[(a).toNat]?).bind fun data_e_1=>
  (ZoH data_e data_e_1).bind fun q=>
  Zo5 rec_ a i j (decide (q < 0)) data
 )else (
  Zo5 rec_ a i j false data
 )
def Zn1:Nat→Int→Int→Int→(List ZnA)→Option (Int×Int×Int×(List ZnA))
 |0,_,_,_,_=>none
 |n_+1,a,i,j,data=>ZpN (Zn1 n_) a i j data
def Zsd (n:Nat) (s:(Int×Int×Int×(List ZnA))):Option (Int×Int×Int×(List ZnA)):=Zn1 n s.1 s.2.1 s.2.2.1 s.2.2.2
def Zse (rec_:(Int×Int×Int×(List ZnA))→Option (Int×Int×Int×(List ZnA))) (s:(Int×Int×Int×(List ZnA))):Option (Int×Int×Int×(List ZnA)):=ZpN (fun a i j data=>rec_ (a,i,j,data)) s.1 s.2.1 s.2.2.1 s.2.2.2
theorem Zv9:∀n s,Zsd (n+1) s=Zse (Zsd n) s:=fun _ _=>rfl
def ZpO (rec_:Int→Int→Int→(List ZnA)→Option (Int×Int×(List ZnA))) (a:Int) (i:Int) (j:Int) (data:(List ZnA)):Option (Int×Int×(List ZnA)):=
 (Zn1 big a i j data).bind fun(x0,x1,x2,x3)=>Zqb rec_ x0 x1 x2 x3
def ZnR:Nat→Int→Int→Int→(List ZnA)→Option (Int×Int×(List ZnA))
 |0,_,_,_,_=>none
 |n_+1,a,i,j,data=>ZpO (ZnR n_) a i j data
def Zsf (n:Nat) (s:(Int×Int×Int×(List ZnA))):Option (Int×Int×(List ZnA)):=ZnR n s.1 s.2.1 s.2.2.1 s.2.2.2
def Zsg (rec_:(Int×Int×Int×(List ZnA))→Option (Int×Int×(List ZnA))) (s:(Int×Int×Int×(List ZnA))):Option (Int×Int×(List ZnA)):=ZpO (fun a i j data=>rec_ (a,i,j,data)) s.1 s.2.1 s.2.2.1 s.2.2.2
theorem Zwa:∀n s,Zsf (n+1) s=Zsg (Zsf n) s:=fun _ _=>rfl
def Zqc (a:Int) (i:Int) (j:Int) (data:(List ZnA)):Option (Int×Bool×(List ZnA)):=
 bif (decide (i > j))then (
  chk (inR a (data.length:Int)) <|
  (data[(a).toNat]?).bind fun data_e=>
  chk (inR j (data.length:Int)) <|
  (data[(j).toNat]?).bind fun data_e_1=>
  chk (inR j (data.length:Int)) <|
  chk (inR a ((data.set ((j).toNat) data_e).length:Int)) <|
  some (j,true,((data.set ((j).toNat) data_e).set ((a).toNat) data_e_1))
 )else (
  chk (inR j (data.length:Int)) <|
  (data[(j).toNat]?).bind fun data_e_2=>
  chk (inR i (data.length:Int)) <|
  (data[(i).toNat]?).bind fun data_e_3=>
  chk (inR i (data.length:Int)) <|
  chk (inR j ((data.set ((i).toNat) data_e_2).length:Int)) <|
  chk (inK .i64 (i+1)) <|
  chk (inK .i64 (j - 1)) <|
  (ZnR big a (i+1) (j - 1) ((data.set ((i).toNat) data_e_2).set ((j).toNat) data_e_3)).bind fun(x0,x1,x2)=>Zp9 x0 x1 x2
 )
def Zo6 (rec_:Int→Int→Int→(List ZnA)→Option (Int×Int×Int×(List ZnA))) (a:Int) (i:Int) (j:Int) (t66:Bool) (data:(List ZnA)):Option (Int×Int×Int×(List ZnA)):=
 bif t66 then (
  chk (inK .i64 (j - 1)) <|
  rec_ a i (j - 1) data
 )else (
  some (a,i,j,data)
 )
def ZpP (rec_:Int→Int→Int→(List ZnA)→Option (Int×Int×Int×(List ZnA))) (a:Int) (i:Int) (j:Int) (data:(List ZnA)):Option (Int×Int×Int×(List ZnA)):=
 bif (decide (i≤j))then (
  chk (inR j (data.length:Int)) <|
  (data[(j).toNat]?).bind fun data_e=>
  chk (inR a (data.length:Int)) <|
  (data[(a).toNat]?).bind fun data_e_1=>
  (ZoH data_e data_e_1).bind fun q=>
  Zo6 rec_ a i j (!(decide (q < 0))) data
 )else (
  Zo6 rec_ a i j false data
 )
def Zn2:Nat→Int→Int→Int→(List ZnA)→Option (Int×Int×Int×(List ZnA))
 |0,_,_,_,_=>none
 |n_+1,a,i,j,data=>ZpP (Zn2 n_) a i j data
def Zsh (n:Nat) (s:(Int×Int×Int×(List ZnA))):Option (Int×Int×Int×(List ZnA)):=Zn2 n s.1 s.2.1 s.2.2.1 s.2.2.2
def Zsi (rec_:(Int×Int×Int×(List ZnA))→Option (Int×Int×Int×(List ZnA))) (s:(Int×Int×Int×(List ZnA))):Option (Int×Int×Int×(List ZnA)):=ZpP (fun a i j data=>rec_ (a,i,j,data)) s.1 s.2.1 s.2.2.1 s.2.2.2
theorem Zwb:∀n s,Zsh (n+1) s=Zsi (Zsh n) s:=fun _ _=>rfl
def Zqd (a:Int) (i:Int) (j:Int) (data:(List ZnA)):Option (Int×Bool×(List ZnA)):=
 (Zn2 big a i j data).bind fun(x0,x1,x2,x3)=>Zqc x0 x1 x2 x3
def Zo7 (rec_:Int→Int→Int→(List ZnA)→Option (Int×Int×Int×(List ZnA))) (a:Int) (i:Int) (j:Int) (t47:Bool) (data:(List ZnA)):Option (Int×Int×Int×(List ZnA)):=
 bif t47 then (
  chk (inK .i64 (i+1)) <|
  rec_ a (i+1) j data
 )else (
  some (a,i,j,data)
 )
def ZpQ (rec_:Int→Int→Int→(List ZnA)→Option (Int×Int×Int×(List ZnA))) (a:Int) (i:Int) (j:Int) (data:(List ZnA)):Option (Int×Int×Int×(List ZnA)):=
 bif (decide (i≤j))then (
  chk (inR i (data.length:Int)) <|
  (data[(i).toNat]?).bind fun data_e=>
  chk (inR a (data.length:Int)) <|
  (data[(a).toNat]?).bind fun data_e_1=>
  (ZoH data_e data_e_1).bind fun q=>
  Zo7 rec_ a i j (decide (q < 0)) data
 )else (
  Zo7 rec_ a i j false data
 )
def Zn3:Nat→Int→Int→Int→(List ZnA)→Option (Int×Int×Int×(List ZnA))
 |0,_,_,_,_=>none
 |n_+1,a,i,j,data=>ZpQ (Zn3 n_) a i j data
def Zsj (n:Nat) (s:(Int×Int×Int×(List ZnA))):Option (Int×Int×Int×(List ZnA)):=Zn3 n s.1 s.2.1 s.2.2.1 s.2.2.2
def Zsk (rec_:(Int×Int×Int×(List ZnA))→Option (Int×Int×Int×(List ZnA))) (s:(Int×Int×Int×(List ZnA))):Option (Int×Int×Int×(List ZnA)):=ZpQ (fun a i j data=>rec_ (a,i,j,data)) s.1 s.2.1 s.2.2.1 s.2.2.2
theorem Zwc:∀n s,Zsj (n+1) s=Zsk (Zsj n) s:=fun _ _=>rfl
def Zpq (data:(List ZnA)) (a:Int) (b:Int) (pivot:Int):Option (Int×Bool×(List ZnA)):=
 chk (inR pivot (data.length:Int)) <|
 (data[(pivot).toNat]?).bind fun data_e=>
 chk (inR a (data.length:Int)) <|
 (data[(a).toNat]?).bind fun data_e_1=>
 chk (inR a (data.length:Int)) <|
 chk (inR pivot ((data.set ((a).toNat) data_e).length:Int)) <|
 chk (inK .i64 (a+1)) <|
 chk (inK .i64 (b - 1)) <|
 (Zn3 big a (a+1) (b - 1) ((data.set ((a).toNat) data_e).set ((pivot).toNat) data_e_1)).bind fun(x0,x1,x2,x3)=>Zqd x0 x1 x2 x3
def Zpb (data:(List ZnA)) (a:Int) (b:Int) (pivot:Int):Option (Int×Bool×(List ZnA)):=
 (Zpq data a b pivot).bind fun r=>chk (decide (r.2.2.length=data.length)&&true) (some r)
def Zov (rf_:(List ZnA)→Int→Int→Int→Option (List ZnA)) (rec_:Int→Int→Int→Bool→Bool→(List ZnA)→Option (Out Unit (List ZnA))) (a:Int) (b:Int) (limit:Int) (wasBalanced:Bool) (wasPartitioned:Bool) (length:Int) (pivot:Int) (t97:Bool) (data:(List ZnA)):Option (Out Unit (List ZnA)):=
 bif t97 then (
  (ZoB data a b pivot).bind fun(mid,t98)=>
  rec_ mid b limit wasBalanced wasPartitioned t98
 )else (
  (Zpb data a b pivot).bind fun(mid_1,alreadyPartitioned,t106)=>
  chk (inK .i64 (mid_1 - a)) <|
  chk (inK .i64 (b - mid_1)) <|
  chk (decide ((8:Int)≠0)) <|
  chk (inK .i64 (Int.tdiv length 8)) <|
  bif (decide ((mid_1 - a) < (b - mid_1)))then (
   (rf_ t106 a mid_1 limit).bind fun t129=>
   chk (inK .i64 (mid_1+1)) <|
   rec_ (mid_1+1) b limit (decide ((mid_1 - a)≥(Int.tdiv length 8))) alreadyPartitioned t129
  )else (
   chk (inK .i64 (mid_1+1)) <|
   (rf_ t106 (mid_1+1) b limit).bind fun t140=>
   rec_ a mid_1 limit (decide ((b - mid_1)≥(Int.tdiv length 8))) alreadyPartitioned t140
  )
 )
def Zow (rf_:(List ZnA)→Int→Int→Int→Option (List ZnA)) (rec_:Int→Int→Int→Bool→Bool→(List ZnA)→Option (Out Unit (List ZnA))) (a:Int) (b:Int) (limit:Int) (wasBalanced:Bool) (wasPartitioned:Bool) (length:Int) (pivot:Int) (data:(List ZnA)):Option (Out Unit (List ZnA)):=
 bif (decide (a > 0))then (
  chk (inK .i64 (a - 1)) <|
  chk (inR (a - 1) (data.length:Int)) <|
  (data[((a - 1)).toNat]?).bind fun data_e=>
  chk (inR pivot (data.length:Int)) <|
  (data[(pivot).toNat]?).bind fun data_e_1=>
  (ZoH data_e data_e_1).bind fun q=>
  Zov rf_ rec_ a b limit wasBalanced wasPartitioned length pivot (!(decide (q < 0))) data
 )else (
  Zov rf_ rec_ a b limit wasBalanced wasPartitioned length pivot false data
 )
def Zn9 (rf_:(List ZnA)→Int→Int→Int→Option (List ZnA)) (rec_:Int→Int→Int→Bool→Bool→(List ZnA)→Option (Out Unit (List ZnA))) (a:Int) (b:Int) (limit:Int) (wasBalanced:Bool) (wasPartitioned:Bool) (length:Int) (pivot:Int) (t75:Bool) (data:(List ZnA)):Option (Out Unit (List ZnA)):=
 bif t75 then (
  (Zom data a b).bind fun(q,t76)=>
  bif q then (
   some (.ret t76)
  )else (
   Zow rf_ rec_ a b limit wasBalanced wasPartitioned length pivot t76
  )
 )else (
  Zow rf_ rec_ a b limit wasBalanced wasPartitioned length pivot data
 )
def Zox (rf_:(List ZnA)→Int→Int→Int→Option (List ZnA)) (rec_:Int→Int→Int→Bool→Bool→(List ZnA)→Option (Out Unit (List ZnA))) (a:Int) (b:Int) (limit:Int) (wasBalanced:Bool) (wasPartitioned:Bool) (length:Int) (pivot:Int) (hint:Int) (data:(List ZnA)):Option (Out Unit (List ZnA)):=
 bif wasBalanced then (
  bif wasPartitioned then (
   Zn9 rf_ rec_ a b limit wasBalanced wasPartitioned length pivot (hint == 1) data
  )else (
   Zn9 rf_ rec_ a b limit wasBalanced wasPartitioned length pivot false data
  )
 )else (
  Zn9 rf_ rec_ a b limit wasBalanced wasPartitioned length pivot false data
 )
def Zoy (rf_:(List ZnA)→Int→Int→Int→Option (List ZnA)) (rec_:Int→Int→Int→Bool→Bool→(List ZnA)→Option (Out Unit (List ZnA))) (a:Int) (b:Int) (limit:Int) (wasBalanced:Bool) (wasPartitioned:Bool) (length:Int) (data:(List ZnA)):Option (Out Unit (List ZnA)):=
 (ZoU data a b).bind fun(pivot,hint,t48)=>
 bif (hint == 2)then (
  (ZoO t48 a b).bind fun t57=>
  chk (inK .i64 (b - 1)) <|
  chk (inK .i64 (pivot - a)) <|
  chk (inK .i64 ((b - 1) - (pivot - a))) <|
  Zox rf_ rec_ a b limit wasBalanced wasPartitioned length ((b - 1) - (pivot - a)) (1:Int) t57
 )else (
  Zox rf_ rec_ a b limit wasBalanced wasPartitioned length pivot hint t48
 )
def Zp8 (rf_:(List ZnA)→Int→Int→Int→Option (List ZnA)) (rec_:Int→Int→Int→Bool→Bool→(List ZnA)→Option (Out Unit (List ZnA))) (a:Int) (b:Int) (limit:Int) (wasBalanced:Bool) (wasPartitioned:Bool) (data:(List ZnA)):Option (Out Unit (List ZnA)):=
 chk (inK .i64 (b - a)) <|
 bif (decide ((b - a)≤12))then (
  (Zof data a b).bind fun t26=>
  some (.ret t26)
 )else (
  bif (limit == 0)then (
   (Zpj data a b).bind fun t33=>
   some (.ret t33)
  )else (
   bif (!wasBalanced)then (
    (ZoG data a b).bind fun t40=>
    chk (inK .i64 (limit - 1)) <|
    Zoy rf_ rec_ a b (limit - 1) wasBalanced wasPartitioned (b - a) t40
   )else (
    Zoy rf_ rec_ a b limit wasBalanced wasPartitioned (b - a) data
   )
  )
 )
def ZnO (rf_:(List ZnA)→Int→Int→Int→Option (List ZnA)):Nat→Int→Int→Int→Bool→Bool→(List ZnA)→Option (Out Unit (List ZnA))
 |0,_,_,_,_,_,_=>none
 |n_+1,a,b,limit,wasBalanced,wasPartitioned,data=>Zp8 rf_ (ZnO rf_ n_) a b limit wasBalanced wasPartitioned data
def ZsM (rf_:(List ZnA)→Int→Int→Int→Option (List ZnA)) (n:Nat) (s:(Int×Int×Int×Bool×Bool×(List ZnA))):Option (Out Unit (List ZnA)):=ZnO rf_ n s.1 s.2.1 s.2.2.1 s.2.2.2.1 s.2.2.2.2.1 s.2.2.2.2.2
def ZsN (rf_:(List ZnA)→Int→Int→Int→Option (List ZnA)) (rec_:(Int×Int×Int×Bool×Bool×(List ZnA))→Option (Out Unit (List ZnA))) (s:(Int×Int×Int×Bool×Bool×(List ZnA))):Option (Out Unit (List ZnA)):=Zp8 rf_ (fun a b limit wasBalanced wasPartitioned data=>rec_ (a,b,limit,wasBalanced,wasPartitioned,data)) s.1 s.2.1 s.2.2.1 s.2.2.2.1 s.2.2.2.2.1 s.2.2.2.2.2
theorem Zwy (rf_:(List ZnA)→Int→Int→Int→Option (List ZnA)):∀n s,ZsM rf_ (n+1) s=ZsN rf_ (ZsM rf_ n) s:=fun _ _=>rfl
def Zpp (rf_:(List ZnA)→Int→Int→Int→Option (List ZnA)) (data:(List ZnA)) (a:Int) (b:Int) (limit:Int):Option (List ZnA):=
 (ZnO rf_ big a b limit true true data).bind fun
  | .ret q_=>some q_
  | .brk _=>none
def ZnG:Nat→(List ZnA)→Int→Int→Int→Option (List ZnA)
 |0,_,_,_,_=>none
 |n_+1,data,a,b,limit=>(Zpp (ZnG n_) data a b limit).bind fun r=>chk (decide (r.length=data.length)&&true) (some r)
def ZpC (x_:(List ZnA)):Option (List ZnA):=
 (ZxM (IntKind.wrap .u64 (x_.length:Int))).bind fun q=>
 (ZnG big x_ 0 (x_.length:Int) q).bind fun t7=>
 some t7
def ZnZ (x_:(List ZnA)):Option (List ZnA):=
 (ZpC x_).bind fun r=>chk (decide (r.length=x_.length)&&true) (some r)
def Zzw (out:(List ZnA)):Option (List ZnA):=
 (ZnZ out).bind fun t82=>
 some t82
def Zw6 (rec_:(List G_api_Cell)→Int→Int→G_api_Column→(List (Str×Int))→(List ZnA)→Option (List ZnA)) (t15:(List G_api_Cell)) (t16:Int) (i:Int) (value:G_api_Column) (at_:(List (Str×Int))) (out:(List ZnA)):Option (List ZnA):=
 chk (inK .i64 (i+1)) <|
 rec_ t15 t16 (i+1) value at_ out
def Zw7 (rec_:(List G_api_Cell)→Int→Int→G_api_Column→(List (Str×Int))→(List ZnA)→Option (List ZnA)) (n:Int) (t15:(List G_api_Cell)) (t16:Int) (i:Int) (value:G_api_Column) (at_:(List (Str×Int))) (out:(List ZnA)) (v_:ZnE):Option (List ZnA):=
 chk (inR n (out.length:Int)) <|
 (out[(n).toNat]?).bind fun out_e=>
 chk (inK .i64 (out_e.Count+1)) <|
 chk (inR n (out.length:Int)) <|
 (out[(n).toNat]?).bind fun el=>
 chk (inR n ((out.set ((n).toNat) (ZnA.mk el.Key el.Hash (out_e.Count+1) el.Sum)).length:Int)) <|
 ((out.set ((n).toNat) (ZnA.mk el.Key el.Hash (out_e.Count+1) el.Sum))[(n).toNat]?).bind fun Sum_e=>
 (ZAU Sum_e.Sum v_).bind fun q=>
 chk (inR n ((out.set ((n).toNat) (ZnA.mk el.Key el.Hash (out_e.Count+1) el.Sum)).length:Int)) <|
 ((out.set ((n).toNat) (ZnA.mk el.Key el.Hash (out_e.Count+1) el.Sum))[(n).toNat]?).bind fun el_1=>
 Zw6 rec_ t15 t16 i value at_ ((out.set ((n).toNat) (ZnA.mk el.Key el.Hash (out_e.Count+1) el.Sum)).set ((n).toNat) (ZnA.mk el_1.Key el_1.Hash el_1.Count q))
def Zuq (rec_:(List G_api_Cell)→Int→Int→G_api_Column→(List (Str×Int))→(List ZnA)→Option (List ZnA)) (t15:(List G_api_Cell)) (t16:Int) (i:Int) (t36:Bool) (value:G_api_Column) (at_:(List (Str×Int))) (out:(List ZnA)) (k:G_api_Cell) (v_:ZnE):Option (List ZnA):=
 bif t36 then (
  Zw6 rec_ t15 t16 i value at_ out
 )else (
  bif (!(Zg3 (k:= .str) (v:=(.int .i64)) (car:=ZyW) at_ k.Text).isSome)then (
   (ZvL k.Text).bind fun q=>
   (ZzT).bind fun q_1=>
   chk (ZiZ (out.length+([(ZnA.mk k.Text q 0 q_1)]:(List ZnA)).length) 96) <|
   Zw7 rec_ (out.length:Int) t15 t16 i value (setB (k:= .str) (v:=(.int .i64)) (car:=ZyW) at_ k.Text (out.length:Int)) (out++([(ZnA.mk k.Text q 0 q_1)]:(List ZnA))) v_
  )else (
   Zw7 rec_ ((Zg3 (k:= .str) (v:=(.int .i64)) (car:=ZyW) at_ k.Text).getD (0:Int)) t15 t16 i value at_ out v_
  )
 )
def Zxy (rec_:(List G_api_Cell)→Int→Int→G_api_Column→(List (Str×Int))→(List ZnA)→Option (List ZnA)) (t15:(List G_api_Cell)) (t16:Int) (i:Int) (value:G_api_Column) (at_:(List (Str×Int))) (out:(List ZnA)):Option (List ZnA):=
 bif (decide (i < t16))then (
  (idx t15 i).bind fun k=>
  (idx value.Cells i).bind fun Cell=>
  (Zz0 Cell).bind fun(v_,ok)=>
  bif k.Null then (
   Zuq rec_ t15 t16 i true value at_ out k v_
  )else (
   Zuq rec_ t15 t16 i (!ok) value at_ out k v_
  )
 )else (
  some out
 )
def Ztl:Nat→(List G_api_Cell)→Int→Int→G_api_Column→(List (Str×Int))→(List ZnA)→Option (List ZnA)
 |0,_,_,_,_,_,_=>none
 |n_+1,t15,t16,i,value,at_,out=>Zxy (Ztl n_) t15 t16 i value at_ out
def ZAg (n:Nat) (s:((List G_api_Cell)×Int×Int×G_api_Column×(List (Str×Int))×(List ZnA))):Option (List ZnA):=Ztl n s.1 s.2.1 s.2.2.1 s.2.2.2.1 s.2.2.2.2.1 s.2.2.2.2.2
def ZyH (rec_:((List G_api_Cell)×Int×Int×G_api_Column×(List (Str×Int))×(List ZnA))→Option (List ZnA)) (s:((List G_api_Cell)×Int×Int×G_api_Column×(List (Str×Int))×(List ZnA))):Option (List ZnA):=Zxy (fun t15 t16 i value at_ out=>rec_ (t15,t16,i,value,at_,out)) s.1 s.2.1 s.2.2.1 s.2.2.2.1 s.2.2.2.2.1 s.2.2.2.2.2
theorem ZBi:∀n s,ZAg (n+1) s=ZyH (ZAg n) s:=fun _ _=>rfl
def ZyI (key:G_api_Column) (value:G_api_Column):Option (List ZnA):=
 (Ztl big key.Cells (key.Cells.length:Int) (0:Int) value ([]:(List (Str×Int))) ([]:(List ZnA))).bind fun x0=>Zzw x0
def Zw4 (k:Int) (t17:Bool) (key:G_api_Column) (value:G_api_Column) (t6:Int) (t6_1:Bool) (t6_2:(List ZnA)):Option (ZnM×Int):=
 bif t17 then (
  some ((ZnM.mk 0 false ([]:(List ZnA))),1)
 )else (
  (ZyI key value).bind fun l=>
  chk (Zb9 0 (if (l.length:Int) < k then (l.length:Int)else k) (l.length:Int)) <|
  some ((ZnM.mk k (decide ((l.length:Int)≤k)) ((l.drop 0).take (((if (l.length:Int) < k then (l.length:Int)else k)).toNat - 0))),0)
 )
def Zw5 (k:Int) (t9:Bool) (key:G_api_Column) (value:G_api_Column) (t6:Int) (t6_1:Bool) (t6_2:(List ZnA)):Option (ZnM×Int):=
 bif t9 then (
  some ((ZnM.mk 0 false ([]:(List ZnA))),2)
 )else (
  bif ((key.Cells.length:Int) != (value.Cells.length:Int))then (
   Zw4 k true key value t6 t6_1 t6_2
  )else (
   Zw4 k (decide ((key.Cells.length:Int) > 4096)) key value t6 t6_1 t6_2
  )
 )
def ZvK (key:G_api_Column) (value:G_api_Column) (k:Int):Option (ZnM×Int):=
 bif (decide (k < 1))then (
  Zw5 k true key value (0:Int) false ([]:(List ZnA))
 )else (
  Zw5 k (decide (k > 256)) key value (0:Int) false ([]:(List ZnA))
 )
def Zy0:Option Bool:=
 some true
def ZtN (rec_:(List ZnA)→Int→Int→ZnM→Option (Out Unit Bool)) (t35:(List ZnA)) (t36:Int) (i:Int) (t73:Bool) (s:ZnM):Option (Out Unit Bool):=
 bif t73 then (
  some (.ret false)
 )else (
  chk (inK .i64 (i+1)) <|
  rec_ t35 t36 (i+1) s
 )
def ZwN (rec_:(List ZnA)→Int→Int→ZnM→Option (Out Unit Bool)) (t35:(List ZnA)) (t36:Int) (i:Int) (s:ZnM):Option (Out Unit Bool):=
 bif (decide (i < t36))then (
  (idx t35 i).bind fun e=>
  (ZvL e.Key).bind fun q=>
  bif (e.Hash != q)then (
   ZtN rec_ t35 t36 i true s
  )else (
   bif (decide (e.Count < 1))then (
    ZtN rec_ t35 t36 i true s
   )else (
    (Zut e.Sum).bind fun q_1=>
    bif (!q_1)then (
     ZtN rec_ t35 t36 i true s
    )else (
     bif (decide (i > 0))then (
      chk (inK .i64 (i - 1)) <|
      (idx s.Entries (i - 1)).bind fun Entrie=>
      (ZoH Entrie e).bind fun q_2=>
      ZtN rec_ t35 t36 i (decide (q_2≥0)) s
     )else (
      ZtN rec_ t35 t36 i false s
     )
    )
   )
  )
 )else (
  some (.brk ())
 )
def ZuV:Nat→(List ZnA)→Int→Int→ZnM→Option (Out Unit Bool)
 |0,_,_,_,_=>none
 |n_+1,t35,t36,i,s=>ZwN (ZuV n_) t35 t36 i s
def ZzZ (n:Nat) (s:((List ZnA)×Int×Int×ZnM)):Option (Out Unit Bool):=ZuV n s.1 s.2.1 s.2.2.1 s.2.2.2
def ZyC (rec_:((List ZnA)×Int×Int×ZnM)→Option (Out Unit Bool)) (s:((List ZnA)×Int×Int×ZnM)):Option (Out Unit Bool):=ZwN (fun t35 t36 i s=>rec_ (t35,t36,i,s)) s.1 s.2.1 s.2.2.1 s.2.2.2
theorem ZBe:∀n s,ZzZ (n+1) s=ZyC (ZzZ n) s:=fun _ _=>rfl
def ZtO (t33:Bool) (s:ZnM):Option Bool:=
 bif t33 then (
  some false
 )else (
  (ZuV big s.Entries (s.Entries.length:Int) (0:Int) s).bind fun
   | .ret q_=>some q_
   | .brk ()=>Zy0
 )
def Zxd (s:ZnM):Option Bool:=
 bif (decide (s.K < 1))then (
  ZtO true s
 )else (
  bif (decide (s.K > 256))then (
   ZtO true s
  )else (
   bif (decide ((s.Entries.length:Int) > s.K))then (
    ZtO true s
   )else (
    bif (!s.All)then (
     ZtO (decide ((s.Entries.length:Int) < s.K)) s
    )else (
     ZtO false s
    )
   )
  )
 )
def Zyb (w_:(List Int)):Option (List Int):=
 some w_
def ZvC (rec_:(List Int)→Option (List Int)) (w_:(List Int)) (t14:Bool):Option (List Int):=
 bif t14 then (
  chk (inK .i64 ((w_.length:Int) - 1)) <|
  chk (Zb9 0 ((w_.length:Int) - 1) (w_.length:Int)) <|
  rec_ (w_.take (((w_.length:Int) - 1)).toNat)
 )else (
  some w_
 )
def Zxu (rec_:(List Int)→Option (List Int)) (w_:(List Int)):Option (List Int):=
 bif (decide ((w_.length:Int) > 0))then (
  chk (inK .i64 ((w_.length:Int) - 1)) <|
  (idx w_ ((w_.length:Int) - 1)).bind fun w__e=>
  ZvC rec_ w_ (w__e == 0)
 )else (
  ZvC rec_ w_ false
 )
def Zpw:Nat→(List Int)→Option (List Int)
 |0,_=>none
 |n_+1,w_=>Zxu (Zpw n_) w_
def Zor (w_:(List Int)):Option (List Int):=
 (Zpw big w_).bind fun x0=>Zyb x0
def Zt3 (t4:ZnD):Option ZnD:=
 some t4
def Zod (neg:Bool) (w_:(List Int)):Option ZnD:=
 (Zor w_).bind fun w__1=>
 bif neg then (
  Zt3 (ZnD.mk (decide ((w__1.length:Int) > 0)) w__1)
 )else (
  Zt3 (ZnD.mk false w__1)
 )
def Zr4 (n:Int) (u:Int) (t2:Bool) (t2_1:(List Int)):Option ZnD:=
 chk (decide (0≤(32:Int))) <|
 (Zod (decide (n < 0)) ([(IntKind.wrap .u32 u),(IntKind.wrap .u32 (shrK .u64 u 32))]:(List Int))).bind fun q=>
 some q
def Zn6 (n:Int):Option ZnD:=
 bif (decide (n < 0))then (
  Zr4 n (IntKind.wrap .u64 (0 - (IntKind.wrap .u64 n))) false ([]:(List Int))
 )else (
  Zr4 n (IntKind.wrap .u64 n) false ([]:(List Int))
 )
def ZoI (t2:Bool):Option Bool:=
 some t2
def Zpl (a:ZnD):Option Bool:=
 bif (decide ((a.Words.length:Int)≤256))then (
  bif ((a.Words.length:Int) == 0)then (
   bif (!a.Neg)then (
    ZoI true
   )else (
    bif (decide ((a.Words.length:Int) > 0))then (
     chk (inK .i64 ((a.Words.length:Int) - 1)) <|
     (idx a.Words ((a.Words.length:Int) - 1)).bind fun Word=>
     ZoI (Word != 0)
    )else (
     ZoI false
    )
   )
  )else (
   bif (decide ((a.Words.length:Int) > 0))then (
    chk (inK .i64 ((a.Words.length:Int) - 1)) <|
    (idx a.Words ((a.Words.length:Int) - 1)).bind fun Word_1=>
    ZoI (Word_1 != 0)
   )else (
    ZoI false
   )
  )
 )else (
  ZoI false
 )
def ZvD (out:(List Int)):Option (List Int):=
 (Zor out).bind fun q=>
 some q
def Zrx (rec_:(List Int)→Int→Int→(List Int)→Option (List Int)) (a:(List Int)) (t9:Int) (i:Int) (out:(List Int)):Option (List Int):=
 chk (inK .i64 (i+1)) <|
 rec_ a t9 (i+1) out
def ZsK (rec_:(List Int)→Int→Int→(List Int)→Option (List Int)) (a:(List Int)) (t9:Int) (i:Int) (out:(List Int)):Option (List Int):=
 bif (decide (i < t9))then (
  chk (inR i (out.length:Int)) <|
  (out[(i).toNat]?).bind fun out_e=>
  chk (decide (0≤(1:Int))) <|
  chk (inR i (out.length:Int)) <|
  chk (inK .i64 (i+1)) <|
  bif (decide ((i+1) < (a.length:Int)))then (
   chk (inR i ((out.set ((i).toNat) (shrK .u32 out_e 1)).length:Int)) <|
   ((out.set ((i).toNat) (shrK .u32 out_e 1))[(i).toNat]?).bind fun e_e=>
   chk (inK .i64 (i+1)) <|
   (idx a (i+1)).bind fun a_e=>
   chk (decide (0≤(31:Int))) <|
   chk (inR i ((out.set ((i).toNat) (shrK .u32 out_e 1)).length:Int)) <|
   Zrx rec_ a t9 i ((out.set ((i).toNat) (shrK .u32 out_e 1)).set ((i).toNat) (orK .u32 e_e (shlK .u32 a_e 31)))
  )else (
   Zrx rec_ a t9 i (out.set ((i).toNat) (shrK .u32 out_e 1))
  )
 )else (
  some out
 )
def Zrw:Nat→(List Int)→Int→Int→(List Int)→Option (List Int)
 |0,_,_,_,_=>none
 |n_+1,a,t9,i,out=>ZsK (Zrw n_) a t9 i out
def Zxv (n:Nat) (s:((List Int)×Int×Int×(List Int))):Option (List Int):=Zrw n s.1 s.2.1 s.2.2.1 s.2.2.2
def ZuJ (rec_:((List Int)×Int×Int×(List Int))→Option (List Int)) (s:((List Int)×Int×Int×(List Int))):Option (List Int):=ZsK (fun a t9 i out=>rec_ (a,t9,i,out)) s.1 s.2.1 s.2.2.1 s.2.2.2
theorem Zzu:∀n s,Zxv (n+1) s=ZuJ (Zxv n) s:=fun _ _=>rfl
def ZpE (a:(List Int)):Option (List Int):=
 chk (ZiZ (([]:(List Int)).length+a.length) 4) <|
 (Zrw big a ((([]:(List Int))++a).length:Int) (0:Int) (([]:(List Int))++a)).bind fun x0=>ZvD x0
def Zv6:Option Int:=
 some (0:Int)
def Zs1 (rec_:(List Int)→(List Int)→Int→Option (Out Unit Int)) (a:(List Int)) (b:(List Int)) (i:Int):Option (Out Unit Int):=
 bif (decide (i≥0))then (
  (idx a i).bind fun a_e=>
  (idx b i).bind fun b_e=>
  bif (decide (a_e < b_e))then (
   some (.ret (-1:Int))
  )else (
   (idx a i).bind fun a_e_1=>
   (idx b i).bind fun b_e_1=>
   bif (decide (a_e_1 > b_e_1))then (
    some (.ret (1:Int))
   )else (
    chk (inK .i64 (i - 1)) <|
    rec_ a b (i - 1)
   )
  )
 )else (
  some (.brk ())
 )
def Zt2:Nat→(List Int)→(List Int)→Int→Option (Out Unit Int)
 |0,_,_,_=>none
 |n_+1,a,b,i=>Zs1 (Zt2 n_) a b i
def ZxJ (n:Nat) (s:((List Int)×(List Int)×Int)):Option (Out Unit Int):=Zt2 n s.1 s.2.1 s.2.2
def Zu5 (rec_:((List Int)×(List Int)×Int)→Option (Out Unit Int)) (s:((List Int)×(List Int)×Int)):Option (Out Unit Int):=Zs1 (fun a b i=>rec_ (a,b,i)) s.1 s.2.1 s.2.2
theorem ZzN:∀n s,ZxJ (n+1) s=Zu5 (ZxJ n) s:=fun _ _=>rfl
def ZoX (a:(List Int)) (b:(List Int)):Option Int:=
 bif ((a.length:Int) != (b.length:Int))then (
  bif (decide ((a.length:Int) < (b.length:Int)))then (
   some (-1:Int)
  )else (
   some (1:Int)
  )
 )else (
  chk (inK .i64 ((a.length:Int) - 1)) <|
  (Zt2 big a b ((a.length:Int) - 1)).bind fun
   | .ret q_=>some q_
   | .brk ()=>Zv6
 )
def ZvX (out:(List Int)):Option (List Int):=
 (Zor out).bind fun q=>
 some q
def ZrS (rec_:(List Int)→(List Int)→Int→Int→(List Int)→Option (List Int)) (a:(List Int)) (b:(List Int)) (c:Int) (i:Int) (out:(List Int)):Option (List Int):=
 chk (ZiZ (out.length+([(IntKind.wrap .u32 c)]:(List Int)).length) 4) <|
 chk (decide (0≤(32:Int))) <|
 chk (inK .i64 (i+1)) <|
 rec_ a b (shrK .i64 c 32) (i+1) (out++([(IntKind.wrap .u32 c)]:(List Int)))
def ZsX (rec_:(List Int)→(List Int)→Int→Int→(List Int)→Option (List Int)) (a:(List Int)) (b:(List Int)) (c:Int) (i:Int) (out:(List Int)):Option (List Int):=
 bif (decide (i < (a.length:Int)))then (
  (idx a i).bind fun a_e=>
  chk (inK .i64 (c+(IntKind.wrap .i64 a_e))) <|
  bif (decide (i < (b.length:Int)))then (
   (idx b i).bind fun b_e=>
   chk (inK .i64 ((c+(IntKind.wrap .i64 a_e)) - (IntKind.wrap .i64 b_e))) <|
   ZrS rec_ a b ((c+(IntKind.wrap .i64 a_e)) - (IntKind.wrap .i64 b_e)) i out
  )else (
   ZrS rec_ a b (c+(IntKind.wrap .i64 a_e)) i out
  )
 )else (
  some out
 )
def ZrR:Nat→(List Int)→(List Int)→Int→Int→(List Int)→Option (List Int)
 |0,_,_,_,_,_=>none
 |n_+1,a,b,c,i,out=>ZsX (ZrR n_) a b c i out
def ZxF (n:Nat) (s:((List Int)×(List Int)×Int×Int×(List Int))):Option (List Int):=ZrR n s.1 s.2.1 s.2.2.1 s.2.2.2.1 s.2.2.2.2
def ZuZ (rec_:((List Int)×(List Int)×Int×Int×(List Int))→Option (List Int)) (s:((List Int)×(List Int)×Int×Int×(List Int))):Option (List Int):=ZsX (fun a b c i out=>rec_ (a,b,c,i,out)) s.1 s.2.1 s.2.2.1 s.2.2.2.1 s.2.2.2.2
theorem ZzJ:∀n s,ZxF (n+1) s=ZuZ (ZxF n) s:=fun _ _=>rfl
def ZpU (a:(List Int)) (b:(List Int)):Option (List Int):=
 (ZrR big a b (0:Int) (0:Int) ([]:(List Int))).bind fun x0=>ZvX x0
def ZuY (d:Int) (out:(List Int)):Option (List Int):=
 chk (ZiZ (out.length+([d]:(List Int)).length) 4) <|
 (Zor (out++([d]:(List Int)))).bind fun q=>
 some q
def Zr2 (rec_:(List Int)→Int→Int→(List Int)→Option (Int×(List Int))) (a:(List Int)) (d:Int) (i:Int) (out:(List Int)):Option (Int×(List Int)):=
 bif (decide (i < (a.length:Int)))then (
  (idx a i).bind fun a_e=>
  chk (decide (0≤(1:Int))) <|
  chk (ZiZ (out.length+([(orK .u32 (shlK .u32 a_e 1) d)]:(List Int)).length) 4) <|
  (idx a i).bind fun a_e_1=>
  chk (decide (0≤(31:Int))) <|
  chk (inK .i64 (i+1)) <|
  rec_ a (shrK .u32 a_e_1 31) (i+1) (out++([(orK .u32 (shlK .u32 a_e 1) d)]:(List Int)))
 )else (
  some (d,out)
 )
def ZsW:Nat→(List Int)→Int→Int→(List Int)→Option (Int×(List Int))
 |0,_,_,_,_=>none
 |n_+1,a,d,i,out=>Zr2 (ZsW n_) a d i out
def ZwZ (n:Nat) (s:((List Int)×Int×Int×(List Int))):Option (Int×(List Int)):=ZsW n s.1 s.2.1 s.2.2.1 s.2.2.2
def Zuk (rec_:((List Int)×Int×Int×(List Int))→Option (Int×(List Int))) (s:((List Int)×Int×Int×(List Int))):Option (Int×(List Int)):=Zr2 (fun a d i out=>rec_ (a,d,i,out)) s.1 s.2.1 s.2.2.1 s.2.2.2
theorem Zy8:∀n s,ZwZ (n+1) s=Zuk (ZwZ n) s:=fun _ _=>rfl
def ZqS (a:(List Int)) (d:Int):Option (List Int):=
 (ZsW big a d (0:Int) ([]:(List Int))).bind fun(x0,x1)=>ZuY x0 x1
def Zv0 (a:(List Int)):Option (List Int):=
 some a
def Zq0 (rec_:(List Int)→Int→Option (List Int)) (a:(List Int)) (k:Int):Option (List Int):=
 bif (decide (k > 0))then (
  (ZqS a 0).bind fun a_1=>
  chk (inK .i64 (k - 1)) <|
  rec_ a_1 (k - 1)
 )else (
  some a
 )
def ZqD:Nat→(List Int)→Int→Option (List Int)
 |0,_,_=>none
 |n_+1,a,k=>Zq0 (ZqD n_) a k
def Zv1 (a:(List Int)) (k:Int):Option (List Int):=
 (ZqD big a k).bind fun x0=>Zv0 x0
def Zt0 (rec_:(List Int)→(List Int)→Int→Option ((List Int)×Int)) (a:(List Int)) (b:(List Int)) (k:Int):Option ((List Int)×Int):=
 (ZpU b a).bind fun b_1=>
 rec_ a b_1 k
def Zv2 (rec_:(List Int)→(List Int)→Int→Option ((List Int)×Int)) (a:(List Int)) (b:(List Int)) (k:Int):Option ((List Int)×Int):=
 (ZoX a b).bind fun q=>
 bif (decide (q > 0))then (
  Zt0 rec_ b a k
 )else (
  Zt0 rec_ a b k
 )
def Zu2 (rec_:(List Int)→(List Int)→Int→Option ((List Int)×(List Int)×Int)) (a:(List Int)) (b:(List Int)) (k:Int):Option ((List Int)×(List Int)×Int):=
 (idx b 0).bind fun b_e=>
 bif ((andK .u32 b_e 1) == 0)then (
  (ZpE b).bind fun b_1=>
  rec_ a b_1 k
 )else (
  some (a,b,k)
 )
def Zpg:Nat→(List Int)→(List Int)→Int→Option ((List Int)×(List Int)×Int)
 |0,_,_,_=>none
 |n_+1,a,b,k=>Zu2 (Zpg n_) a b k
def Zv3 (rec_:(List Int)→(List Int)→Int→Option ((List Int)×Int)) (a:(List Int)) (b:(List Int)) (k:Int):Option ((List Int)×Int):=
 (Zpg big a b k).bind fun(x0,x1,x2)=>Zv2 rec_ x0 x1 x2
def Zq1 (rec_:(List Int)→(List Int)→Int→Option ((List Int)×(List Int)×Int)) (a:(List Int)) (b:(List Int)) (k:Int):Option ((List Int)×(List Int)×Int):=
 (idx a 0).bind fun a_e=>
 bif ((andK .u32 a_e 1) == 0)then (
  (ZpE a).bind fun a_1=>
  rec_ a_1 b k
 )else (
  some (a,b,k)
 )
def Zph:Nat→(List Int)→(List Int)→Int→Option ((List Int)×(List Int)×Int)
 |0,_,_,_=>none
 |n_+1,a,b,k=>Zq1 (Zph n_) a b k
def Zq2 (rec_:(List Int)→(List Int)→Int→Option ((List Int)×Int)) (a:(List Int)) (b:(List Int)) (k:Int):Option ((List Int)×Int):=
 bif (decide ((b.length:Int) > 0))then (
  (Zph big a b k).bind fun(x0,x1,x2)=>Zv3 rec_ x0 x1 x2
 )else (
  some (a,k)
 )
def Zoe:Nat→(List Int)→(List Int)→Int→Option ((List Int)×Int)
 |0,_,_,_=>none
 |n_+1,a,b,k=>Zq2 (Zoe n_) a b k
def Zv4 (a:(List Int)) (b:(List Int)) (k:Int):Option (List Int):=
 (Zoe big a b k).bind fun(x0,x1)=>Zv1 x0 x1
def Zt1 (rec_:(List Int)→(List Int)→Int→Option ((List Int)×(List Int)×Int)) (a:(List Int)) (b:(List Int)) (k:Int) (t17:Bool):Option ((List Int)×(List Int)×Int):=
 bif t17 then (
  (ZpE a).bind fun a_1=>
  (ZpE b).bind fun b_1=>
  chk (inK .i64 (k+1)) <|
  rec_ a_1 b_1 (k+1)
 )else (
  some (a,b,k)
 )
def Zu3 (rec_:(List Int)→(List Int)→Int→Option ((List Int)×(List Int)×Int)) (a:(List Int)) (b:(List Int)) (k:Int):Option ((List Int)×(List Int)×Int):=
 (idx a 0).bind fun a_e=>
 bif ((andK .u32 a_e 1) == 0)then (
  (idx b 0).bind fun b_e=>
  Zt1 rec_ a b k ((andK .u32 b_e 1) == 0)
 )else (
  Zt1 rec_ a b k false
 )
def ZqE:Nat→(List Int)→(List Int)→Int→Option ((List Int)×(List Int)×Int)
 |0,_,_,_=>none
 |n_+1,a,b,k=>Zu3 (ZqE n_) a b k
def ZrH (a:(List Int)) (b:(List Int)):Option (List Int):=
 (ZqE big a b (0:Int)).bind fun(x0,x1,x2)=>Zv4 x0 x1 x2
def ZtE (a:(List Int)) (i:Int):Option Int:=
 chk (decide ((32:Int)≠0)) <|
 chk (inK .i64 (Int.tdiv i 32)) <|
 (idx a (Int.tdiv i 32)).bind fun a_e=>
 chk (decide ((32:Int)≠0)) <|
 chk (decide (0≤(IntKind.wrap .u64 (Int.tmod i 32)))) <|
 some (andK .u32 (shrK .u32 a_e (IntKind.wrap .u64 (Int.tmod i 32))) 1)
def Zv5 (r_:(List Int)) (q:(List Int)):Option ((List Int)×(List Int)):=
 (Zor q).bind fun q_1=>
 some (q_1,r_)
def ZrW (rec_:(List Int)→(List Int)→(List Int)→Int→(List Int)→Option ((List Int)×(List Int))) (a:(List Int)) (b:(List Int)) (r_:(List Int)) (i:Int) (q:(List Int)):Option ((List Int)×(List Int)):=
 chk (inK .i64 (i - 1)) <|
 rec_ a b r_ (i - 1) q
def Zs0 (rec_:(List Int)→(List Int)→(List Int)→Int→(List Int)→Option ((List Int)×(List Int))) (a:(List Int)) (b:(List Int)) (r_:(List Int)) (i:Int) (q:(List Int)):Option ((List Int)×(List Int)):=
 bif (decide (i≥0))then (
  (ZtE a i).bind fun q_1=>
  (ZqS r_ q_1).bind fun r__1=>
  (ZoX r__1 b).bind fun q_2=>
  bif (decide (q_2≥0))then (
   (ZpU r__1 b).bind fun r__2=>
   chk (decide ((32:Int)≠0)) <|
   chk (inK .i64 (Int.tdiv i 32)) <|
   chk (inR (Int.tdiv i 32) (q.length:Int)) <|
   (q[((Int.tdiv i 32)).toNat]?).bind fun q_e=>
   chk (decide ((32:Int)≠0)) <|
   chk (decide (0≤(IntKind.wrap .u64 (Int.tmod i 32)))) <|
   chk (inR (Int.tdiv i 32) (q.length:Int)) <|
   ZrW rec_ a b r__2 i (q.set (((Int.tdiv i 32)).toNat) (orK .u32 q_e (shlK .u32 1 (IntKind.wrap .u64 (Int.tmod i 32)))))
  )else (
   ZrW rec_ a b r__1 i q
  )
 )else (
  some (r_,q)
 )
def ZrV:Nat→(List Int)→(List Int)→(List Int)→Int→(List Int)→Option ((List Int)×(List Int))
 |0,_,_,_,_,_=>none
 |n_+1,a,b,r_,i,q=>Zs0 (ZrV n_) a b r_ i q
def ZxI (n:Nat) (s:((List Int)×(List Int)×(List Int)×Int×(List Int))):Option ((List Int)×(List Int)):=ZrV n s.1 s.2.1 s.2.2.1 s.2.2.2.1 s.2.2.2.2
def Zu4 (rec_:((List Int)×(List Int)×(List Int)×Int×(List Int))→Option ((List Int)×(List Int))) (s:((List Int)×(List Int)×(List Int)×Int×(List Int))):Option ((List Int)×(List Int)):=Zs0 (fun a b r_ i q=>rec_ (a,b,r_,i,q)) s.1 s.2.1 s.2.2.1 s.2.2.2.1 s.2.2.2.2
theorem ZzM:∀n s,ZxI (n+1) s=Zu4 (ZxI n) s:=fun _ _=>rfl
def ZrI (a:(List Int)) (b:(List Int)):Option ((List Int)×(List Int)):=
 chk (mkOk (a.length:Int) (a.length:Int) 4) <|
 chk (inK .i64 (32*(a.length:Int))) <|
 chk (inK .i64 ((32*(a.length:Int)) - 1)) <|
 (ZrV big a b ([]:(List Int)) ((32*(a.length:Int)) - 1) (List.replicate ((a.length:Int)).toNat (0:Int))).bind fun(x0,x1)=>Zv5 x0 x1
def ZpJ (num:ZnD) (den:ZnD):Option ZnE:=
 bif ((num.Words.length:Int) == 0)then (
  (Zn6 1).bind fun q=>
  some (ZnE.mk (ZnD.mk false ([]:(List Int))) q)
 )else (
  (ZrH num.Words den.Words).bind fun g=>
  (ZrI num.Words g).bind fun(x_,q_1)=>
  (ZrI den.Words g).bind fun(y,q_2)=>
  (Zod (!(num.Neg == den.Neg)) x_).bind fun q_3=>
  (Zod false y).bind fun q_4=>
  some (ZnE.mk q_3 q_4)
 )
def Ztw (t13:Bool) (num:ZnD) (den:ZnD) (t4:Bool) (t4_1:Bool) (t4_2:(List Int)) (t4_3:(List Int)):Option (ZnE×Int):=
 bif t13 then (
  some ((ZnE.mk (ZnD.mk false ([]:(List Int))) (ZnD.mk false ([]:(List Int)))),1)
 )else (
  bif ((den.Words.length:Int) == 0)then (
   some ((ZnE.mk (ZnD.mk false ([]:(List Int))) (ZnD.mk false ([]:(List Int)))),8)
  )else (
   (ZpJ num den).bind fun q=>
   some (q,0)
  )
 )
def Zs5 (num:ZnD) (den:ZnD):Option (ZnE×Int):=
 (Zpl num).bind fun q=>
 bif (!q)then (
  Ztw true num den false false ([]:(List Int)) ([]:(List Int))
 )else (
  (Zpl den).bind fun q_1=>
  Ztw (!q_1) num den false false ([]:(List Int)) ([]:(List Int))
 )
def Zsp (num:Int) (den:Int):Option (ZnE×Int):=
 (Zn6 num).bind fun q=>
 (Zn6 den).bind fun q_1=>
 (Zs5 q q_1).bind fun(q_2,q_3)=>
 some (q_2,q_3)
def ZsS (n:Int) (d:Int):Option ZnE:=
 (Zsp n d).bind fun(f,q)=>
 some f
def ZtB (n:Int):Option ZnE:=
 (ZsS n 1).bind fun q=>
 some q
def Zuj:Option Bool:=
 some true
def Zrj (rec_:(List Int)→Int→Int→ZnD→Option (Out Unit Bool)) (t22:(List Int)) (t23:Int) (i:Int) (b:ZnD):Option (Out Unit Bool):=
 bif (decide (i < t23))then (
  (idx t22 i).bind fun w_=>
  (idx b.Words i).bind fun Word=>
  bif (Word != w_)then (
   some (.ret false)
  )else (
   chk (inK .i64 (i+1)) <|
   rec_ t22 t23 (i+1) b
  )
 )else (
  some (.brk ())
 )
def Zr0:Nat→(List Int)→Int→Int→ZnD→Option (Out Unit Bool)
 |0,_,_,_,_=>none
 |n_+1,t22,t23,i,b=>Zrj (Zr0 n_) t22 t23 i b
def Zwu (n:Nat) (s:((List Int)×Int×Int×ZnD)):Option (Out Unit Bool):=Zr0 n s.1 s.2.1 s.2.2.1 s.2.2.2
def ZtI (rec_:((List Int)×Int×Int×ZnD)→Option (Out Unit Bool)) (s:((List Int)×Int×Int×ZnD)):Option (Out Unit Bool):=Zrj (fun t22 t23 i b=>rec_ (t22,t23,i,b)) s.1 s.2.1 s.2.2.1 s.2.2.2
theorem ZyS:∀n s,Zwu (n+1) s=ZtI (Zwu n) s:=fun _ _=>rfl
def Zr1 (t20:Bool) (a:ZnD) (b:ZnD):Option Bool:=
 bif t20 then (
  some false
 )else (
  (Zr0 big a.Words (a.Words.length:Int) (0:Int) b).bind fun
   | .ret q_=>some q_
   | .brk ()=>Zuj
 )
def Zqq (a:ZnD) (b:ZnD):Option Bool:=
 bif (!(a.Neg == b.Neg))then (
  Zr1 true a b
 )else (
  Zr1 ((a.Words.length:Int) != (b.Words.length:Int)) a b
 )
def Ztr (t4:Bool):Option Bool:=
 some t4
def Zrk (a:ZnE) (b:ZnE):Option Bool:=
 (Zqq a.Num b.Num).bind fun q=>
 bif q then (
  (Zqq a.Den b.Den).bind fun q_1=>
  Ztr q_1
 )else (
  Ztr false
 )
def Zu8:Option Bool:=
 (ZvL ([]:Str)).bind fun q=>
 some (q == 14695981039346656037)
def Zq6 (rec_:(List ZnA)→Int→Int→Option (Out Unit Bool)) (t42:(List ZnA)) (t43:Int) (t44:Int) (t62:Bool):Option (Out Unit Bool):=
 bif t62 then (
  some (.ret false)
 )else (
  chk (inK .i64 (t44+1)) <|
  rec_ t42 t43 (t44+1)
 )
def Zr8 (rec_:(List ZnA)→Int→Int→Option (Out Unit Bool)) (t42:(List ZnA)) (t43:Int) (t44:Int):Option (Out Unit Bool):=
 bif (decide (t44 < t43))then (
  (idx t42 t44).bind fun x_=>
  bif (x_.Key == ([97]:Str))then (
   bif (x_.Count != 2)then (
    Zq6 rec_ t42 t43 t44 true
   )else (
    (ZtB 3).bind fun q=>
    (Zrk x_.Sum q).bind fun q_1=>
    Zq6 rec_ t42 t43 t44 (!q_1)
   )
  )else (
   Zq6 rec_ t42 t43 t44 false
  )
 )else (
  some (.brk ())
 )
def Zp2:Nat→(List ZnA)→Int→Int→Option (Out Unit Bool)
 |0,_,_,_=>none
 |n_+1,t42,t43,t44=>Zr8 (Zp2 n_) t42 t43 t44
def Zw3 (n:Nat) (s:((List ZnA)×Int×Int)):Option (Out Unit Bool):=Zp2 n s.1 s.2.1 s.2.2
def Zup (rec_:((List ZnA)×Int×Int)→Option (Out Unit Bool)) (s:((List ZnA)×Int×Int)):Option (Out Unit Bool):=Zr8 (fun t42 t43 t44=>rec_ (t42,t43,t44)) s.1 s.2.1 s.2.2
theorem Zzb:∀n s,Zw3 (n+1) s=Zup (Zw3 n) s:=fun _ _=>rfl
def Zp3 (t40:Bool) (s:ZnM):Option Bool:=
 bif t40 then (
  some false
 )else (
  (Zp2 big s.Entries (s.Entries.length:Int) (0:Int)).bind fun
   | .ret q_=>some q_
   | .brk ()=>Zu8
 )
def ZqV:Option Bool:=
 (ZvK (G_api_Column.mk ([]:Str) ([(G_api_Cell.mk false ([97]:Str)),(G_api_Cell.mk false ([97]:Str)),(G_api_Cell.mk false ([98]:Str))]:(List G_api_Cell))) (G_api_Column.mk ([]:Str) ([(G_api_Cell.mk false ([49]:Str)),(G_api_Cell.mk false ([50]:Str)),(G_api_Cell.mk false ([53]:Str))]:(List G_api_Cell))) 10).bind fun(s,e)=>
 bif (e != 0)then (
  Zp3 true s
 )else (
  bif (!s.All)then (
   Zp3 true s
  )else (
   bif ((s.Entries.length:Int) != 2)then (
    Zp3 true s
   )else (
    (Zxd s).bind fun q=>
    Zp3 (!q) s
   )
  )
 )
def ZvJ (t:(List Int)):Option ZnI:=
 some (ZnI.mk t 0)
def ZrD (n:Int) (m:Int):Option Int:=
 bif (decide (m < 1))then (
  some (0:Int)
 )else (
  chk (decide (m≠0)) <|
  chk (inK .i64 ((Int.tmod n m)+m)) <|
  chk (decide (m≠0)) <|
  some (Int.tmod ((Int.tmod n m)+m) m)
 )
def Zon (d:ZnI) (n:Int):Option (Int×ZnI):=
 bif (decide (d.at_≥(d.l.length:Int)))then (
  some (0,d)
 )else (
  chk (inK .i64 (d.at_+1)) <|
  chk (inK .i64 ((d.at_+1) - 1)) <|
  (idx d.l ((d.at_+1) - 1)).bind fun l_e=>
  (ZrD l_e n).bind fun q=>
  some (q,(ZnI.mk d.l (d.at_+1)))
 )
def Zo2 (d:ZnI) (l:(List Str)):Option (Str×ZnI):=
 (Zon d (l.length:Int)).bind fun(q,t6)=>
 (idx l q).bind fun l_e=>
 some (l_e,t6)
def Zue (d:ZnI):Option (G_api_Cell×ZnI):=
 (Zon d 7).bind fun(q,t3)=>
 bif (q == 1)then (
  some ((G_api_Cell.mk true ([]:Str)),t3)
 )else (
  (Zo2 t3 ([([97]:Str),([98]:Str),([99]:Str),([49]:Str),([50]:Str),([51]:Str),([49,48]:Str),([120]:Str),([45,49,46,53]:Str),([50]:Str)]:(List Str))).bind fun(q_1,t7)=>
  some ((G_api_Cell.mk false q_1),t7)
 )
def Zxc (n:Int):Option Str:=
 some (Lib.itoa n)
def Zs8 (d:ZnI):Option (G_api_Cell×ZnI):=
 (Zon d 9).bind fun(q,t3)=>
 bif (q == 1)then (
  some ((G_api_Cell.mk true ([]:Str)),t3)
 )else (
  bif (q == 2)then (
   (Zo2 t3 ([([120]:Str),([]:Str),([49,46,50,46,51]:Str),([49,46,53,48]:Str)]:(List Str))).bind fun(q_1,t10)=>
   some ((G_api_Cell.mk false q_1),t10)
  )else (
   (Zon t3 12).bind fun(q_2,t14)=>
   chk (inK .i64 (q_2 - 3)) <|
   (Zxc (q_2 - 3)).bind fun q_3=>
   some ((G_api_Cell.mk false q_3),t14)
  )
 )
def ZvE (d:ZnI) (t4:Str) (c:Str) (t4_1:(List G_api_Cell)) (c_1:(List G_api_Cell)):Option (G_api_Column×ZnI):=
 some ((G_api_Column.mk c c_1),d)
def Zpx (rec_:Int→Int→Int→ZnI→Str→Str→(List G_api_Cell)→(List G_api_Cell)→Option (ZnI×Str×Str×(List G_api_Cell)×(List G_api_Cell))) (kind:Int) (t15:Int) (i:Int) (d:ZnI) (t4:Str) (c:Str) (x_:G_api_Cell) (t4_1:(List G_api_Cell)) (c_1:(List G_api_Cell)):Option (ZnI×Str×Str×(List G_api_Cell)×(List G_api_Cell)):=
 chk (ZiZ (c_1.length+([x_]:(List G_api_Cell)).length) 24) <|
 chk (inK .i64 (i+1)) <|
 rec_ kind t15 (i+1) d t4 c t4_1 (c_1++([x_]:(List G_api_Cell)))
def ZsL (rec_:Int→Int→Int→ZnI→Str→Str→(List G_api_Cell)→(List G_api_Cell)→Option (ZnI×Str×Str×(List G_api_Cell)×(List G_api_Cell))) (kind:Int) (t15:Int) (i:Int) (d:ZnI) (t4:Str) (c:Str) (t4_1:(List G_api_Cell)) (c_1:(List G_api_Cell)):Option (ZnI×Str×Str×(List G_api_Cell)×(List G_api_Cell)):=
 bif (decide (i < t15))then (
  (Zue d).bind fun(x_,t19)=>
  bif (kind == 0)then (
   (Zs8 t19).bind fun(x__1,t24)=>
   Zpx rec_ kind t15 i t24 t4 c x__1 t4_1 c_1
  )else (
   bif (kind == 1)then (
    (Zxc i).bind fun q=>
    chk (decide (([107]:Str).length+q.length≤Zq)) <|
    Zpx rec_ kind t15 i t19 t4 c (G_api_Cell.mk false (([107]:Str)++q)) t4_1 c_1
   )else (
    bif (kind == 2)then (
     (Zo2 t19 ([([97]:Str),([98]:Str),([99]:Str),([100]:Str)]:(List Str))).bind fun(q_1,t34)=>
     Zpx rec_ kind t15 i t34 t4 c (G_api_Cell.mk false q_1) t4_1 c_1
    )else (
     Zpx rec_ kind t15 i t19 t4 c x_ t4_1 c_1
    )
   )
  )
 )else (
  some (d,t4,c,t4_1,c_1)
 )
def Zrz:Nat→Int→Int→Int→ZnI→Str→Str→(List G_api_Cell)→(List G_api_Cell)→Option (ZnI×Str×Str×(List G_api_Cell)×(List G_api_Cell))
 |0,_,_,_,_,_,_,_,_=>none
 |n_+1,kind,t15,i,d,t4,c,t4_1,c_1=>ZsL (Zrz n_) kind t15 i d t4 c t4_1 c_1
def Zxw (n:Nat) (s:(Int×Int×Int×ZnI×Str×Str×(List G_api_Cell)×(List G_api_Cell))):Option (ZnI×Str×Str×(List G_api_Cell)×(List G_api_Cell)):=Zrz n s.1 s.2.1 s.2.2.1 s.2.2.2.1 s.2.2.2.2.1 s.2.2.2.2.2.1 s.2.2.2.2.2.2.1 s.2.2.2.2.2.2.2
def ZuK (rec_:(Int×Int×Int×ZnI×Str×Str×(List G_api_Cell)×(List G_api_Cell))→Option (ZnI×Str×Str×(List G_api_Cell)×(List G_api_Cell))) (s:(Int×Int×Int×ZnI×Str×Str×(List G_api_Cell)×(List G_api_Cell))):Option (ZnI×Str×Str×(List G_api_Cell)×(List G_api_Cell)):=ZsL (fun kind t15 i d t4 c t4_1 c_1=>rec_ (kind,t15,i,d,t4,c,t4_1,c_1)) s.1 s.2.1 s.2.2.1 s.2.2.2.1 s.2.2.2.2.1 s.2.2.2.2.2.1 s.2.2.2.2.2.2.1 s.2.2.2.2.2.2.2
theorem Zzv:∀n s,Zxw (n+1) s=ZuK (Zxw n) s:=fun _ _=>rfl
def Zrn (d:ZnI) (rows:Int):Option (G_api_Column×ZnI):=
 (Zo2 d ([([105,100]:Str),([110,97,109,101]:Str),([85,110,105,116,32,80,114,105,99,101]:Str),([99,105,116,121]:Str),([117,110,105,116]:Str),([112,114,105,99,101]:Str),([105,100,50]:Str),([]:Str)]:(List Str))).bind fun(q,t9)=>
 (Zon t9 5).bind fun(kind,t13)=>
 (Zrz big kind rows (0:Int) t13 ([]:Str) q ([]:(List G_api_Cell)) ([]:(List G_api_Cell))).bind fun(x0,x1,x2,x3,x4)=>ZvE x0 x1 x2 x3 x4
def Zvy (s:Str):Option Str:=
 some s
def Ztu (rec_:Str→Option Str) (s:Str) (t23:Bool):Option Str:=
 bif t23 then (
  chk (inK .i64 ((s.length:Int) - 1)) <|
  chk (Zb9 0 ((s.length:Int) - 1) (s.length:Int)) <|
  rec_ (s.take (((s.length:Int) - 1)).toNat)
 )else (
  some s
 )
def ZuH (rec_:Str→Option Str) (s:Str):Option Str:=
 bif (decide ((s.length:Int) > 0))then (
  chk (inK .i64 ((s.length:Int) - 1)) <|
  (idx s ((s.length:Int) - 1)).bind fun c=>
  Ztu rec_ s (((c.toNat:Nat):Int) == 32)
 )else (
  Ztu rec_ s false
 )
def Zrt:Nat→Str→Option Str
 |0,_=>none
 |n_+1,s=>ZuH (Zrt n_) s
def Zxq (n:Nat) (s:Str):Option Str:=Zrt n s
def Zxr (rec_:Str→Option Str) (s:Str):Option Str:=ZuH (fun s=>rec_ s) s
theorem Zzs:∀n s,Zxq (n+1) s=Zxr (Zxq n) s:=fun _ _=>rfl
def Zvz (s:Str):Option Str:=
 (Zrt big s).bind fun x0=>Zvy x0
def Ztv (rec_:Str→Option Str) (s:Str) (t10:Bool):Option Str:=
 bif t10 then (
  chk (Zb9 1 (s.length:Int) (s.length:Int)) <|
  rec_ (s.drop ((1:Int)).toNat)
 )else (
  some s
 )
def ZuI (rec_:Str→Option Str) (s:Str):Option Str:=
 bif (decide ((s.length:Int) > 0))then (
  (idx s 0).bind fun c=>
  Ztv rec_ s (((c.toNat:Nat):Int) == 32)
 )else (
  Ztv rec_ s false
 )
def Zru:Nat→Str→Option Str
 |0,_=>none
 |n_+1,s=>ZuI (Zru n_) s
def Zxs (n:Nat) (s:Str):Option Str:=Zru n s
def Zxt (rec_:Str→Option Str) (s:Str):Option Str:=ZuI (fun s=>rec_ s) s
theorem Zzt:∀n s,Zxs (n+1) s=Zxt (Zxs n) s:=fun _ _=>rfl
def ZsV (s:Str):Option Str:=
 (Zru big s).bind fun x0=>Zvz x0
def Zya (b:(List Int)):Option Str:=
 some (b.map fun n=>UInt8.ofNat (Int.toNat n))
def ZvA (rec_:Int→Int→(List Int)→Option (List Int)) (t8:Int) (i:Int) (b:(List Int)):Option (List Int):=
 chk (inK .i64 (i+1)) <|
 rec_ t8 (i+1) b
def ZvB (rec_:Int→Int→(List Int)→Option (List Int)) (i:Int) (t8:Int) (i_1:Int) (t23:Bool) (b:(List Int)):Option (List Int):=
 bif t23 then (
  chk (inR i (b.length:Int)) <|
  (b[(i).toNat]?).bind fun b_e=>
  chk (inR i (b.length:Int)) <|
  ZvA rec_ t8 i_1 (b.set ((i).toNat) (IntKind.wrap .u8 (b_e+32)))
 )else (
  ZvA rec_ t8 i_1 b
 )
def ZzI (rec_:Int→Int→(List Int)→Option (List Int)) (t8:Int) (i:Int) (b:(List Int)):Option (List Int):=
 bif (decide (i < t8))then (
  chk (inR i (b.length:Int)) <|
  (b[(i).toNat]?).bind fun b_e=>
  bif (decide (b_e≥65))then (
   chk (inR i (b.length:Int)) <|
   (b[(i).toNat]?).bind fun b_e_1=>
   ZvB rec_ i t8 i (decide (b_e_1≤90)) b
  )else (
   ZvB rec_ i t8 i false b
  )
 )else (
  some b
 )
def Zrv:Nat→Int→Int→(List Int)→Option (List Int)
 |0,_,_,_=>none
 |n_+1,t8,i,b=>ZzI (Zrv n_) t8 i b
def ZwM (s:Str):Option Str:=
 chk (decide (s.length≤281474976710656)) <|
 (Zrv big ((s.map fun b=>((b.toNat:Nat):Int)).length:Int) (0:Int) (s.map fun b=>((b.toNat:Nat):Int))).bind fun x0=>Zya x0
def ZxL (neg:Bool) (digits:Str) (places:Str):Option (Bool×Str×Str×Bool):=
 some (neg,digits,places,true)
def Zs3 (rec_:Bool→Str→Str→Int→Option (Out (Bool×Str×Str) (Bool×Str×Str×Bool))) (neg:Bool) (digits:Str) (places:Str) (i:Int) (t92:Bool):Option (Out (Bool×Str×Str) (Bool×Str×Str×Bool)):=
 bif t92 then (
  some (.ret (false,([]:Str),([]:Str),false))
 )else (
  chk (inK .i64 (i+1)) <|
  rec_ neg digits places (i+1)
 )
def Zr3 (rec_:Bool→Str→Str→Int→Option (Out (Bool×Str×Str) (Bool×Str×Str×Bool))) (neg:Bool) (digits:Str) (places:Str) (i:Int):Option (Out (Bool×Str×Str) (Bool×Str×Str×Bool)):=
 bif (decide (i < (places.length:Int)))then (
  (idx places i).bind fun c=>
  bif (decide (((c.toNat:Nat):Int) < 48))then (
   Zs3 rec_ neg digits places i true
  )else (
   (idx places i).bind fun c_1=>
   Zs3 rec_ neg digits places i (decide (((c_1.toNat:Nat):Int) > 57))
  )
 )else (
  some (.brk (neg,digits,places))
 )
def Zp1:Nat→Bool→Str→Str→Int→Option (Out (Bool×Str×Str) (Bool×Str×Str×Bool))
 |0,_,_,_,_=>none
 |n_+1,neg,digits,places,i=>Zr3 (Zp1 n_) neg digits places i
def Zw0 (n:Nat) (s:(Bool×Str×Str×Int)):Option (Out (Bool×Str×Str) (Bool×Str×Str×Bool)):=Zp1 n s.1 s.2.1 s.2.2.1 s.2.2.2
def Zul (rec_:(Bool×Str×Str×Int)→Option (Out (Bool×Str×Str) (Bool×Str×Str×Bool))) (s:(Bool×Str×Str×Int)):Option (Out (Bool×Str×Str) (Bool×Str×Str×Bool)):=Zr3 (fun neg digits places i=>rec_ (neg,digits,places,i)) s.1 s.2.1 s.2.2.1 s.2.2.2
theorem Zy9:∀n s,Zw0 (n+1) s=Zul (Zw0 n) s:=fun _ _=>rfl
def Zos (neg:Bool) (digits:Str) (places:Str) (t76:Bool):Option (Bool×Str×Str×Bool):=
 bif t76 then (
  some (false,([]:Str),([]:Str),false)
 )else (
  (Zp1 big neg digits places (0:Int)).bind fun
   | .ret q_=>some q_
   | .brk (x0,x1,x2)=>ZxL x0 x1 x2
 )
def Zs4 (s:Str) (neg:Bool) (digits:Str) (k:Int) (t52:Bool):Option (Bool×Str×Str×Bool):=
 bif t52 then (
  some (false,([]:Str),([]:Str),false)
 )else (
  bif (k == (s.length:Int))then (
   some (neg,digits,([]:Str),true)
  )else (
   chk (inK .i64 (k+1)) <|
   chk (Zb9 (k+1) (s.length:Int) (s.length:Int)) <|
   (idx s k).bind fun c=>
   bif (((c.toNat:Nat):Int) != 46)then (
    Zos neg digits (s.drop ((k+1)).toNat) true
   )else (
    bif (decide (((s.drop ((k+1)).toNat).length:Int) < 1))then (
     Zos neg digits (s.drop ((k+1)).toNat) true
    )else (
     Zos neg digits (s.drop ((k+1)).toNat) (decide (((s.drop ((k+1)).toNat).length:Int) > 9))
    )
   )
  )
 )
def Zu7 (s:Str) (neg:Bool) (k:Int):Option (Bool×Str×Str×Bool):=
 chk (Zb9 0 k (s.length:Int)) <|
 bif (decide (k < 1))then (
  Zs4 s neg (s.take (k).toNat) k true
 )else (
  Zs4 s neg (s.take (k).toNat) k (decide (k > 15))
 )
def Zq4 (rec_:Str→Bool→Int→Option (Str×Bool×Int)) (s:Str) (neg:Bool) (k:Int) (t41:Bool):Option (Str×Bool×Int):=
 bif t41 then (
  chk (inK .i64 (k+1)) <|
  rec_ s neg (k+1)
 )else (
  some (s,neg,k)
 )
def Zum (rec_:Str→Bool→Int→Option (Str×Bool×Int)) (s:Str) (neg:Bool) (k:Int):Option (Str×Bool×Int):=
 bif (decide (k < (s.length:Int)))then (
  (idx s k).bind fun c=>
  bif (decide (((c.toNat:Nat):Int)≥48))then (
   (idx s k).bind fun c_1=>
   Zq4 rec_ s neg k (decide (((c_1.toNat:Nat):Int)≤57))
  )else (
   Zq4 rec_ s neg k false
  )
 )else (
  Zq4 rec_ s neg k false
 )
def Zq3:Nat→Str→Bool→Int→Option (Str×Bool×Int)
 |0,_,_,_=>none
 |n_+1,s,neg,k=>Zum (Zq3 n_) s neg k
def Zw1 (n:Nat) (s:(Str×Bool×Int)):Option (Str×Bool×Int):=Zq3 n s.1 s.2.1 s.2.2
def Zw2 (rec_:(Str×Bool×Int)→Option (Str×Bool×Int)) (s:(Str×Bool×Int)):Option (Str×Bool×Int):=Zum (fun s neg k=>rec_ (s,neg,k)) s.1 s.2.1 s.2.2
theorem Zza:∀n s,Zw1 (n+1) s=Zw2 (Zw1 n) s:=fun _ _=>rfl
def ZoJ (s:Str) (neg:Bool):Option (Bool×Str×Str×Bool):=
 (Zq3 big s neg (0:Int)).bind fun(x0,x1,x2)=>Zu7 x0 x1 x2
def Zq5 (s:Str) (neg:Bool) (t20:Bool):Option (Bool×Str×Str×Bool):=
 bif t20 then (
  (idx s 0).bind fun c=>
  chk (Zb9 1 (s.length:Int) (s.length:Int)) <|
  ZoJ (s.drop ((1:Int)).toNat) (((c.toNat:Nat):Int) == 45)
 )else (
  ZoJ s neg
 )
def ZqU (s:Str):Option (Bool×Str×Str×Bool):=
 bif (decide ((s.length:Int) > 0))then (
  (idx s 0).bind fun c=>
  bif (((c.toNat:Nat):Int) == 43)then (
   Zq5 s false true
  )else (
   (idx s 0).bind fun c_1=>
   Zq5 s false (((c_1.toNat:Nat):Int) == 45)
  )
 )else (
  Zq5 s false false
 )
def ZsE (digits:Str):Option Str:=
 some digits
def ZsF (digits:Str) (t43:Bool):Option Str:=
 bif t43 then (
  chk (decide (([45]:Str).length+digits.length≤Zq)) <|
  ZsE (([45]:Str)++digits)
 )else (
  ZsE digits
 )
def ZsG (neg:Bool) (digits:Str):Option Str:=
 bif neg then (
  ZsF digits (!(digits == ([48]:Str)))
 )else (
  ZsF digits false
 )
def ZuC (neg:Bool) (digits:Str) (places:Str):Option Str:=
 bif (!(places == ([]:Str)))then (
  chk (decide (([46]:Str).length+places.length≤Zq)) <|
  chk (decide (digits.length+(([46]:Str)++places).length≤Zq)) <|
  ZsG neg (digits++(([46]:Str)++places))
 )else (
  ZsG neg digits
 )
def ZsH (rec_:Bool→Str→Str→Option (Bool×Str×Str)) (neg:Bool) (digits:Str) (places:Str) (t27:Bool):Option (Bool×Str×Str):=
 bif t27 then (
  chk (inK .i64 ((places.length:Int) - 1)) <|
  chk (Zb9 0 ((places.length:Int) - 1) (places.length:Int)) <|
  rec_ neg digits (places.take (((places.length:Int) - 1)).toNat)
 )else (
  some (neg,digits,places)
 )
def Zuc (rec_:Bool→Str→Str→Option (Bool×Str×Str)) (neg:Bool) (digits:Str) (places:Str):Option (Bool×Str×Str):=
 bif (decide ((places.length:Int) > 0))then (
  chk (inK .i64 ((places.length:Int) - 1)) <|
  (idx places ((places.length:Int) - 1)).bind fun c=>
  ZsH rec_ neg digits places (((c.toNat:Nat):Int) == 48)
 )else (
  ZsH rec_ neg digits places false
 )
def ZqI:Nat→Bool→Str→Str→Option (Bool×Str×Str)
 |0,_,_,_=>none
 |n_+1,neg,digits,places=>Zuc (ZqI n_) neg digits places
def ZwI (n:Nat) (s:(Bool×Str×Str)):Option (Bool×Str×Str):=ZqI n s.1 s.2.1 s.2.2
def ZwJ (rec_:(Bool×Str×Str)→Option (Bool×Str×Str)) (s:(Bool×Str×Str)):Option (Bool×Str×Str):=Zuc (fun neg digits places=>rec_ (neg,digits,places)) s.1 s.2.1 s.2.2
theorem ZyY:∀n s,ZwI (n+1) s=ZwJ (ZwI n) s:=fun _ _=>rfl
def ZuD (neg:Bool) (digits:Str) (places:Str):Option Str:=
 (ZqI big neg digits places).bind fun(x0,x1,x2)=>ZuC x0 x1 x2
def ZsI (rec_:Bool→Str→Str→Option (Bool×Str×Str)) (neg:Bool) (digits:Str) (places:Str) (t14:Bool):Option (Bool×Str×Str):=
 bif t14 then (
  chk (Zb9 1 (digits.length:Int) (digits.length:Int)) <|
  rec_ neg (digits.drop ((1:Int)).toNat) places
 )else (
  some (neg,digits,places)
 )
def Zud (rec_:Bool→Str→Str→Option (Bool×Str×Str)) (neg:Bool) (digits:Str) (places:Str):Option (Bool×Str×Str):=
 bif (decide ((digits.length:Int) > 1))then (
  (idx digits 0).bind fun c=>
  ZsI rec_ neg digits places (((c.toNat:Nat):Int) == 48)
 )else (
  ZsI rec_ neg digits places false
 )
def ZqJ:Nat→Bool→Str→Str→Option (Bool×Str×Str)
 |0,_,_,_=>none
 |n_+1,neg,digits,places=>Zud (ZqJ n_) neg digits places
def ZwK (n:Nat) (s:(Bool×Str×Str)):Option (Bool×Str×Str):=ZqJ n s.1 s.2.1 s.2.2
def ZwL (rec_:(Bool×Str×Str)→Option (Bool×Str×Str)) (s:(Bool×Str×Str)):Option (Bool×Str×Str):=Zud (fun neg digits places=>rec_ (neg,digits,places)) s.1 s.2.1 s.2.2
theorem ZyZ:∀n s,ZwK (n+1) s=ZwL (ZwK n) s:=fun _ _=>rfl
def ZrQ (neg:Bool) (digits:Str) (places:Str):Option Str:=
 (ZqJ big neg digits places).bind fun(x0,x1,x2)=>ZuD x0 x1 x2
def Zyo (n:Int):Option Int:=
 some n
def ZvU (rec_:Str→Int→Int→Option (Out Int Int)) (s:Str) (n:Int) (i:Int) (t20:Bool):Option (Out Int Int):=
 bif t20 then (
  some (.ret (-1:Int))
 )else (
  chk (inK .i64 (10*n)) <|
  (idx s i).bind fun c=>
  chk (inK .i64 ((10*n)+(IntKind.wrap .i64 (IntKind.wrap .u8 (((c.toNat:Nat):Int) - 48))))) <|
  chk (inK .i64 (i+1)) <|
  rec_ s ((10*n)+(IntKind.wrap .i64 (IntKind.wrap .u8 (((c.toNat:Nat):Int) - 48)))) (i+1)
 )
def ZzW (rec_:Str→Int→Int→Option (Out Int Int)) (s:Str) (n:Int) (i:Int):Option (Out Int Int):=
 bif (decide (i < (s.length:Int)))then (
  (idx s i).bind fun c=>
  bif (decide (((c.toNat:Nat):Int) < 48))then (
   ZvU rec_ s n i true
  )else (
   (idx s i).bind fun c_1=>
   ZvU rec_ s n i (decide (((c_1.toNat:Nat):Int) > 57))
  )
 )else (
  some (.brk n)
 )
def ZtW:Nat→Str→Int→Int→Option (Out Int Int)
 |0,_,_,_=>none
 |n_+1,s,n,i=>ZzW (ZtW n_) s n i
def ZpT (s:Str):Option Int:=
 (ZtW big s (0:Int) (0:Int)).bind fun
  | .ret q_=>some q_
  | .brk x0=>Zyo x0
def Zts (t2:Bool):Option Bool:=
 some t2
def ZuF (y:Int):Option Bool:=
 chk (decide ((4:Int)≠0)) <|
 bif ((Int.tmod y 4) == 0)then (
  chk (decide ((100:Int)≠0)) <|
  bif ((Int.tmod y 100) != 0)then (
   Zts true
  )else (
   chk (decide ((400:Int)≠0)) <|
   Zts ((Int.tmod y 400) == 0)
  )
 )else (
  Zts false
 )
def ZqK (t15:Bool):Option Int:=
 bif t15 then (
  some (30:Int)
 )else (
  some (31:Int)
 )
def ZuE (m:Int) (t5:Bool):Option Int:=
 bif t5 then (
  some (29:Int)
 )else (
  bif (m == 2)then (
   some (28:Int)
  )else (
   bif (m == 4)then (
    ZqK true
   )else (
    bif (m == 6)then (
     ZqK true
    )else (
     bif (m == 9)then (
      ZqK true
     )else (
      ZqK (m == 11)
     )
    )
   )
  )
 )
def ZtX (y:Int) (m:Int):Option Int:=
 bif (m == 2)then (
  (ZuF y).bind fun q=>
  ZuE m q
 )else (
  ZuE m false
 )
def Zyp (day:Int) (n:Int):Option (Int×Bool):=
 chk (inK .i64 (n+day)) <|
 chk (inK .i64 ((n+day) - 1)) <|
 chk (inK .i64 (((n+day) - 1) - 719162)) <|
 some ((((n+day) - 1) - 719162),true)
def ZzX (rec_:Int→Int→Int→Int→Int→Option (Int×Int)) (year:Int) (month:Int) (day:Int) (n:Int) (m:Int):Option (Int×Int):=
 bif (decide (m < month))then (
  (ZtX year m).bind fun q=>
  chk (inK .i64 (n+q)) <|
  chk (inK .i64 (m+1)) <|
  rec_ year month day (n+q) (m+1)
 )else (
  some (day,n)
 )
def ZvV:Nat→Int→Int→Int→Int→Int→Option (Int×Int)
 |0,_,_,_,_,_=>none
 |n_+1,year,month,day,n,m=>ZzX (ZvV n_) year month day n m
def Zyq (year:Int) (month:Int) (day:Int) (n:Int):Option (Int×Bool):=
 (ZvV big year month day n (1:Int)).bind fun(x0,x1)=>Zyp x0 x1
def ZvW (rec_:Int→Int→Int→Int→Int→Option (Int×Int×Int×Int)) (year:Int) (month:Int) (day:Int) (n:Int) (y:Int):Option (Int×Int×Int×Int):=
 chk (inK .i64 (y+1)) <|
 rec_ year month day n (y+1)
def ZzY (rec_:Int→Int→Int→Int→Int→Option (Int×Int×Int×Int)) (year:Int) (month:Int) (day:Int) (n:Int) (y:Int):Option (Int×Int×Int×Int):=
 bif (decide (y < year))then (
  chk (inK .i64 (n+365)) <|
  (ZuF y).bind fun q=>
  bif q then (
   chk (inK .i64 ((n+365)+1)) <|
   ZvW rec_ year month day ((n+365)+1) y
  )else (
   ZvW rec_ year month day (n+365) y
  )
 )else (
  some (year,month,day,n)
 )
def ZtY:Nat→Int→Int→Int→Int→Int→Option (Int×Int×Int×Int)
 |0,_,_,_,_,_=>none
 |n_+1,year,month,day,n,y=>ZzY (ZtY n_) year month day n y
def ZpI (year:Int) (month:Int) (day:Int) (t35:Bool):Option (Int×Bool):=
 bif t35 then (
  some (0,false)
 )else (
  (ZtY big year month day (0:Int) (1:Int)).bind fun(x0,x1,x2,x3)=>Zyq x0 x1 x2 x3
 )
def Zvm (year:Int) (month:Int) (day:Int):Option (Int×Bool):=
 bif (decide (year < 1))then (
  ZpI year month day true
 )else (
  bif (decide (year > 9999))then (
   ZpI year month day true
  )else (
   bif (decide (month < 1))then (
    ZpI year month day true
   )else (
    bif (decide (month > 12))then (
     ZpI year month day true
    )else (
     bif (decide (day < 1))then (
      ZpI year month day true
     )else (
      (ZtX year month).bind fun q=>
      ZpI year month day (decide (day > q))
     )
    )
   )
  )
 )
def Zvv (year:Int) (month:Int) (day:Int):Option (Int×Int×Int×Bool):=
 (Zvm year month day).bind fun(q,ok)=>
 some (year,month,day,ok)
def Zvw (s:Str) (t35:Bool):Option (Int×Int×Int×Bool):=
 bif t35 then (
  chk (Zb9 6 (s.length:Int) (s.length:Int)) <|
  (ZpT (s.drop ((6:Int)).toNat)).bind fun year=>
  chk (Zb9 3 5 (s.length:Int)) <|
  (ZpT ((s.take ((5:Int)).toNat).drop ((3:Int)).toNat)).bind fun month=>
  chk (Zb9 0 2 (s.length:Int)) <|
  (ZpT (s.take ((2:Int)).toNat)).bind fun day=>
  Zvv year month day
 )else (
  some (0,0,0,false)
 )
def Ztt (s:Str) (t9:Bool):Option (Int×Int×Int×Bool):=
 bif t9 then (
  chk (Zb9 0 4 (s.length:Int)) <|
  (ZpT (s.take ((4:Int)).toNat)).bind fun year=>
  chk (Zb9 5 7 (s.length:Int)) <|
  (ZpT ((s.take ((7:Int)).toNat).drop ((5:Int)).toNat)).bind fun month=>
  chk (Zb9 8 (s.length:Int) (s.length:Int)) <|
  (ZpT (s.drop ((8:Int)).toNat)).bind fun day=>
  Zvv year month day
 )else (
  (idx s 2).bind fun c=>
  bif (((c.toNat:Nat):Int) == 46)then (
   (idx s 5).bind fun c_1=>
   Zvw s (((c_1.toNat:Nat):Int) == 46)
  )else (
   Zvw s false
  )
 )
def Zvx (s:Str) (t9:Bool):Option (Int×Int×Int×Bool):=
 bif t9 then (
  Ztt s t9
 )else (
  (idx s 4).bind fun c=>
  bif (((c.toNat:Nat):Int) == 47)then (
   (idx s 7).bind fun c_1=>
   Ztt s (((c_1.toNat:Nat):Int) == 47)
  )else (
   Ztt s false
  )
 )
def ZuG (s:Str):Option (Int×Int×Int×Bool):=
 bif ((s.length:Int) != 10)then (
  some (0,0,0,false)
 )else (
  (idx s 4).bind fun c=>
  bif (((c.toNat:Nat):Int) == 45)then (
   (idx s 7).bind fun c_1=>
   Zvx s (((c_1.toNat:Nat):Int) == 45)
  )else (
   Zvx s false
  )
 )
def Zxp (s:Str):Option Str:=
 some s
def Zy7 (rec_:Int→Int→Str→Option Str) (n:Int) (width:Int) (s:Str):Option Str:=
 bif (decide (width > 0))then (
  chk (decide ((10:Int)≠0)) <|
  chk (decide ((([(IntKind.wrap .u8 (48+(IntKind.wrap .u8 (Int.tmod n 10))))]:(List Int)).map fun n=>UInt8.ofNat (Int.toNat n)).length+s.length≤Zq)) <|
  chk (decide ((10:Int)≠0)) <|
  chk (inK .i64 (Int.tdiv n 10)) <|
  chk (inK .i64 (width - 1)) <|
  rec_ (Int.tdiv n 10) (width - 1) ((([(IntKind.wrap .u8 (48+(IntKind.wrap .u8 (Int.tmod n 10))))]:(List Int)).map fun n=>UInt8.ofNat (Int.toNat n))++s)
 )else (
  some s
 )
def ZuB:Nat→Int→Int→Str→Option Str
 |0,_,_,_=>none
 |n_+1,n,width,s=>Zy7 (ZuB n_) n width s
def ZrP (n:Int) (width:Int):Option Str:=
 (ZuB big n width ([]:Str)).bind fun x0=>Zxp x0
def ZpY:Option (Str×Bool):=
 some (([]:Str),false)
def ZpZ (neg:Bool) (digits:Str) (places:Str) (t49:Bool):Option (Str×Bool):=
 bif t49 then (
  (ZrQ neg digits places).bind fun q=>
  some (q,true)
 )else (
  ZpY
 )
def Zrl (kind:Int) (t:Str) (t17:Int) (t31:Bool):Option (Str×Bool):=
 bif t31 then (
  (ZqU t).bind fun(neg,digits,places,ok)=>
  bif ok then (
   bif (kind == 4)then (
    ZpZ neg digits places true
   )else (
    ZpZ neg digits places (places == ([]:Str))
   )
  )else (
   ZpZ neg digits places false
  )
 )else (
  bif (t17 == 5)then (
   (ZuG t).bind fun(y,m,d,ok_1)=>
   bif ok_1 then (
    (ZrP y 4).bind fun q=>
    chk (decide (q.length+([45]:Str).length≤Zq)) <|
    (ZrP m 2).bind fun q_1=>
    chk (decide ((q++([45]:Str)).length+q_1.length≤Zq)) <|
    chk (decide (((q++([45]:Str))++q_1).length+([45]:Str).length≤Zq)) <|
    (ZrP d 2).bind fun q_2=>
    chk (decide ((((q++([45]:Str))++q_1)++([45]:Str)).length+q_2.length≤Zq)) <|
    some (((((q++([45]:Str))++q_1)++([45]:Str))++q_2),true)
   )else (
    ZpY
   )
  )else (
   ZpY
  )
 )
def ZtJ (t28:Bool):Option (Str×Bool):=
 bif t28 then (
  some (([102,97,108,115,101]:Str),true)
 )else (
  ZpY
 )
def ZtK (t24:Str) (t25:Bool):Option (Str×Bool):=
 bif t25 then (
  some (([116,114,117,101]:Str),true)
 )else (
  bif (t24 == ([102,97,108,115,101]:Str))then (
   ZtJ (t24 == ([102,97,108,115,101]:Str))
  )else (
   ZtJ (t24 == ([110,111]:Str))
  )
 )
def ZqL (kind:Int) (s:Str):Option (Str×Bool):=
 (ZsV s).bind fun t=>
 bif (kind == 1)then (
  some (s,true)
 )else (
  bif (kind == 2)then (
   (ZwM t).bind fun q=>
   bif (q == ([116,114,117,101]:Str))then (
    ZtK q (q == ([116,114,117,101]:Str))
   )else (
    ZtK q (q == ([121,101,115]:Str))
   )
  )else (
   bif (kind == 3)then (
    Zrl kind t kind (kind == 3)
   )else (
    Zrl kind t kind (kind == 4)
   )
  )
 )
def ZvY (out:(List Int)):Option (List Int):=
 (Zor out).bind fun q=>
 some q
def ZvZ (rec_:(List Int)→(List Int)→Int→(List Int)→Option (List Int)) (a:(List Int)) (b:(List Int)) (i:Int) (c:Int) (out:(List Int)):Option (List Int):=
 chk (inK .i64 (i+(b.length:Int))) <|
 chk (inR (i+(b.length:Int)) (out.length:Int)) <|
 chk (inK .i64 (i+1)) <|
 rec_ a b (i+1) (out.set (((i+(b.length:Int))).toNat) (IntKind.wrap .u32 c))
def ZsY (rec_:(List Int)→(List Int)→Int→Int→Int→(List Int)→Option ((List Int)×(List Int)×Int×Int×(List Int))) (a:(List Int)) (b:(List Int)) (i:Int) (c:Int) (j:Int) (out:(List Int)):Option ((List Int)×(List Int)×Int×Int×(List Int)):=
 bif (decide (j < (b.length:Int)))then (
  (idx a i).bind fun a_e=>
  (idx b j).bind fun b_e=>
  chk (inK .i64 (i+j)) <|
  chk (inR (i+j) (out.length:Int)) <|
  (out[((i+j)).toNat]?).bind fun out_e=>
  chk (inK .i64 (i+j)) <|
  chk (inR (i+j) (out.length:Int)) <|
  chk (decide (0≤(32:Int))) <|
  chk (inK .i64 (j+1)) <|
  rec_ a b i (shrK .u64 (IntKind.wrap .u64 (c+(IntKind.wrap .u64 ((IntKind.wrap .u64 ((IntKind.wrap .u64 a_e)*(IntKind.wrap .u64 b_e)))+(IntKind.wrap .u64 out_e))))) 32) (j+1) (out.set (((i+j)).toNat) (IntKind.wrap .u32 (IntKind.wrap .u64 (c+(IntKind.wrap .u64 ((IntKind.wrap .u64 ((IntKind.wrap .u64 a_e)*(IntKind.wrap .u64 b_e)))+(IntKind.wrap .u64 out_e)))))))
 )else (
  some (a,b,i,c,out)
 )
def ZtZ:Nat→(List Int)→(List Int)→Int→Int→Int→(List Int)→Option ((List Int)×(List Int)×Int×Int×(List Int))
 |0,_,_,_,_,_,_=>none
 |n_+1,a,b,i,c,j,out=>ZsY (ZtZ n_) a b i c j out
def ZxG (n:Nat) (s:((List Int)×(List Int)×Int×Int×Int×(List Int))):Option ((List Int)×(List Int)×Int×Int×(List Int)):=ZtZ n s.1 s.2.1 s.2.2.1 s.2.2.2.1 s.2.2.2.2.1 s.2.2.2.2.2
def Zu0 (rec_:((List Int)×(List Int)×Int×Int×Int×(List Int))→Option ((List Int)×(List Int)×Int×Int×(List Int))) (s:((List Int)×(List Int)×Int×Int×Int×(List Int))):Option ((List Int)×(List Int)×Int×Int×(List Int)):=ZsY (fun a b i c j out=>rec_ (a,b,i,c,j,out)) s.1 s.2.1 s.2.2.1 s.2.2.2.1 s.2.2.2.2.1 s.2.2.2.2.2
theorem ZzK:∀n s,ZxG (n+1) s=Zu0 (ZxG n) s:=fun _ _=>rfl
def ZsZ (rec_:(List Int)→(List Int)→Int→(List Int)→Option (List Int)) (a:(List Int)) (b:(List Int)) (i:Int) (out:(List Int)):Option (List Int):=
 bif (decide (i < (a.length:Int)))then (
  (ZtZ big a b i (0:Int) (0:Int) out).bind fun(x0,x1,x2,x3,x4)=>ZvZ rec_ x0 x1 x2 x3 x4
 )else (
  some out
 )
def ZrU:Nat→(List Int)→(List Int)→Int→(List Int)→Option (List Int)
 |0,_,_,_,_=>none
 |n_+1,a,b,i,out=>ZsZ (ZrU n_) a b i out
def ZxH (n:Nat) (s:((List Int)×(List Int)×Int×(List Int))):Option (List Int):=ZrU n s.1 s.2.1 s.2.2.1 s.2.2.2
def Zu1 (rec_:((List Int)×(List Int)×Int×(List Int))→Option (List Int)) (s:((List Int)×(List Int)×Int×(List Int))):Option (List Int):=ZsZ (fun a b i out=>rec_ (a,b,i,out)) s.1 s.2.1 s.2.2.1 s.2.2.2
theorem ZzL:∀n s,ZxH (n+1) s=Zu1 (ZxH n) s:=fun _ _=>rfl
def ZtD (a:(List Int)) (b:(List Int)):Option (List Int):=
 chk (inK .i64 ((a.length:Int)+(b.length:Int))) <|
 chk (mkOk ((a.length:Int)+(b.length:Int)) ((a.length:Int)+(b.length:Int)) 4) <|
 (ZrU big a b (0:Int) (List.replicate (((a.length:Int)+(b.length:Int))).toNat (0:Int))).bind fun x0=>ZvY x0
def Zn7 (a:ZnD) (b:ZnD):Option ZnD:=
 (ZtD a.Words b.Words).bind fun q=>
 (Zod (!(a.Neg == b.Neg)) q).bind fun q_1=>
 some q_1
def Zv7 (c:Int) (out:(List Int)):Option (List Int):=
 chk (ZiZ (out.length+([(IntKind.wrap .u32 c)]:(List Int)).length) 4) <|
 some (out++([(IntKind.wrap .u32 c)]:(List Int)))
def ZrX (rec_:(List Int)→(List Int)→Int→Int→(List Int)→Option (Int×(List Int))) (a:(List Int)) (b:(List Int)) (c:Int) (i:Int) (out:(List Int)):Option (Int×(List Int)):=
 chk (ZiZ (out.length+([(IntKind.wrap .u32 c)]:(List Int)).length) 4) <|
 chk (decide (0≤(32:Int))) <|
 chk (inK .i64 (i+1)) <|
 rec_ a b (shrK .u64 c 32) (i+1) (out++([(IntKind.wrap .u32 c)]:(List Int)))
def ZrY (rec_:(List Int)→(List Int)→Int→Int→(List Int)→Option (Int×(List Int))) (a:(List Int)) (b:(List Int)) (c:Int) (i:Int) (out:(List Int)):Option (Int×(List Int)):=
 bif (decide (i < (b.length:Int)))then (
  (idx b i).bind fun b_e=>
  ZrX rec_ a b (IntKind.wrap .u64 (c+(IntKind.wrap .u64 b_e))) i out
 )else (
  ZrX rec_ a b c i out
 )
def ZqF (rec_:(List Int)→(List Int)→Int→Int→(List Int)→Option (Int×(List Int))) (a:(List Int)) (b:(List Int)) (c:Int) (i:Int) (t17:Bool) (out:(List Int)):Option (Int×(List Int)):=
 bif t17 then (
  bif (decide (i < (a.length:Int)))then (
   (idx a i).bind fun a_e=>
   ZrY rec_ a b (IntKind.wrap .u64 (c+(IntKind.wrap .u64 a_e))) i out
  )else (
   ZrY rec_ a b c i out
  )
 )else (
  some (c,out)
 )
def Zs2 (rec_:(List Int)→(List Int)→Int→Int→(List Int)→Option (Int×(List Int))) (a:(List Int)) (b:(List Int)) (c:Int) (i:Int) (out:(List Int)):Option (Int×(List Int)):=
 bif (decide (i < (a.length:Int)))then (
  ZqF rec_ a b c i true out
 )else (
  ZqF rec_ a b c i (decide (i < (b.length:Int))) out
 )
def ZpK:Nat→(List Int)→(List Int)→Int→Int→(List Int)→Option (Int×(List Int))
 |0,_,_,_,_,_=>none
 |n_+1,a,b,c,i,out=>Zs2 (ZpK n_) a b c i out
def ZxK (n:Nat) (s:((List Int)×(List Int)×Int×Int×(List Int))):Option (Int×(List Int)):=ZpK n s.1 s.2.1 s.2.2.1 s.2.2.2.1 s.2.2.2.2
def Zu6 (rec_:((List Int)×(List Int)×Int×Int×(List Int))→Option (Int×(List Int))) (s:((List Int)×(List Int)×Int×Int×(List Int))):Option (Int×(List Int)):=Zs2 (fun a b c i out=>rec_ (a,b,c,i,out)) s.1 s.2.1 s.2.2.1 s.2.2.2.1 s.2.2.2.2
theorem ZzO:∀n s,ZxK (n+1) s=Zu6 (ZxK n) s:=fun _ _=>rfl
def ZrJ (a:(List Int)) (b:(List Int)):Option (List Int):=
 (ZpK big a b (0:Int) (0:Int) ([]:(List Int))).bind fun(x0,x1)=>Zv7 x0 x1
def Zqs (a:ZnD) (b:ZnD):Option ZnD:=
 bif (a.Neg == b.Neg)then (
  (ZrJ a.Words b.Words).bind fun q=>
  (Zod a.Neg q).bind fun q_1=>
  some q_1
 )else (
  (ZoX a.Words b.Words).bind fun q_2=>
  bif (decide (q_2≥0))then (
   (ZpU a.Words b.Words).bind fun q_3=>
   (Zod a.Neg q_3).bind fun q_4=>
   some q_4
  )else (
   (ZpU b.Words a.Words).bind fun q_5=>
   (Zod b.Neg q_5).bind fun q_6=>
   some q_6
  )
 )
def Zsq (a:ZnD):Option ZnD:=
 (Zod (!a.Neg) a.Words).bind fun q=>
 some q
def Zr6 (t2:Bool) (t2_1:Bool) (n:ZnD) (d:ZnD) (t2_2:(List Int)) (t2_3:(List Int)):Option (ZnE×Bool):=
 (ZpJ n d).bind fun q=>
 some (q,true)
def Zun (neg:Bool) (t2:Bool) (t2_1:Bool) (n:ZnD) (d:ZnD) (t2_2:(List Int)) (t2_3:(List Int)):Option (ZnE×Bool):=
 bif neg then (
  (Zsq n).bind fun n_1=>
  Zr6 t2 t2_1 n_1 d t2_2 t2_3
 )else (
  Zr6 t2 t2_1 n d t2_2 t2_3
 )
def Zr7 (rec_:Bool→Bool→Bool→ZnD→ZnD→Str→Nat→(List Int)→(List Int)→Option (Bool×Bool×Bool×ZnD×ZnD×(List Int)×(List Int))) (neg:Bool) (t45:Bool) (t2:Bool) (t2_1:Bool) (n:ZnD) (d:ZnD) (t43:Str) (t43_pos:Nat) (t2_2:(List Int)) (t2_3:(List Int)):Option (Bool×Bool×Bool×ZnD×ZnD×(List Int)×(List Int)):=
 bif t45 then (
  (Zn6 10).bind fun q=>
  (Zn7 d q).bind fun d_1=>
  rec_ neg t2 t2_1 n d_1 t43 t43_pos t2_2 t2_3
 )else (
  some (neg,t2,t2_1,n,d,t2_2,t2_3)
 )
def ZtL (rec_:Bool→Bool→Bool→ZnD→ZnD→Str→Nat→(List Int)→(List Int)→Option (Bool×Bool×Bool×ZnD×ZnD×(List Int)×(List Int))) (neg:Bool) (t2:Bool) (t2_1:Bool) (n:ZnD) (d:ZnD) (t43:Str) (t43_pos:Nat) (t2_2:(List Int)) (t2_3:(List Int)):Option (Bool×Bool×Bool×ZnD×ZnD×(List Int)×(List Int)):=
 bif (decide (t43_pos < t43.length))then (
  Zr7 rec_ neg true t2 t2_1 n d t43 (t43_pos+(Utf8.decode ⟨List.toArray t43⟩ t43_pos).2) t2_2 t2_3
 )else (
  Zr7 rec_ neg false t2 t2_1 n d t43 t43_pos t2_2 t2_3
 )
def ZqB:Nat→Bool→Bool→Bool→ZnD→ZnD→Str→Nat→(List Int)→(List Int)→Option (Bool×Bool×Bool×ZnD×ZnD×(List Int)×(List Int))
 |0,_,_,_,_,_,_,_,_,_=>none
 |n_+1,neg,t2,t2_1,n,d,t43,t43_pos,t2_2,t2_3=>ZtL (ZqB n_) neg t2 t2_1 n d t43 t43_pos t2_2 t2_3
def Zwv (n:Nat) (s:(Bool×Bool×Bool×ZnD×ZnD×Str×Nat×(List Int)×(List Int))):Option (Bool×Bool×Bool×ZnD×ZnD×(List Int)×(List Int)):=ZqB n s.1 s.2.1 s.2.2.1 s.2.2.2.1 s.2.2.2.2.1 s.2.2.2.2.2.1 s.2.2.2.2.2.2.1 s.2.2.2.2.2.2.2.1 s.2.2.2.2.2.2.2.2
def Zww (rec_:(Bool×Bool×Bool×ZnD×ZnD×Str×Nat×(List Int)×(List Int))→Option (Bool×Bool×Bool×ZnD×ZnD×(List Int)×(List Int))) (s:(Bool×Bool×Bool×ZnD×ZnD×Str×Nat×(List Int)×(List Int))):Option (Bool×Bool×Bool×ZnD×ZnD×(List Int)×(List Int)):=ZtL (fun neg t2 t2_1 n d t43 t43_pos t2_2 t2_3=>rec_ (neg,t2,t2_1,n,d,t43,t43_pos,t2_2,t2_3)) s.1 s.2.1 s.2.2.1 s.2.2.2.1 s.2.2.2.2.1 s.2.2.2.2.2.1 s.2.2.2.2.2.2.1 s.2.2.2.2.2.2.2.1 s.2.2.2.2.2.2.2.2
theorem ZyT:∀n s,Zwv (n+1) s=Zww (Zwv n) s:=fun _ _=>rfl
def Zuo (neg:Bool) (places:Str) (t2:Bool) (t2_1:Bool) (n:ZnD) (d:ZnD) (t2_2:(List Int)) (t2_3:(List Int)):Option (ZnE×Bool):=
 (ZqB big neg t2 t2_1 n d places 0 t2_2 t2_3).bind fun(x0,x1,x2,x3,x4,x5,x6)=>Zun x0 x1 x2 x3 x4 x5 x6
def Zrm (rec_:Bool→Str→Int→Int→Bool→Bool→ZnD→ZnD→(List Int)→(List Int)→(List Int)→Option (Bool×Str×Bool×Bool×ZnD×ZnD×(List Int)×(List Int))) (neg:Bool) (places:Str) (t28:Int) (t29:Int) (t2:Bool) (t2_1:Bool) (n:ZnD) (d:ZnD) (t27:(List Int)) (t2_2:(List Int)) (t2_3:(List Int)):Option (Bool×Str×Bool×Bool×ZnD×ZnD×(List Int)×(List Int)):=
 bif (decide (t29 < t28))then (
  chk (inR t29 (t27.length:Int)) <|
  (t27[(t29).toNat]?).bind fun c=>
  (Zn6 10).bind fun q=>
  (Zn7 n q).bind fun q_1=>
  (Zn6 (IntKind.wrap .i64 (IntKind.wrap .u8 (c - 48)))).bind fun q_2=>
  (Zqs q_1 q_2).bind fun n_1=>
  chk (inK .i64 (t29+1)) <|
  rec_ neg places t28 (t29+1) t2 t2_1 n_1 d t27 t2_2 t2_3
 )else (
  some (neg,places,t2,t2_1,n,d,t2_2,t2_3)
 )
def Zr5:Nat→Bool→Str→Int→Int→Bool→Bool→ZnD→ZnD→(List Int)→(List Int)→(List Int)→Option (Bool×Str×Bool×Bool×ZnD×ZnD×(List Int)×(List Int))
 |0,_,_,_,_,_,_,_,_,_,_,_=>none
 |n_+1,neg,places,t28,t29,t2,t2_1,n,d,t27,t2_2,t2_3=>Zrm (Zr5 n_) neg places t28 t29 t2 t2_1 n d t27 t2_2 t2_3
def Zwx (n:Nat) (s:(Bool×Str×Int×Int×Bool×Bool×ZnD×ZnD×(List Int)×(List Int)×(List Int))):Option (Bool×Str×Bool×Bool×ZnD×ZnD×(List Int)×(List Int)):=Zr5 n s.1 s.2.1 s.2.2.1 s.2.2.2.1 s.2.2.2.2.1 s.2.2.2.2.2.1 s.2.2.2.2.2.2.1 s.2.2.2.2.2.2.2.1 s.2.2.2.2.2.2.2.2.1 s.2.2.2.2.2.2.2.2.2.1 s.2.2.2.2.2.2.2.2.2.2
def ZtM (rec_:(Bool×Str×Int×Int×Bool×Bool×ZnD×ZnD×(List Int)×(List Int)×(List Int))→Option (Bool×Str×Bool×Bool×ZnD×ZnD×(List Int)×(List Int))) (s:(Bool×Str×Int×Int×Bool×Bool×ZnD×ZnD×(List Int)×(List Int)×(List Int))):Option (Bool×Str×Bool×Bool×ZnD×ZnD×(List Int)×(List Int)):=Zrm (fun neg places t28 t29 t2 t2_1 n d t27 t2_2 t2_3=>rec_ (neg,places,t28,t29,t2,t2_1,n,d,t27,t2_2,t2_3)) s.1 s.2.1 s.2.2.1 s.2.2.2.1 s.2.2.2.2.1 s.2.2.2.2.2.1 s.2.2.2.2.2.2.1 s.2.2.2.2.2.2.2.1 s.2.2.2.2.2.2.2.2.1 s.2.2.2.2.2.2.2.2.2.1 s.2.2.2.2.2.2.2.2.2.2
theorem ZyU:∀n s,Zwx (n+1) s=ZtM (Zwx n) s:=fun _ _=>rfl
def Zry (s:Str):Option (ZnE×Bool):=
 (ZqU s).bind fun(neg,digits,places,ok)=>
 bif (!ok)then (
  some ((ZnE.mk (ZnD.mk false ([]:(List Int))) (ZnD.mk false ([]:(List Int)))),false)
 )else (
  (Zn6 1).bind fun d=>
  chk (decide (digits.length+places.length≤Zq)) <|
  chk (decide ((digits++places).length≤281474976710656)) <|
  (Zr5 big neg places (((digits++places).map fun b=>((b.toNat:Nat):Int)).length:Int) (0:Int) false false (ZnD.mk false ([]:(List Int))) d ((digits++places).map fun b=>((b.toNat:Nat):Int)) ([]:(List Int)) ([]:(List Int))).bind fun(x0,x1,x2,x3,x4,x5,x6,x7)=>Zuo x0 x1 x2 x3 x4 x5 x6 x7
 )
def ZsT (n:Int) (t4:Bool) (t4_1:Bool) (t4_2:(List Int)) (t4_3:(List Int)):Option (ZnE×Bool):=
 (Zsp n 1).bind fun(f,q)=>
 some (f,true)
def ZsU (kind:Int) (t:Str) (t26:Bool) (t4:Bool) (t4_1:Bool) (t4_2:(List Int)) (t4_3:(List Int)):Option (ZnE×Bool):=
 bif t26 then (
  some ((ZnE.mk (ZnD.mk false ([]:(List Int))) (ZnD.mk false ([]:(List Int)))),false)
 )else (
  bif (kind == 2)then (
   bif (t == ([116,114,117,101]:Str))then (
    ZsT (1:Int) t4 t4_1 t4_2 t4_3
   )else (
    ZsT (0:Int) t4 t4_1 t4_2 t4_3
   )
  )else (
   bif (kind == 5)then (
    (ZuG t).bind fun(y,m,d,q)=>
    (Zvm y m d).bind fun(n,q_1)=>
    ZsT n t4 t4_1 t4_2 t4_3
   )else (
    (Zry t).bind fun(q_2,q_3)=>
    some (q_2,q_3)
   )
  )
 )
def Zso (kind:Int) (s:Str):Option (ZnE×Bool):=
 (ZqL kind s).bind fun(t,ok)=>
 bif (!ok)then (
  ZsU kind t true false false ([]:(List Int)) ([]:(List Int))
 )else (
  ZsU kind t (kind == 1) false false ([]:(List Int)) ([]:(List Int))
 )
def ZrO (c:G_api_Cell):Option (ZnE×Bool):=
 bif c.Null then (
  some ((ZnE.mk (ZnD.mk false ([]:(List Int))) (ZnD.mk false ([]:(List Int)))),false)
 )else (
  (Zso 4 c.Text).bind fun(q,q_1)=>
  some (q,q_1)
 )
def Zvu (h_:Int):Option Int:=
 some h_
def ZsD (rec_:Str→Int→Int→Option Int) (s:Str) (h_:Int) (i:Int):Option Int:=
 bif (decide (i < (s.length:Int)))then (
  (idx s i).bind fun c=>
  chk (inK .i64 (i+1)) <|
  rec_ s (IntKind.wrap .u64 ((xorK .u64 h_ (IntKind.wrap .u64 ((c.toNat:Nat):Int)))*1099511628211)) (i+1)
 )else (
  some h_
 )
def Ztq:Nat→Str→Int→Int→Option Int
 |0,_,_,_=>none
 |n_+1,s,h_,i=>ZsD (Ztq n_) s h_ i
def Zxo (n:Nat) (s:(Str×Int×Int)):Option Int:=Ztq n s.1 s.2.1 s.2.2
def ZuA (rec_:(Str×Int×Int)→Option Int) (s:(Str×Int×Int)):Option Int:=ZsD (fun s h_ i=>rec_ (s,h_,i)) s.1 s.2.1 s.2.2
theorem Zzr:∀n s,Zxo (n+1) s=ZuA (Zxo n) s:=fun _ _=>rfl
def Zri (s:Str):Option Int:=
 (Ztq big s (14695981039346656037:Int) (0:Int)).bind fun x0=>Zvu x0
def Zp0 (t24:Bool) (f:ZnE):Option Bool:=
 bif t24 then (
  some false
 )else (
  bif ((f.Num.Words.length:Int) == 0)then (
   (ZoX f.Den.Words ([1]:(List Int))).bind fun q=>
   some (q == 0)
  )else (
   (ZrH f.Num.Words f.Den.Words).bind fun q_1=>
   (ZoX q_1 ([1]:(List Int))).bind fun q_2=>
   some (q_2 == 0)
  )
 )
def ZqT (f:ZnE):Option Bool:=
 (Zpl f.Num).bind fun q=>
 bif (!q)then (
  Zp0 true f
 )else (
  (Zpl f.Den).bind fun q_1=>
  bif (!q_1)then (
   Zp0 true f
  )else (
   bif f.Den.Neg then (
    Zp0 true f
   )else (
    Zp0 ((f.Den.Words.length:Int) == 0) f
   )
  )
 )
def ZsJ (t21:Bool) (t4:Bool) (t4_1:Bool) (f:ZnE) (t4_2:(List Int)) (t4_3:(List Int)):Option (ZnE×Int):=
 bif t21 then (
  some ((ZnE.mk (ZnD.mk false ([]:(List Int))) (ZnD.mk false ([]:(List Int)))),3)
 )else (
  some (f,0)
 )
def ZrT (num:ZnD) (den:ZnD):Option (ZnE×Int):=
 (ZpJ num den).bind fun f=>
 bif (decide ((f.Num.Words.length:Int) > 256))then (
  ZsJ true false false f ([]:(List Int)) ([]:(List Int))
 )else (
  ZsJ (decide ((f.Den.Words.length:Int) > 256)) false false f ([]:(List Int)) ([]:(List Int))
 )
def Zt4 (t13:Bool) (a:ZnE) (b:ZnE) (t4:Bool) (t4_1:Bool) (t4_2:(List Int)) (t4_3:(List Int)):Option (ZnE×Int):=
 bif t13 then (
  some ((ZnE.mk (ZnD.mk false ([]:(List Int))) (ZnD.mk false ([]:(List Int)))),1)
 )else (
  (Zn7 a.Num b.Den).bind fun q=>
  (Zn7 b.Num a.Den).bind fun q_1=>
  (Zqs q q_1).bind fun q_2=>
  (Zn7 a.Den b.Den).bind fun q_3=>
  (ZrT q_2 q_3).bind fun(q_4,q_5)=>
  some (q_4,q_5)
 )
def ZtF (a:ZnE) (b:ZnE):Option (ZnE×Int):=
 (ZqT a).bind fun q=>
 bif (!q)then (
  Zt4 true a b false false ([]:(List Int)) ([]:(List Int))
 )else (
  (ZqT b).bind fun q_1=>
  Zt4 (!q_1) a b false false ([]:(List Int)) ([]:(List Int))
 )
def ZtC (a:ZnE) (b:ZnE):Option ZnE:=
 (ZtF a b).bind fun(f,q)=>
 some f
def ZqH (t4:Bool):Option Bool:=
 some t4
def ZrN (a:ZnA) (b:ZnA):Option Bool:=
 bif (decide (a.Hash < b.Hash))then (
  ZqH true
 )else (
  bif (a.Hash == b.Hash)then (
   ZqH (Op.bytesLess a.Key b.Key)
  )else (
   ZqH false
  )
 )
def ZrL (out:(List ZnA)):Option (List ZnA):=
 some out
def ZtV (done:Bool) (e:ZnA) (out:(List ZnA)):Option (List ZnA):=
 bif (!done)then (
  chk (ZiZ (out.length+([e]:(List ZnA)).length) 96) <|
  ZrL (out++([e]:(List ZnA)))
 )else (
  ZrL out
 )
def Zpf (rec_:Bool→(List ZnA)→Int→Int→ZnA→(List ZnA)→Option (Bool×ZnA×(List ZnA))) (done:Bool) (t9:(List ZnA)) (t10:Int) (t11:Int) (e:ZnA) (out:(List ZnA)) (x_:ZnA):Option (Bool×ZnA×(List ZnA)):=
 chk (ZiZ (out.length+([x_]:(List ZnA)).length) 96) <|
 chk (inK .i64 (t11+1)) <|
 rec_ done t9 t10 (t11+1) e (out++([x_]:(List ZnA)))
def ZrM (rec_:Bool→(List ZnA)→Int→Int→ZnA→(List ZnA)→Option (Bool×ZnA×(List ZnA))) (done:Bool) (t9:(List ZnA)) (t10:Int) (t11:Int) (t38:Bool) (e:ZnA) (out:(List ZnA)) (x_:ZnA):Option (Bool×ZnA×(List ZnA)):=
 bif t38 then (
  chk (ZiZ (out.length+([e]:(List ZnA)).length) 96) <|
  Zpf rec_ true t9 t10 t11 e (out++([e]:(List ZnA))) x_
 )else (
  Zpf rec_ done t9 t10 t11 e out x_
 )
def ZpX (rec_:Bool→(List ZnA)→Int→Int→ZnA→(List ZnA)→Option (Bool×ZnA×(List ZnA))) (done:Bool) (t9:(List ZnA)) (t10:Int) (t11:Int) (e:ZnA) (out:(List ZnA)):Option (Bool×ZnA×(List ZnA)):=
 bif (decide (t11 < t10))then (
  (idx t9 t11).bind fun x_=>
  bif (x_.Key == e.Key)then (
   chk (inK .i64 (x_.Count+e.Count)) <|
   (ZtC x_.Sum e.Sum).bind fun q=>
   Zpf rec_ true t9 t10 t11 e out (ZnA.mk x_.Key x_.Hash (x_.Count+e.Count) q)
  )else (
   bif (!done)then (
    (ZrN e x_).bind fun q_1=>
    ZrM rec_ done t9 t10 t11 q_1 e out x_
   )else (
    ZrM rec_ done t9 t10 t11 false e out x_
   )
  )
 )else (
  some (done,e,out)
 )
def ZqC:Nat→Bool→(List ZnA)→Int→Int→ZnA→(List ZnA)→Option (Bool×ZnA×(List ZnA))
 |0,_,_,_,_,_,_=>none
 |n_+1,done,t9,t10,t11,e,out=>ZpX (ZqC n_) done t9 t10 t11 e out
def ZxE (n:Nat) (s:(Bool×(List ZnA)×Int×Int×ZnA×(List ZnA))):Option (Bool×ZnA×(List ZnA)):=ZqC n s.1 s.2.1 s.2.2.1 s.2.2.2.1 s.2.2.2.2.1 s.2.2.2.2.2
def ZqZ (rec_:(Bool×(List ZnA)×Int×Int×ZnA×(List ZnA))→Option (Bool×ZnA×(List ZnA))) (s:(Bool×(List ZnA)×Int×Int×ZnA×(List ZnA))):Option (Bool×ZnA×(List ZnA)):=ZpX (fun done t9 t10 t11 e out=>rec_ (done,t9,t10,t11,e,out)) s.1 s.2.1 s.2.2.1 s.2.2.2.1 s.2.2.2.2.1 s.2.2.2.2.2
theorem Zxl:∀n s,ZxE (n+1) s=ZqZ (ZxE n) s:=fun _ _=>rfl
def ZpS (l:(List ZnA)) (e:ZnA):Option (List ZnA):=
 (ZqC big false l (l.length:Int) (0:Int) e ([]:(List ZnA))).bind fun(x0,x1,x2)=>ZtV x0 x1 x2
def Zvt (out:(List ZnA)):Option (List ZnA):=
 some out
def Ztm (rec_:(List G_api_Cell)→Int→Int→G_api_Column→(List ZnA)→Option (List ZnA)) (t11:(List G_api_Cell)) (t12:Int) (i:Int) (value:G_api_Column) (out:(List ZnA)):Option (List ZnA):=
 chk (inK .i64 (i+1)) <|
 rec_ t11 t12 (i+1) value out
def Ztn (rec_:(List G_api_Cell)→Int→Int→G_api_Column→(List ZnA)→Option (List ZnA)) (t11:(List G_api_Cell)) (t12:Int) (i:Int) (t32:Bool) (value:G_api_Column) (out:(List ZnA)) (c:G_api_Cell) (f:ZnE):Option (List ZnA):=
 bif t32 then (
  Ztm rec_ t11 t12 i value out
 )else (
  (Zri c.Text).bind fun q=>
  (ZpS out (ZnA.mk c.Text q 1 f)).bind fun out_1=>
  Ztm rec_ t11 t12 i value out_1
 )
def ZsC (rec_:(List G_api_Cell)→Int→Int→G_api_Column→(List ZnA)→Option (List ZnA)) (t11:(List G_api_Cell)) (t12:Int) (i:Int) (value:G_api_Column) (out:(List ZnA)):Option (List ZnA):=
 bif (decide (i < t12))then (
  (idx t11 i).bind fun c=>
  (idx value.Cells i).bind fun Cell=>
  (ZrO Cell).bind fun(f,ok)=>
  bif c.Null then (
   Ztn rec_ t11 t12 i true value out c f
  )else (
   Ztn rec_ t11 t12 i (!ok) value out c f
  )
 )else (
  some out
 )
def Zqp:Nat→(List G_api_Cell)→Int→Int→G_api_Column→(List ZnA)→Option (List ZnA)
 |0,_,_,_,_,_=>none
 |n_+1,t11,t12,i,value,out=>ZsC (Zqp n_) t11 t12 i value out
def Zxn (n:Nat) (s:((List G_api_Cell)×Int×Int×G_api_Column×(List ZnA))):Option (List ZnA):=Zqp n s.1 s.2.1 s.2.2.1 s.2.2.2.1 s.2.2.2.2
def Zuz (rec_:((List G_api_Cell)×Int×Int×G_api_Column×(List ZnA))→Option (List ZnA)) (s:((List G_api_Cell)×Int×Int×G_api_Column×(List ZnA))):Option (List ZnA):=ZsC (fun t11 t12 i value out=>rec_ (t11,t12,i,value,out)) s.1 s.2.1 s.2.2.1 s.2.2.2.1 s.2.2.2.2
theorem Zzq:∀n s,Zxn (n+1) s=Zuz (Zxn n) s:=fun _ _=>rfl
def ZsQ (key:G_api_Column) (value:G_api_Column):Option (List ZnA):=
 (Zqp big key.Cells (key.Cells.length:Int) (0:Int) value ([]:(List ZnA))).bind fun x0=>Zvt x0
def Zto (k:Int) (t17:Bool) (key:G_api_Column) (value:G_api_Column) (t6:Int) (t6_1:Bool) (t6_2:(List ZnA)):Option (ZnM×Int):=
 bif t17 then (
  some ((ZnM.mk 0 false ([]:(List ZnA))),1)
 )else (
  (ZsQ key value).bind fun l=>
  chk (Zb9 0 (if (l.length:Int) < k then (l.length:Int)else k) (l.length:Int)) <|
  some ((ZnM.mk k (decide ((l.length:Int)≤k)) ((l.drop 0).take (((if (l.length:Int) < k then (l.length:Int)else k)).toNat - 0))),0)
 )
def Ztp (k:Int) (t9:Bool) (key:G_api_Column) (value:G_api_Column) (t6:Int) (t6_1:Bool) (t6_2:(List ZnA)):Option (ZnM×Int):=
 bif t9 then (
  some ((ZnM.mk 0 false ([]:(List ZnA))),2)
 )else (
  bif ((key.Cells.length:Int) != (value.Cells.length:Int))then (
   Zto k true key value t6 t6_1 t6_2
  )else (
   Zto k (decide ((key.Cells.length:Int) > 4096)) key value t6 t6_1 t6_2
  )
 )
def ZsR (key:G_api_Column) (value:G_api_Column) (k:Int):Option (ZnM×Int):=
 bif (decide (k < 1))then (
  Ztp k true key value (0:Int) false ([]:(List ZnA))
 )else (
  Ztp k (decide (k > 256)) key value (0:Int) false ([]:(List ZnA))
 )
def Zvs:Option Bool:=
 some true
def Zqo (rec_:(List ZnA)→Int→Int→ZnM→Option (Out Unit Bool)) (t30:(List ZnA)) (t31:Int) (i:Int) (t68:Bool) (b:ZnM):Option (Out Unit Bool):=
 bif t68 then (
  some (.ret false)
 )else (
  chk (inK .i64 (i+1)) <|
  rec_ t30 t31 (i+1) b
 )
def ZsB (rec_:(List ZnA)→Int→Int→ZnM→Option (Out Unit Bool)) (t30:(List ZnA)) (t31:Int) (i:Int) (b:ZnM):Option (Out Unit Bool):=
 bif (decide (i < t31))then (
  (idx t30 i).bind fun e=>
  (idx b.Entries i).bind fun x_=>
  bif (!(e.Key == x_.Key))then (
   Zqo rec_ t30 t31 i true b
  )else (
   bif (e.Hash != x_.Hash)then (
    Zqo rec_ t30 t31 i true b
   )else (
    bif (e.Count != x_.Count)then (
     Zqo rec_ t30 t31 i true b
    )else (
     (Zrk e.Sum x_.Sum).bind fun q=>
     Zqo rec_ t30 t31 i (!q) b
    )
   )
  )
 )else (
  some (.brk ())
 )
def Zqn:Nat→(List ZnA)→Int→Int→ZnM→Option (Out Unit Bool)
 |0,_,_,_,_=>none
 |n_+1,t30,t31,i,b=>ZsB (Zqn n_) t30 t31 i b
def Zxm (n:Nat) (s:((List ZnA)×Int×Int×ZnM)):Option (Out Unit Bool):=Zqn n s.1 s.2.1 s.2.2.1 s.2.2.2
def Zuy (rec_:((List ZnA)×Int×Int×ZnM)→Option (Out Unit Bool)) (s:((List ZnA)×Int×Int×ZnM)):Option (Out Unit Bool):=ZsB (fun t30 t31 i b=>rec_ (t30,t31,i,b)) s.1 s.2.1 s.2.2.1 s.2.2.2
theorem Zzp:∀n s,Zxm (n+1) s=Zuy (Zxm n) s:=fun _ _=>rfl
def Zrs (t28:Bool) (a:ZnM) (b:ZnM):Option Bool:=
 bif t28 then (
  some false
 )else (
  (Zqn big a.Entries (a.Entries.length:Int) (0:Int) b).bind fun
   | .ret q_=>some q_
   | .brk ()=>Zvs
 )
def Zqr (a:ZnM) (b:ZnM):Option Bool:=
 bif (a.K != b.K)then (
  Zrs true a b
 )else (
  bif (!(a.All == b.All))then (
   Zrs true a b
  )else (
   Zrs ((a.Entries.length:Int) != (b.Entries.length:Int)) a b
  )
 )
def ZqM (t10:Bool):Option Bool:=
 some t10
def Zs6 (s:Str):Option Bool:=
 (ZvL s).bind fun q=>
 (Zri s).bind fun q_1=>
 bif (q == q_1)then (
  (ZqV).bind fun q_2=>
  ZqM q_2
 )else (
  ZqM false
 )
def Zs7 (rec_:Int→Str→Int→Int→(List ZnH)→Option (Out Str Bool)) (k:Int) (s:Str) (t67:Int) (t68:Int) (t66:(List ZnH)):Option (Out Str Bool):=
 chk (inK .i64 (t68+1)) <|
 rec_ k s t67 (t68+1) t66
def ZqN (rec_:Int→Str→Int→Int→Int→Int→ZnH→(List ZnH)→(List Int)→Option (Out (Int×Str×Int×Int×(List ZnH)) Bool)) (k:Int) (s:Str) (t67:Int) (t68:Int) (t79:Int) (t80:Int) (t110:Bool) (p:ZnH) (t66:(List ZnH)) (t78:(List Int)):Option (Out (Int×Str×Int×Int×(List ZnH)) Bool):=
 bif t110 then (
  some (.ret false)
 )else (
  chk (inK .i64 (t80+1)) <|
  rec_ k s t67 t68 t79 (t80+1) p t66 t78
 )
def Zqt (rec_:Int→Str→Int→Int→Int→Int→ZnH→(List ZnH)→(List Int)→Option (Out (Int×Str×Int×Int×(List ZnH)) Bool)) (k:Int) (s:Str) (t67:Int) (t68:Int) (t79:Int) (t80:Int) (p:ZnH) (t66:(List ZnH)) (t78:(List Int)):Option (Out (Int×Str×Int×Int×(List ZnH)) Bool):=
 bif (decide (t80 < t79))then (
  chk (inR t80 (t78.length:Int)) <|
  (t78[(t80).toNat]?).bind fun m=>
  chk (inR 0 2) <|
  chk (inR 1 2) <|
  (ZvK p.e0 p.e1 m).bind fun(x_,e)=>
  chk (inR 0 2) <|
  chk (inR 1 2) <|
  (ZsR p.e0 p.e1 m).bind fun(y,f)=>
  (Zqr x_ y).bind fun q=>
  bif (!q)then (
   ZqN rec_ k s t67 t68 t79 t80 true p t66 t78
  )else (
   ZqN rec_ k s t67 t68 t79 t80 (e != f) p t66 t78
  )
 )else (
  some (.brk (k,s,t67,t68,t66))
 )
def ZoR:Nat→Int→Str→Int→Int→Int→Int→ZnH→(List ZnH)→(List Int)→Option (Out (Int×Str×Int×Int×(List ZnH)) Bool)
 |0,_,_,_,_,_,_,_,_,_=>none
 |n_+1,k,s,t67,t68,t79,t80,p,t66,t78=>Zqt (ZoR n_) k s t67 t68 t79 t80 p t66 t78
def Zu9 (n:Nat) (s:(Int×Str×Int×Int×Int×Int×ZnH×(List ZnH)×(List Int))):Option (Out (Int×Str×Int×Int×(List ZnH)) Bool):=ZoR n s.1 s.2.1 s.2.2.1 s.2.2.2.1 s.2.2.2.2.1 s.2.2.2.2.2.1 s.2.2.2.2.2.2.1 s.2.2.2.2.2.2.2.1 s.2.2.2.2.2.2.2.2
def Zsl (rec_:(Int×Str×Int×Int×Int×Int×ZnH×(List ZnH)×(List Int))→Option (Out (Int×Str×Int×Int×(List ZnH)) Bool)) (s:(Int×Str×Int×Int×Int×Int×ZnH×(List ZnH)×(List Int))):Option (Out (Int×Str×Int×Int×(List ZnH)) Bool):=Zqt (fun k s t67 t68 t79 t80 p t66 t78=>rec_ (k,s,t67,t68,t79,t80,p,t66,t78)) s.1 s.2.1 s.2.2.1 s.2.2.2.1 s.2.2.2.2.1 s.2.2.2.2.2.1 s.2.2.2.2.2.2.1 s.2.2.2.2.2.2.2.1 s.2.2.2.2.2.2.2.2
theorem Zyr:∀n s,Zu9 (n+1) s=Zsl (Zu9 n) s:=fun _ _=>rfl
def Zqu (rec_:Int→Str→Int→Int→(List ZnH)→Option (Out Str Bool)) (k:Int) (s:Str) (t67:Int) (t68:Int) (t66:(List ZnH)):Option (Out Str Bool):=
 bif (decide (t68 < t67))then (
  chk (inR t68 (t66.length:Int)) <|
  (t66[(t68).toNat]?).bind fun p=>
  (ZrD k 6).bind fun q=>
  (ZrD k 2).bind fun q_1=>
  chk (inK .i64 (256+q_1)) <|
  (ZoR big k s t67 t68 (([k,q,(256+q_1)]:(List Int)).length:Int) (0:Int) p t66 ([k,q,(256+q_1)]:(List Int))).bind fun
   | .ret q_=>some (.ret q_)
   | .brk (x0,x1,x2,x3,x4)=>Zs7 rec_ x0 x1 x2 x3 x4
 )else (
  some (.brk s)
 )
def ZoS:Nat→Int→Str→Int→Int→(List ZnH)→Option (Out Str Bool)
 |0,_,_,_,_,_=>none
 |n_+1,k,s,t67,t68,t66=>Zqu (ZoS n_) k s t67 t68 t66
def Zva (n:Nat) (s:(Int×Str×Int×Int×(List ZnH))):Option (Out Str Bool):=ZoS n s.1 s.2.1 s.2.2.1 s.2.2.2.1 s.2.2.2.2
def Zsm (rec_:(Int×Str×Int×Int×(List ZnH))→Option (Out Str Bool)) (s:(Int×Str×Int×Int×(List ZnH))):Option (Out Str Bool):=Zqu (fun k s t67 t68 t66=>rec_ (k,s,t67,t68,t66)) s.1 s.2.1 s.2.2.1 s.2.2.2.1 s.2.2.2.2
theorem Zys:∀n s,Zva (n+1) s=Zsm (Zva n) s:=fun _ _=>rfl
def Zot (t:(List Int)) (k:Int) (s:Str) (t42:Bool) (key:G_api_Column) (value:G_api_Column):Option Bool:=
 bif t42 then (
  (ZqV).bind fun q=>
  some q
 )else (
  (ZvJ t).bind fun d=>
  (Zon d 12).bind fun(n,t46)=>
  (Zrn t46 n).bind fun(a,t48)=>
  (Zrn t48 n).bind fun(b,t51)=>
  (ZoS big k s (([(ZnH.mk key value),(ZnH.mk a b),(ZnH.mk b a),(ZnH.mk a key)]:(List ZnH)).length:Int) (0:Int) ([(ZnH.mk key value),(ZnH.mk a b),(ZnH.mk b a),(ZnH.mk a key)]:(List ZnH))).bind fun
   | .ret q_=>some q_
   | .brk x0=>Zs6 x0
 )
def ZrE (key:G_api_Column) (value:G_api_Column) (t:(List Int)) (k:Int) (s:Str):Option Bool:=
 bif (decide ((key.Cells.length:Int) > 40))then (
  Zot t k s true key value
 )else (
  bif (decide ((value.Cells.length:Int) > 40))then (
   Zot t k s true key value
  )else (
   bif (decide ((s.length:Int) > 500))then (
    Zot t k s true key value
   )else (
    (Zvn t).bind fun q=>
    Zot t k s (!q) key value
   )
  )
 )
end
end Go.Proofs
