/- Printed by wip/tools/tgen.py: specs. -/
import Derived.Test.YthefajbigloihaaGreatDoorE4
import Derived.Lib.Bytealg
import Derived.Lib.SlTrimSet
import Derived.Test.YthefajbigloihaaGreatDoorSwWD
set_option linter.unusedVariables false
set_option linter.unusedSimpArgs false
set_option linter.unusedSectionVars false
namespace Go.Proofs
open Go Eng
set_option maxRecDepth 100000
noncomputable section
structure ZnG where
 Null:Bool
 Text:Str
 deriving DecidableEq,Inhabited
structure ZnJ where
 Name:Str
 Cells:(List ZnG)
 deriving DecidableEq,Inhabited
structure ZnB where
 Neg:Bool
 Words:(List Int)
 deriving DecidableEq,Inhabited
structure ZnA where
 Num:ZnB
 Den:ZnB
 deriving DecidableEq,Inhabited
structure Zod where
 word:Str
 canonical:(Option Nat)
 value:(Option Nat)
 deriving DecidableEq,Inhabited
structure ZnD where
 l:(List Int)
 at_:Int
 deriving DecidableEq,Inhabited
def ZuP:Nat→Type
 |0=>ZnG
 |1=>ZnJ
 |2=>ZnB
 |3=>ZnA
 |4=>Zod
 |5=>ZnD
 |_=>Unit
def ZB3:Nat→Nat
 |0=>2
 |1=>2
 |2=>2
 |3=>4
 |4=>3
 |5=>2
 |_=>0
def Zvl:List (Lf ZuP):=[⟨.sl (.int .u32),([1]:List Int)⟩]
def ZqL (t:(List Int)):Option Bool:=
 some (decide ((t.length:Int)≤500))
def ZnX (name:Str):Option (List Str):=
 ZvJ (chk (decide (name.length≤1099511627776)) <| some (ZsX (Zs9 (name++[32]) [])))
def Zrw:Option Bool:=
 some true
def Zov (rec_:(List Str)→(List Str)→Int→Int→Option (Out Unit Bool)) (b:(List Str)) (t12:(List Str)) (t13:Int) (i:Int):Option (Out Unit Bool):=
 bif (decide (i < t13))then (
  (idx t12 i).bind fun s=>
  (idx b i).bind fun b_e=>
  bif (!(b_e == s))then (
   some (.ret false)
  )else (
   chk (inK .i64 (i+1)) <|
   rec_ b t12 t13 (i+1)
  )
 )else (
  some (.brk ())
 )
def Zoi:Nat→(List Str)→(List Str)→Int→Int→Option (Out Unit Bool)
 |0,_,_,_,_=>none
 |n_+1,b,t12,t13,i=>Zov (Zoi n_) b t12 t13 i
def ZqY (n:Nat) (s:((List Str)×(List Str)×Int×Int)):Option (Out Unit Bool):=Zoi n s.1 s.2.1 s.2.2.1 s.2.2.2
def Zpj (rec_:((List Str)×(List Str)×Int×Int)→Option (Out Unit Bool)) (s:((List Str)×(List Str)×Int×Int)):Option (Out Unit Bool):=Zov (fun b t12 t13 i=>rec_ (b,t12,t13,i)) s.1 s.2.1 s.2.2.1 s.2.2.2
theorem ZsV:∀n s,ZqY (n+1) s=Zpj (ZqY n) s:=fun _ _=>rfl
def ZnT (a:(List Str)) (b:(List Str)):Option Bool:=
 bif ((a.length:Int) != (b.length:Int))then (
  some false
 )else (
  (Zoi big b a (a.length:Int) (0:Int)).bind fun
   | .ret q_=>some q_
   | .brk ()=>Zrw
 )
def Zqh (c:ZnJ):Option (List Str):=
 ZvJ (chk (decide (c.Cells.length≤1099511627776)) <| some (ZsX ((c.Cells.filter fun x=> !x.Null).map fun x=>x.Text)))
def Zq6 (x_:Str):Option Bool:=
 some (!(x_ == x_))
def Zqm (t4:Bool):Option Bool:=
 some t4
def ZrG (x_:Str) (y:Str):Option Bool:=
 (Zq6 x_).bind fun q=>
 bif q then (
  (Zq6 y).bind fun q_1=>
  bif (!q_1)then (
   Zqm true
  )else (
   Zqm (Op.bytesLess x_ y)
  )
 )else (
  Zqm (Op.bytesLess x_ y)
 )
def Zp5 (x_:Str):Option Bool:=
 some (!(x_ == x_))
def ZnM (t4:Int) (t5:Bool):Option (Int×Bool):=
 some (t4,t5)
def ZoO (x_:(List Str)) (target:Str) (n:Int) (i:Int):Option (Int×Bool):=
 bif (decide (i < n))then (
  (idx x_ i).bind fun x__e=>
  bif (x__e == target)then (
   ZnM i true
  )else (
   (idx x_ i).bind fun x__e_1=>
   (Zp5 x__e_1).bind fun q=>
   bif q then (
    (Zp5 target).bind fun q_1=>
    ZnM i q_1
   )else (
    ZnM i false
   )
  )
 )else (
  ZnM i false
 )
def Zoy (rec_:(List Str)→Str→Int→Int→Int→Option ((List Str)×Str×Int×Int)) (x_:(List Str)) (target:Str) (n:Int) (i:Int) (j:Int):Option ((List Str)×Str×Int×Int):=
 bif (decide (i < j))then (
  chk (inK .i64 (i+j)) <|
  chk (decide (0≤(1:Int))) <|
  (idx x_ (IntKind.wrap .i64 (shrK .u64 (IntKind.wrap .u64 (i+j)) 1))).bind fun x__e=>
  (ZrG x__e target).bind fun q=>
  bif q then (
   chk (inK .i64 ((IntKind.wrap .i64 (shrK .u64 (IntKind.wrap .u64 (i+j)) 1))+1)) <|
   rec_ x_ target n ((IntKind.wrap .i64 (shrK .u64 (IntKind.wrap .u64 (i+j)) 1))+1) j
  )else (
   rec_ x_ target n i (IntKind.wrap .i64 (shrK .u64 (IntKind.wrap .u64 (i+j)) 1))
  )
 )else (
  some (x_,target,n,i)
 )
def Zoa:Nat→(List Str)→Str→Int→Int→Int→Option ((List Str)×Str×Int×Int)
 |0,_,_,_,_,_=>none
 |n_+1,x_,target,n,i,j=>Zoy (Zoa n_) x_ target n i j
def ZpT (n:Nat) (s:((List Str)×Str×Int×Int×Int)):Option ((List Str)×Str×Int×Int):=Zoa n s.1 s.2.1 s.2.2.1 s.2.2.2.1 s.2.2.2.2
def ZpU (rec_:((List Str)×Str×Int×Int×Int)→Option ((List Str)×Str×Int×Int)) (s:((List Str)×Str×Int×Int×Int)):Option ((List Str)×Str×Int×Int):=Zoy (fun x_ target n i j=>rec_ (x_,target,n,i,j)) s.1 s.2.1 s.2.2.1 s.2.2.2.1 s.2.2.2.2
theorem Zr0:∀n s,ZpT (n+1) s=ZpU (ZpT n) s:=fun _ _=>rfl
def ZnY (x_:(List Str)) (target:Str):Option (Int×Bool):=
 (Zoa big x_ target (x_.length:Int) (0:Int) (x_.length:Int)).bind fun(x0,x1,x2,x3)=>ZoO x0 x1 x2 x3
def Zr1 (n:Int):Option Int:=
 some n
def ZqM (rec_:(List Str)→Int→(List Str)→Int→Int→Option Int) (b:(List Str)) (n:Int) (t10:(List Str)) (t11:Int) (t12:Int):Option Int:=
 chk (inK .i64 (t12+1)) <|
 rec_ b n t10 t11 (t12+1)
def Zp8 (rec_:(List Str)→Int→(List Str)→Int→Int→Option Int) (b:(List Str)) (n:Int) (t10:(List Str)) (t11:Int) (t12:Int):Option Int:=
 bif (decide (t12 < t11))then (
  (idx t10 t12).bind fun s=>
  (ZnY b s).bind fun(q,ok)=>
  bif ok then (
   chk (inK .i64 (n+1)) <|
   ZqM rec_ b (n+1) t10 t11 t12
  )else (
   ZqM rec_ b n t10 t11 t12
  )
 )else (
  some n
 )
def ZpK:Nat→(List Str)→Int→(List Str)→Int→Int→Option Int
 |0,_,_,_,_,_=>none
 |n_+1,b,n,t10,t11,t12=>Zp8 (ZpK n_) b n t10 t11 t12
def ZsU (n:Nat) (s:((List Str)×Int×(List Str)×Int×Int)):Option Int:=ZpK n s.1 s.2.1 s.2.2.1 s.2.2.2.1 s.2.2.2.2
def Zry (rec_:((List Str)×Int×(List Str)×Int×Int)→Option Int) (s:((List Str)×Int×(List Str)×Int×Int)):Option Int:=Zp8 (fun b n t10 t11 t12=>rec_ (b,n,t10,t11,t12)) s.1 s.2.1 s.2.2.1 s.2.2.2.1 s.2.2.2.2
theorem Zt9:∀n s,ZsU (n+1) s=Zry (ZsU n) s:=fun _ _=>rfl
def ZqA (a:(List Str)) (b:(List Str)):Option Int:=
 (ZpK big b (0:Int) a (a.length:Int) (0:Int)).bind fun x0=>Zr1 x0
def Zsm (w_:(List Int)):Option (List Int):=
 some w_
def Zq1 (rec_:(List Int)→Option (List Int)) (w_:(List Int)) (t14:Bool):Option (List Int):=
 bif t14 then (
  chk (inK .i64 ((w_.length:Int) - 1)) <|
  chk (Zb9 0 ((w_.length:Int) - 1) (w_.length:Int)) <|
  rec_ (w_.take (((w_.length:Int) - 1)).toNat)
 )else (
  some w_
 )
def Zqr (rec_:(List Int)→Option (List Int)) (w_:(List Int)):Option (List Int):=
 bif (decide ((w_.length:Int) > 0))then (
  chk (inK .i64 ((w_.length:Int) - 1)) <|
  (idx w_ ((w_.length:Int) - 1)).bind fun w__e=>
  Zq1 rec_ w_ (w__e == 0)
 )else (
  Zq1 rec_ w_ false
 )
def Zol:Nat→(List Int)→Option (List Int)
 |0,_=>none
 |n_+1,w_=>Zqr (Zol n_) w_
def Zs4 (n:Nat) (s:(List Int)):Option (List Int):=Zol n s
def Zs5 (rec_:(List Int)→Option (List Int)) (s:(List Int)):Option (List Int):=Zqr (fun w_=>rec_ w_) s
theorem Zud:∀n s,Zs4 (n+1) s=Zs5 (Zs4 n) s:=fun _ _=>rfl
def ZnN (w_:(List Int)):Option (List Int):=
 (Zol big w_).bind fun x0=>Zsm x0
def Zpy (n:Int):Option (List Int):=
 chk (decide (0≤(32:Int))) <|
 (ZnN ([(IntKind.wrap .u32 n),(IntKind.wrap .u32 (shrK .u64 n 32))]:(List Int))).bind fun q=>
 some q
def Zrq (t4:Bool) (t4_1:(List Int)):Option ZnB:=
 some (ZnB.mk t4 t4_1)
def ZnQ (neg:Bool) (w_:(List Int)):Option ZnB:=
 bif neg then (
  chk (ZiZ w_.length 4) <|
  Zrq (decide ((w_.length:Int) > 0)) w_
 )else (
  chk (ZiZ w_.length 4) <|
  Zrq false w_
 )
def Zqd (n:Int):Option ZnB:=
 bif (decide (n < 0))then (
  (Zpy (IntKind.wrap .u64 (0 - (IntKind.wrap .u64 n)))).bind fun q=>
  (ZnQ true q).bind fun q_1=>
  some q_1
 )else (
  (Zpy (IntKind.wrap .u64 n)).bind fun q_2=>
  (ZnQ false q_2).bind fun q_3=>
  some q_3
 )
def Zoc (t2:Bool):Option Bool:=
 some t2
def ZpR (a:ZnB):Option Bool:=
 bif (decide ((a.Words.length:Int)≤256))then (
  bif ((a.Words.length:Int) == 0)then (
   bif (!a.Neg)then (
    Zoc true
   )else (
    bif (decide ((a.Words.length:Int) > 0))then (
     chk (inK .i64 ((a.Words.length:Int) - 1)) <|
     (idx a.Words ((a.Words.length:Int) - 1)).bind fun Word=>
     Zoc (Word != 0)
    )else (
     Zoc false
    )
   )
  )else (
   bif (decide ((a.Words.length:Int) > 0))then (
    chk (inK .i64 ((a.Words.length:Int) - 1)) <|
    (idx a.Words ((a.Words.length:Int) - 1)).bind fun Word_1=>
    Zoc (Word_1 != 0)
   )else (
    Zoc false
   )
  )
 )else (
  Zoc false
 )
def Zt2:Option Bool:=
 some true
def Zrs (rec_:(List ZnB)→Int→Int→Option (Out Unit Bool)) (t5:(List ZnB)) (t6:Int) (t7:Int):Option (Out Unit Bool):=
 bif (decide (t7 < t6))then (
  (idx t5 t7).bind fun a=>
  (ZpR a).bind fun q=>
  bif (!q)then (
   some (.ret false)
  )else (
   chk (inK .i64 (t7+1)) <|
   rec_ t5 t6 (t7+1)
  )
 )else (
  some (.brk ())
 )
def Zr5:Nat→(List ZnB)→Int→Int→Option (Out Unit Bool)
 |0,_,_,_=>none
 |n_+1,t5,t6,t7=>Zrs (Zr5 n_) t5 t6 t7
def ZtA (n:Nat) (s:((List ZnB)×Int×Int)):Option (Out Unit Bool):=Zr5 n s.1 s.2.1 s.2.2
def ZsH (rec_:((List ZnB)×Int×Int)→Option (Out Unit Bool)) (s:((List ZnB)×Int×Int)):Option (Out Unit Bool):=Zrs (fun t5 t6 t7=>rec_ (t5,t6,t7)) s.1 s.2.1 s.2.2
theorem ZuG:∀n s,ZtA (n+1) s=ZsH (ZtA n) s:=fun _ _=>rfl
def ZrF (l:(List ZnB)):Option Bool:=
 (Zr5 big l (l.length:Int) (0:Int)).bind fun
  | .ret q_=>some q_
  | .brk ()=>Zt2
def Zsu (x_:Int):Option Bool:=
 some (x_ != x_)
def ZrH (x_:Int) (y:Int):Option Int:=
 (Zsu x_).bind fun xNaN=>
 (Zsu y).bind fun yNaN=>
 bif xNaN then (
  bif yNaN then (
   some (0:Int)
  )else (
   some (-1:Int)
  )
 )else (
  bif yNaN then (
   some (1:Int)
  )else (
   bif (decide (x_ < y))then (
    some (-1:Int)
   )else (
    bif (decide (x_ > y))then (
     some (1:Int)
    )else (
     some (0:Int)
    )
   )
  )
 )
def Zr6 (x_:Int):Option Bool:=
 some (x_ != x_)
def Zrt (x_:Int) (y:Int):Option Int:=
 (Zr6 x_).bind fun xNaN=>
 (Zr6 y).bind fun yNaN=>
 bif xNaN then (
  bif yNaN then (
   some (0:Int)
  )else (
   some (-1:Int)
  )
 )else (
  bif yNaN then (
   some (1:Int)
  )else (
   bif (decide (x_ < y))then (
    some (-1:Int)
   )else (
    bif (decide (x_ > y))then (
     some (1:Int)
    )else (
     some (0:Int)
    )
   )
  )
 )
def ZqH:Option Int:=
 some (0:Int)
def Zpa (rec_:(List Int)→(List Int)→Int→Option (Out Unit Int)) (w_:(List Int)) (v_:(List Int)) (i:Int):Option (Out Unit Int):=
 bif (decide (i≥0))then (
  (idx w_ i).bind fun w__e=>
  (idx v_ i).bind fun v__e=>
  (Zrt w__e v__e).bind fun c=>
  bif (c != 0)then (
   some (.ret c)
  )else (
   chk (inK .i64 (i - 1)) <|
   rec_ w_ v_ (i - 1)
  )
 )else (
  some (.brk ())
 )
def Zpw:Nat→(List Int)→(List Int)→Int→Option (Out Unit Int)
 |0,_,_,_=>none
 |n_+1,w_,v_,i=>Zpa (Zpw n_) w_ v_ i
def ZrV (n:Nat) (s:((List Int)×(List Int)×Int)):Option (Out Unit Int):=Zpw n s.1 s.2.1 s.2.2
def Zqj (rec_:((List Int)×(List Int)×Int)→Option (Out Unit Int)) (s:((List Int)×(List Int)×Int)):Option (Out Unit Int):=Zpa (fun w_ v_ i=>rec_ (w_,v_,i)) s.1 s.2.1 s.2.2
theorem Ztm:∀n s,ZrV (n+1) s=Zqj (ZrV n) s:=fun _ _=>rfl
def Zn0 (w_:(List Int)) (v_:(List Int)):Option Int:=
 (ZrH (w_.length:Int) (v_.length:Int)).bind fun c=>
 bif (c != 0)then (
  some c
 )else (
  chk (inK .i64 ((w_.length:Int) - 1)) <|
  (Zpw big w_ v_ ((w_.length:Int) - 1)).bind fun
   | .ret q_=>some q_
   | .brk ()=>ZqH
 )
def ZnH (s:(List Int)) (t4:Bool):Option (List Int):=
 bif t4 then (
  some ([]:(List Int))
 )else (
  chk (ZiZ (([]:(List Int)).length+s.length) 4) <|
  some (([]:(List Int))++s)
 )
def ZnW (s:(List Int)):Option (List Int):=
 bif (List.isEmpty s)then agree (
  ZnH s true
 ) (
  ZnH s false
 )else (
  ZnH s false
 )
def Zql (hi:Int) (lo:Int) (y:Int) (t15:Bool):Option (Int×Int):=
 bif t15 then (
  none
 )else (
  chk (decide (0≤(32:Int))) <|
  chk (decide ((IntKind.wrap .u64 y)≠0)) <|
  chk (decide ((IntKind.wrap .u64 y)≠0)) <|
  some ((IntKind.wrap .u32 (IntKind.wrap .u64 (Int.tdiv (orK .u64 (shlK .u64 (IntKind.wrap .u64 hi) 32) (IntKind.wrap .u64 lo)) (IntKind.wrap .u64 y)))),(IntKind.wrap .u32 (Int.tmod (orK .u64 (shlK .u64 (IntKind.wrap .u64 hi) 32) (IntKind.wrap .u64 lo)) (IntKind.wrap .u64 y))))
 )
def ZrB (hi:Int) (lo:Int) (y:Int):Option (Int×Int):=
 bif (y != 0)then (
  Zql hi lo y (decide (y≤hi))
 )else (
  Zql hi lo y false
 )
def Zrj (rest:Int) (out:(List Int)):Option ((List Int)×Int):=
 (ZnN out).bind fun q=>
 some (q,rest)
def Zpt (rec_:(List Int)→Int→Int→Int→(List Int)→Option (Int×(List Int))) (w_:(List Int)) (d:Int) (rest:Int) (i:Int) (out:(List Int)):Option (Int×(List Int)):=
 bif (decide (i≥0))then (
  (idx w_ i).bind fun w__e=>
  (ZrB rest w__e d).bind fun(q,rest_1)=>
  chk (inR i (out.length:Int)) <|
  chk (inK .i64 (i - 1)) <|
  rec_ w_ d rest_1 (i - 1) (out.set ((i).toNat) q)
 )else (
  some (rest,out)
 )
def Zp0:Nat→(List Int)→Int→Int→Int→(List Int)→Option (Int×(List Int))
 |0,_,_,_,_,_=>none
 |n_+1,w_,d,rest,i,out=>Zpt (Zp0 n_) w_ d rest i out
def Zsj (n:Nat) (s:((List Int)×Int×Int×Int×(List Int))):Option (Int×(List Int)):=Zp0 n s.1 s.2.1 s.2.2.1 s.2.2.2.1 s.2.2.2.2
def ZqE (rec_:((List Int)×Int×Int×Int×(List Int))→Option (Int×(List Int))) (s:((List Int)×Int×Int×Int×(List Int))):Option (Int×(List Int)):=Zpt (fun w_ d rest i out=>rec_ (w_,d,rest,i,out)) s.1 s.2.1 s.2.2.1 s.2.2.2.1 s.2.2.2.2
theorem ZtM:∀n s,Zsj (n+1) s=ZqE (Zsj n) s:=fun _ _=>rfl
def ZpL (w_:(List Int)) (d:Int):Option ((List Int)×Int):=
 chk (mkOk (w_.length:Int) (w_.length:Int) 4) <|
 chk (inK .i64 ((w_.length:Int) - 1)) <|
 (Zp0 big w_ d (0:Int) ((w_.length:Int) - 1) (List.replicate ((w_.length:Int)).toNat (0:Int))).bind fun(x0,x1)=>Zrj x0 x1
def Zpz (x_:Int) (n:Int):Option Int:=
 (idx ([0,1,2,2,3,3,3,3,4,4,4,4,4,4,4,4,5,5,5,5,5,5,5,5,5,5,5,5,5,5,5,5,6,6,6,6,6,6,6,6,6,6,6,6,6,6,6,6,6,6,6,6,6,6,6,6,6,6,6,6,6,6,6,6,7,7,7,7,7,7,7,7,7,7,7,7,7,7,7,7,7,7,7,7,7,7,7,7,7,7,7,7,7,7,7,7,7,7,7,7,7,7,7,7,7,7,7,7,7,7,7,7,7,7,7,7,7,7,7,7,7,7,7,7,7,7,7,7,8,8,8,8,8,8,8,8,8,8,8,8,8,8,8,8,8,8,8,8,8,8,8,8,8,8,8,8,8,8,8,8,8,8,8,8,8,8,8,8,8,8,8,8,8,8,8,8,8,8,8,8,8,8,8,8,8,8,8,8,8,8,8,8,8,8,8,8,8,8,8,8,8,8,8,8,8,8,8,8,8,8,8,8,8,8,8,8,8,8,8,8,8,8,8,8,8,8,8,8,8,8,8,8,8,8,8,8,8,8,8,8,8,8,8,8,8,8,8,8,8,8,8,8,8,8,8,8]:Str) (IntKind.wrap .u8 x_)).bind fun c=>
 chk (inK .i64 (n+(IntKind.wrap .i64 ((c.toNat:Nat):Int)))) <|
 some (n+(IntKind.wrap .i64 ((c.toNat:Nat):Int)))
def Zro (x_:Int) (n:Int):Option Int:=
 bif (decide (x_≥256))then (
  chk (decide (0≤(8:Int))) <|
  chk (inK .i64 (n+8)) <|
  Zpz (shrK .u32 x_ 8) (n+8)
 )else (
  Zpz x_ n
 )
def ZrA (x_:Int):Option Int:=
 bif (decide (x_≥65536))then (
  chk (decide (0≤(16:Int))) <|
  Zro (shrK .u32 x_ 16) (16:Int)
 )else (
  Zro x_ (0:Int)
 )
def ZoS (x_:Int):Option Int:=
 (ZrA x_).bind fun q=>
 chk (inK .i64 (32 - q)) <|
 some (32 - q)
def ZqF (out:(List Int)):Option (List Int):=
 some out
def Zo9 (rec_:Int→(List Int)→Int→Int→(List Int)→Option (List Int)) (n:Int) (t13:(List Int)) (t14:Int) (i:Int) (out:(List Int)):Option (List Int):=
 bif (decide (i < t14))then (
  (idx t13 i).bind fun d=>
  chk (decide (0≤n)) <|
  chk (inR i (out.length:Int)) <|
  (out[(i).toNat]?).bind fun out_e=>
  chk (inR i (out.length:Int)) <|
  chk (inK .i64 (i+1)) <|
  chk (decide (0≤(32:Int))) <|
  chk (inR (i+1) ((out.set ((i).toNat) (orK .u32 out_e (IntKind.wrap .u32 (shlK .u64 (IntKind.wrap .u64 d) n)))).length:Int)) <|
  chk (inK .i64 (i+1)) <|
  rec_ n t13 t14 (i+1) ((out.set ((i).toNat) (orK .u32 out_e (IntKind.wrap .u32 (shlK .u64 (IntKind.wrap .u64 d) n)))).set (((i+1)).toNat) (IntKind.wrap .u32 (shrK .u64 (shlK .u64 (IntKind.wrap .u64 d) n) 32)))
 )else (
  some out
 )
def Zpu:Nat→Int→(List Int)→Int→Int→(List Int)→Option (List Int)
 |0,_,_,_,_,_=>none
 |n_+1,n,t13,t14,i,out=>Zo9 (Zpu n_) n t13 t14 i out
def ZrU (n:Nat) (s:(Int×(List Int)×Int×Int×(List Int))):Option (List Int):=Zpu n s.1 s.2.1 s.2.2.1 s.2.2.2.1 s.2.2.2.2
def Zqi (rec_:(Int×(List Int)×Int×Int×(List Int))→Option (List Int)) (s:(Int×(List Int)×Int×Int×(List Int))):Option (List Int):=Zo9 (fun n t13 t14 i out=>rec_ (n,t13,t14,i,out)) s.1 s.2.1 s.2.2.1 s.2.2.2.1 s.2.2.2.2
theorem Ztl:∀n s,ZrU (n+1) s=Zqi (ZrU n) s:=fun _ _=>rfl
def Zoj (w_:(List Int)) (n:Int):Option (List Int):=
 chk (inK .i64 ((w_.length:Int)+1)) <|
 chk (mkOk ((w_.length:Int)+1) ((w_.length:Int)+1) 4) <|
 (Zpu big n w_ (w_.length:Int) (0:Int) (List.replicate (((w_.length:Int)+1)).toNat (0:Int))).bind fun x0=>ZqF x0
def ZpN (x_:Int) (y:Int) (borrow:Int):Option (Int×Int):=
 chk (decide (0≤(31:Int))) <|
 some ((IntKind.wrap .u32 ((IntKind.wrap .u32 (x_ - y)) - borrow)),(shrK .u32 (orK .u32 (andK .u32 (xorK .u32 (if IntKind.signed .u32 then -1 else IntKind.max .u32) x_) y) (andK .u32 (xorK .u32 (if IntKind.signed .u32 then -1 else IntKind.max .u32) (xorK .u32 x_ y)) (IntKind.wrap .u32 ((IntKind.wrap .u32 (x_ - y)) - borrow)))) 31))
def Zqt (x_:Int) (y:Int) (carry:Int):Option (Int×Int):=
 chk (decide (0≤(32:Int))) <|
 some ((IntKind.wrap .u32 (IntKind.wrap .u64 ((IntKind.wrap .u64 ((IntKind.wrap .u64 x_)+(IntKind.wrap .u64 y)))+(IntKind.wrap .u64 carry)))),(IntKind.wrap .u32 (shrK .u64 (IntKind.wrap .u64 ((IntKind.wrap .u64 ((IntKind.wrap .u64 x_)+(IntKind.wrap .u64 y)))+(IntKind.wrap .u64 carry))) 32)))
def ZrP (u_off:Nat) (u_len:Nat) (n:Int) (guess:Int) (add:Int) (u:(List Int)):Option (Int×(List Int)):=
 chk (inR n (u_len:Int)) <|
 (u[(u_off+(n).toNat)]?).bind fun u_e=>
 chk (inR n (u_len:Int)) <|
 some ((IntKind.wrap .u32 (IntKind.wrap .u64 (guess - 1))),(u.set (u_off+(n).toNat) (IntKind.wrap .u32 (u_e+add))))
def Zq2 (rec_:Nat→Nat→Int→Int→Int→(List Int)→Int→Int→(List Int)→Option (Nat×Nat×Int×Int×Int×(List Int))) (u_off:Nat) (u_len:Nat) (n:Int) (guess:Int) (add:Int) (t130:(List Int)) (t131:Int) (i:Int) (u:(List Int)):Option (Nat×Nat×Int×Int×Int×(List Int)):=
 bif (decide (i < t131))then (
  (idx t130 i).bind fun x_=>
  chk (inR i (u_len:Int)) <|
  (u[(u_off+(i).toNat)]?).bind fun u_e=>
  (Zqt u_e x_ add).bind fun(q,add_1)=>
  chk (inR i (u_len:Int)) <|
  chk (inK .i64 (i+1)) <|
  rec_ u_off u_len n guess add_1 t130 t131 (i+1) (u.set (u_off+(i).toNat) q)
 )else (
  some (u_off,u_len,n,guess,add,u)
 )
def ZqI:Nat→Nat→Nat→Int→Int→Int→(List Int)→Int→Int→(List Int)→Option (Nat×Nat×Int×Int×Int×(List Int))
 |0,_,_,_,_,_,_,_,_,_=>none
 |n_+1,u_off,u_len,n,guess,add,t130,t131,i,u=>Zq2 (ZqI n_) u_off u_len n guess add t130 t131 i u
def Ztn (n:Nat) (s:(Nat×Nat×Int×Int×Int×(List Int)×Int×Int×(List Int))):Option (Nat×Nat×Int×Int×Int×(List Int)):=ZqI n s.1 s.2.1 s.2.2.1 s.2.2.2.1 s.2.2.2.2.1 s.2.2.2.2.2.1 s.2.2.2.2.2.2.1 s.2.2.2.2.2.2.2.1 s.2.2.2.2.2.2.2.2
def Zsn (rec_:(Nat×Nat×Int×Int×Int×(List Int)×Int×Int×(List Int))→Option (Nat×Nat×Int×Int×Int×(List Int))) (s:(Nat×Nat×Int×Int×Int×(List Int)×Int×Int×(List Int))):Option (Nat×Nat×Int×Int×Int×(List Int)):=Zq2 (fun u_off u_len n guess add t130 t131 i u=>rec_ (u_off,u_len,n,guess,add,t130,t131,i,u)) s.1 s.2.1 s.2.2.1 s.2.2.2.1 s.2.2.2.2.1 s.2.2.2.2.2.1 s.2.2.2.2.2.2.1 s.2.2.2.2.2.2.2.1 s.2.2.2.2.2.2.2.2
theorem Zuw:∀n s,Ztn (n+1) s=Zsn (Ztn n) s:=fun _ _=>rfl
def ZsT (u_off:Nat) (u_len:Nat) (d:(List Int)) (n:Int) (guess:Int) (borrow:Int) (carry:Int) (u:(List Int)):Option (Int×(List Int)):=
 chk (inR n (u_len:Int)) <|
 (u[(u_off+(n).toNat)]?).bind fun u_e=>
 (ZpN u_e (IntKind.wrap .u32 carry) borrow).bind fun(q,borrow_1)=>
 chk (inR n (u_len:Int)) <|
 bif (borrow_1 == 0)then (
  some ((IntKind.wrap .u32 guess),(u.set (u_off+(n).toNat) q))
 )else (
  (ZqI big u_off u_len n guess (0:Int) d (d.length:Int) (0:Int) (u.set (u_off+(n).toNat) q)).bind fun(x0,x1,x2,x3,x4,x5)=>ZrP x0 x1 x2 x3 x4 x5
 )
def Zq3 (rec_:Nat→Nat→(List Int)→Int→Int→Int→Int→(List Int)→Int→Int→(List Int)→Option (Nat×Nat×(List Int)×Int×Int×Int×Int×(List Int))) (u_off:Nat) (u_len:Nat) (d:(List Int)) (n:Int) (guess:Int) (borrow:Int) (carry:Int) (t82:(List Int)) (t83:Int) (i:Int) (u:(List Int)):Option (Nat×Nat×(List Int)×Int×Int×Int×Int×(List Int)):=
 bif (decide (i < t83))then (
  (idx t82 i).bind fun x_=>
  chk (inR i (u_len:Int)) <|
  (u[(u_off+(i).toNat)]?).bind fun u_e=>
  (ZpN u_e (IntKind.wrap .u32 (IntKind.wrap .u64 (carry+(IntKind.wrap .u64 (guess*(IntKind.wrap .u64 x_)))))) borrow).bind fun(q,borrow_1)=>
  chk (inR i (u_len:Int)) <|
  chk (decide (0≤(32:Int))) <|
  chk (inK .i64 (i+1)) <|
  rec_ u_off u_len d n guess borrow_1 (shrK .u64 (IntKind.wrap .u64 (carry+(IntKind.wrap .u64 (guess*(IntKind.wrap .u64 x_))))) 32) t82 t83 (i+1) (u.set (u_off+(i).toNat) q)
 )else (
  some (u_off,u_len,d,n,guess,borrow,carry,u)
 )
def ZrO:Nat→Nat→Nat→(List Int)→Int→Int→Int→Int→(List Int)→Int→Int→(List Int)→Option (Nat×Nat×(List Int)×Int×Int×Int×Int×(List Int))
 |0,_,_,_,_,_,_,_,_,_,_,_=>none
 |n_+1,u_off,u_len,d,n,guess,borrow,carry,t82,t83,i,u=>Zq3 (ZrO n_) u_off u_len d n guess borrow carry t82 t83 i u
def Zto (n:Nat) (s:(Nat×Nat×(List Int)×Int×Int×Int×Int×(List Int)×Int×Int×(List Int))):Option (Nat×Nat×(List Int)×Int×Int×Int×Int×(List Int)):=ZrO n s.1 s.2.1 s.2.2.1 s.2.2.2.1 s.2.2.2.2.1 s.2.2.2.2.2.1 s.2.2.2.2.2.2.1 s.2.2.2.2.2.2.2.1 s.2.2.2.2.2.2.2.2.1 s.2.2.2.2.2.2.2.2.2.1 s.2.2.2.2.2.2.2.2.2.2
def Zso (rec_:(Nat×Nat×(List Int)×Int×Int×Int×Int×(List Int)×Int×Int×(List Int))→Option (Nat×Nat×(List Int)×Int×Int×Int×Int×(List Int))) (s:(Nat×Nat×(List Int)×Int×Int×Int×Int×(List Int)×Int×Int×(List Int))):Option (Nat×Nat×(List Int)×Int×Int×Int×Int×(List Int)):=Zq3 (fun u_off u_len d n guess borrow carry t82 t83 i u=>rec_ (u_off,u_len,d,n,guess,borrow,carry,t82,t83,i,u)) s.1 s.2.1 s.2.2.1 s.2.2.2.1 s.2.2.2.2.1 s.2.2.2.2.2.1 s.2.2.2.2.2.2.1 s.2.2.2.2.2.2.2.1 s.2.2.2.2.2.2.2.2.1 s.2.2.2.2.2.2.2.2.2.1 s.2.2.2.2.2.2.2.2.2.2
theorem Zux:∀n s,Zto (n+1) s=Zso (Zto n) s:=fun _ _=>rfl
def ZrQ (u_off:Nat) (u_len:Nat) (d:(List Int)) (n:Int) (guess:Int) (u:(List Int)):Option (Int×(List Int)):=
 (ZrO big u_off u_len d n guess (0:Int) (0:Int) d (d.length:Int) (0:Int) u).bind fun(x0,x1,x2,x3,x4,x5,x6,x7)=>ZsT x0 x1 x2 x3 x4 x5 x6 x7
def ZqJ (rec_:Nat→Nat→(List Int)→Int→Int→Int→(List Int)→Option (Nat×Nat×(List Int)×Int×Int×(List Int))) (u_off:Nat) (u_len:Nat) (d:(List Int)) (n:Int) (guess:Int) (rest:Int) (t71:Bool) (u:(List Int)):Option (Nat×Nat×(List Int)×Int×Int×(List Int)):=
 bif t71 then (
  chk (inK .i64 (n - 1)) <|
  (idx d (n - 1)).bind fun d_e=>
  rec_ u_off u_len d n (IntKind.wrap .u64 (guess - 1)) (IntKind.wrap .u64 (rest+(IntKind.wrap .u64 d_e))) u
 )else (
  some (u_off,u_len,d,n,guess,u)
 )
def Zsp (rec_:Nat→Nat→(List Int)→Int→Int→Int→(List Int)→Option (Nat×Nat×(List Int)×Int×Int×(List Int))) (u_off:Nat) (u_len:Nat) (d:(List Int)) (n:Int) (guess:Int) (rest:Int) (u:(List Int)):Option (Nat×Nat×(List Int)×Int×Int×(List Int)):=
 bif (decide (rest < 4294967296))then (
  chk (inK .i64 (n - 2)) <|
  (idx d (n - 2)).bind fun d_e=>
  chk (decide (0≤(32:Int))) <|
  chk (inK .i64 (n - 2)) <|
  chk (inR (n - 2) (u_len:Int)) <|
  (u[(u_off+((n - 2)).toNat)]?).bind fun u_e=>
  ZqJ rec_ u_off u_len d n guess rest (decide ((IntKind.wrap .u64 (guess*(IntKind.wrap .u64 d_e))) > (orK .u64 (shlK .u64 rest 32) (IntKind.wrap .u64 u_e)))) u
 )else (
  ZqJ rec_ u_off u_len d n guess rest false u
 )
def ZpP:Nat→Nat→Nat→(List Int)→Int→Int→Int→(List Int)→Option (Nat×Nat×(List Int)×Int×Int×(List Int))
 |0,_,_,_,_,_,_,_=>none
 |n_+1,u_off,u_len,d,n,guess,rest,u=>Zsp (ZpP n_) u_off u_len d n guess rest u
def Ztp (n:Nat) (s:(Nat×Nat×(List Int)×Int×Int×Int×(List Int))):Option (Nat×Nat×(List Int)×Int×Int×(List Int)):=ZpP n s.1 s.2.1 s.2.2.1 s.2.2.2.1 s.2.2.2.2.1 s.2.2.2.2.2.1 s.2.2.2.2.2.2
def Ztq (rec_:(Nat×Nat×(List Int)×Int×Int×Int×(List Int))→Option (Nat×Nat×(List Int)×Int×Int×(List Int))) (s:(Nat×Nat×(List Int)×Int×Int×Int×(List Int))):Option (Nat×Nat×(List Int)×Int×Int×(List Int)):=Zsp (fun u_off u_len d n guess rest u=>rec_ (u_off,u_len,d,n,guess,rest,u)) s.1 s.2.1 s.2.2.1 s.2.2.2.1 s.2.2.2.2.1 s.2.2.2.2.2.1 s.2.2.2.2.2.2
theorem Zuy:∀n s,Ztp (n+1) s=Ztq (Ztp n) s:=fun _ _=>rfl
def ZsR (u:(List Int)) (u_off:Nat) (u_len:Nat) (d:(List Int)):Option (Int×(List Int)):=
 chk (inR (d.length:Int) (u_len:Int)) <|
 (u[(u_off+((d.length:Int)).toNat)]?).bind fun u_e=>
 chk (decide (0≤(32:Int))) <|
 chk (inK .i64 ((d.length:Int) - 1)) <|
 chk (inR ((d.length:Int) - 1) (u_len:Int)) <|
 (u[(u_off+(((d.length:Int) - 1)).toNat)]?).bind fun u_e_1=>
 chk (inK .i64 ((d.length:Int) - 1)) <|
 (idx d ((d.length:Int) - 1)).bind fun d_e=>
 chk (decide ((IntKind.wrap .u64 d_e)≠0)) <|
 chk (inK .i64 ((d.length:Int) - 1)) <|
 (idx d ((d.length:Int) - 1)).bind fun d_e_1=>
 (ZpP big u_off u_len d (d.length:Int) (if (4294967295:Int) < (IntKind.wrap .u64 (Int.tdiv (orK .u64 (shlK .u64 (IntKind.wrap .u64 u_e) 32) (IntKind.wrap .u64 u_e_1)) (IntKind.wrap .u64 d_e)))then (4294967295:Int)else (IntKind.wrap .u64 (Int.tdiv (orK .u64 (shlK .u64 (IntKind.wrap .u64 u_e) 32) (IntKind.wrap .u64 u_e_1)) (IntKind.wrap .u64 d_e)))) (IntKind.wrap .u64 ((orK .u64 (shlK .u64 (IntKind.wrap .u64 u_e) 32) (IntKind.wrap .u64 u_e_1)) - (IntKind.wrap .u64 ((if (4294967295:Int) < (IntKind.wrap .u64 (Int.tdiv (orK .u64 (shlK .u64 (IntKind.wrap .u64 u_e) 32) (IntKind.wrap .u64 u_e_1)) (IntKind.wrap .u64 d_e)))then (4294967295:Int)else (IntKind.wrap .u64 (Int.tdiv (orK .u64 (shlK .u64 (IntKind.wrap .u64 u_e) 32) (IntKind.wrap .u64 u_e_1)) (IntKind.wrap .u64 d_e))))*(IntKind.wrap .u64 d_e_1))))) u).bind fun(x0,x1,x2,x3,x4,x5)=>ZrQ x0 x1 x2 x3 x4 x5
def Zr4 (u:(List Int)) (u_off:Nat) (u_len:Nat) (d:(List Int)):Option (Int×(List Int)):=
 (ZsR u u_off u_len d).bind fun r=>chk (decide (r.2.length=u.length)&&true) (some r)
def ZrN (w_off:Nat) (w_len:Nat) (w_:(List Int)):Option (Nat×Nat×(List Int)):=
 some (w_off,w_len,w_)
def Zqs (rec_:Nat→Nat→(List Int)→Option (Nat×Nat×(List Int))) (w_off:Nat) (w_len:Nat) (t14:Bool) (w_:(List Int)):Option (Nat×Nat×(List Int)):=
 bif t14 then (
  chk (inK .i64 (((w_len:Nat):Int) - 1)) <|
  chk (Zb9 0 (((w_len:Nat):Int) - 1) (w_len:Int)) <|
  rec_ (w_off+0) (((((w_len:Nat):Int) - 1)).toNat - 0) w_
 )else (
  some (w_off,w_len,w_)
 )
def Zrl (rec_:Nat→Nat→(List Int)→Option (Nat×Nat×(List Int))) (w_off:Nat) (w_len:Nat) (w_:(List Int)):Option (Nat×Nat×(List Int)):=
 bif (decide (((w_len:Nat):Int) > 0))then (
  chk (inK .i64 (((w_len:Nat):Int) - 1)) <|
  chk (inR (((w_len:Nat):Int) - 1) (w_len:Int)) <|
  (w_[(w_off+((((w_len:Nat):Int) - 1)).toNat)]?).bind fun w__e=>
  Zqs rec_ w_off w_len (w__e == 0) w_
 )else (
  Zqs rec_ w_off w_len false w_
 )
def Zpx:Nat→Nat→Nat→(List Int)→Option (Nat×Nat×(List Int))
 |0,_,_,_=>none
 |n_+1,w_off,w_len,w_=>Zrl (Zpx n_) w_off w_len w_
def ZsL (n:Nat) (s:(Nat×Nat×(List Int))):Option (Nat×Nat×(List Int)):=Zpx n s.1 s.2.1 s.2.2
def ZsM (rec_:(Nat×Nat×(List Int))→Option (Nat×Nat×(List Int))) (s:(Nat×Nat×(List Int))):Option (Nat×Nat×(List Int)):=Zrl (fun w_off w_len w_=>rec_ (w_off,w_len,w_)) s.1 s.2.1 s.2.2
theorem Zt1:∀n s,ZsL (n+1) s=ZsM (ZsL n) s:=fun _ _=>rfl
def Zrp (w_:(List Int)) (w_off:Nat) (w_len:Nat):Option (Nat×Nat×(List Int)):=
 (Zpx big w_off w_len w_).bind fun(x0,x1,x2)=>ZrN x0 x1 x2
def ZqN (w_:(List Int)) (w_off:Nat) (w_len:Nat):Option (Nat×Nat×(List Int)):=
 (Zrp w_ w_off w_len).bind fun r=>chk (decide (r.2.2.length=w_.length)&&true) (some r)
def Zpd (w_:(List Int)) (i:Int):Option Int:=
 bif (decide (i < (w_.length:Int)))then (
  (idx w_ i).bind fun w__e=>
  some w__e
 )else (
  some (0:Int)
 )
def Zsl (w_:(List Int)) (w_off:Nat) (w_len:Nat) (i:Int):Option (Int×(List Int)):=
 bif (decide (i < ((w_len:Nat):Int)))then (
  chk (inR i (w_len:Int)) <|
  (w_[(w_off+(i).toNat)]?).bind fun w__e=>
  some (w__e,w_)
 )else (
  some (0,w_)
 )
def Zqq (w_:(List Int)) (w_off:Nat) (w_len:Nat) (i:Int):Option (Int×(List Int)):=
 (Zsl w_ w_off w_len i).bind fun r=>chk (decide (r.2.length=w_.length)&&true) (some r)
def ZrD (rest_off:Nat) (rest_len:Nat) (q:(List Int)) (rest:(List Int)):Option ((List Int)×(List Int)):=
 (ZnN q).bind fun q_1=>
 (ZnN ((rest.drop rest_off).take rest_len)).bind fun q_2=>
 some (q_1,q_2)
def ZpF (rec_:Int→Nat→Nat→Int→Int→(List Int)→(List Int)→Option (Nat×Nat×(List Int)×(List Int))) (shift:Int) (rest_off:Nat) (rest_len:Nat) (t86:Int) (i:Int) (q:(List Int)) (rest:(List Int)):Option (Nat×Nat×(List Int)×(List Int)):=
 bif (decide (i < t86))then (
  chk (inK .i64 (i+1)) <|
  (Zqq rest rest_off rest_len (i+1)).bind fun(q_1,t90)=>
  chk (decide (0≤(32:Int))) <|
  chk (inR i (rest_len:Int)) <|
  (t90[(rest_off+(i).toNat)]?).bind fun t90_e=>
  chk (decide (0≤shift)) <|
  chk (inR i (rest_len:Int)) <|
  chk (inK .i64 (i+1)) <|
  rec_ shift rest_off rest_len t86 (i+1) q (t90.set (rest_off+(i).toNat) (IntKind.wrap .u32 (shrK .u64 (orK .u64 (shlK .u64 (IntKind.wrap .u64 q_1) 32) (IntKind.wrap .u64 t90_e)) shift)))
 )else (
  some (rest_off,rest_len,q,rest)
 )
def Zpg:Nat→Int→Nat→Nat→Int→Int→(List Int)→(List Int)→Option (Nat×Nat×(List Int)×(List Int))
 |0,_,_,_,_,_,_,_=>none
 |n_+1,shift,rest_off,rest_len,t86,i,q,rest=>ZpF (Zpg n_) shift rest_off rest_len t86 i q rest
def ZsE (n:Nat) (s:(Int×Nat×Nat×Int×Int×(List Int)×(List Int))):Option (Nat×Nat×(List Int)×(List Int)):=Zpg n s.1 s.2.1 s.2.2.1 s.2.2.2.1 s.2.2.2.2.1 s.2.2.2.2.2.1 s.2.2.2.2.2.2
def ZqU (rec_:(Int×Nat×Nat×Int×Int×(List Int)×(List Int))→Option (Nat×Nat×(List Int)×(List Int))) (s:(Int×Nat×Nat×Int×Int×(List Int)×(List Int))):Option (Nat×Nat×(List Int)×(List Int)):=ZpF (fun shift rest_off rest_len t86 i q rest=>rec_ (shift,rest_off,rest_len,t86,i,q,rest)) s.1 s.2.1 s.2.2.1 s.2.2.2.1 s.2.2.2.2.1 s.2.2.2.2.2.1 s.2.2.2.2.2.2
theorem ZtU:∀n s,ZsE (n+1) s=ZqU (ZsE n) s:=fun _ _=>rfl
def ZrE (n:Int) (shift:Int) (u:(List Int)) (q:(List Int)):Option ((List Int)×(List Int)):=
 chk (Zb9 0 n (u.length:Int)) <|
 (ZqN u 0 ((n).toNat - 0)).bind fun(rest_off,rest_len,t83)=>
 (Zpg big shift rest_off rest_len ((rest_len:Nat):Int) (0:Int) q t83).bind fun(x0,x1,x2,x3)=>ZrD x0 x1 x2 x3
def ZpG (rec_:Int→Int→(List Int)→Int→(List Int)→(List Int)→Option (Int×Int×(List Int)×(List Int))) (n:Int) (shift:Int) (d:(List Int)) (j:Int) (u:(List Int)) (q:(List Int)):Option (Int×Int×(List Int)×(List Int)):=
 bif (decide (j≥0))then (
  chk (inK .i64 (j+n)) <|
  chk (inK .i64 ((j+n)+1)) <|
  chk (Zb9 j ((j+n)+1) (u.length:Int)) <|
  (Zr4 u ((j).toNat) ((((j+n)+1)).toNat - (j).toNat) d).bind fun(q_1,t77)=>
  chk (inR j (q.length:Int)) <|
  chk (inK .i64 (j - 1)) <|
  rec_ n shift d (j - 1) t77 (q.set ((j).toNat) q_1)
 )else (
  some (n,shift,u,q)
 )
def Zph:Nat→Int→Int→(List Int)→Int→(List Int)→(List Int)→Option (Int×Int×(List Int)×(List Int))
 |0,_,_,_,_,_,_=>none
 |n_+1,n,shift,d,j,u,q=>ZpG (Zph n_) n shift d j u q
def ZsF (n:Nat) (s:(Int×Int×(List Int)×Int×(List Int)×(List Int))):Option (Int×Int×(List Int)×(List Int)):=Zph n s.1 s.2.1 s.2.2.1 s.2.2.2.1 s.2.2.2.2.1 s.2.2.2.2.2
def ZqV (rec_:(Int×Int×(List Int)×Int×(List Int)×(List Int))→Option (Int×Int×(List Int)×(List Int))) (s:(Int×Int×(List Int)×Int×(List Int)×(List Int))):Option (Int×Int×(List Int)×(List Int)):=ZpG (fun n shift d j u q=>rec_ (n,shift,d,j,u,q)) s.1 s.2.1 s.2.2.1 s.2.2.2.1 s.2.2.2.2.1 s.2.2.2.2.2
theorem ZtV:∀n s,ZsF (n+1) s=ZqV (ZsF n) s:=fun _ _=>rfl
def ZoL (w_:(List Int)) (v_:(List Int)):Option ((List Int)×(List Int)):=
 (Zn0 w_ v_).bind fun q=>
 bif (decide (q < 0))then (
  (ZnW w_).bind fun q_1=>
  some (([]:(List Int)),q_1)
 )else (
  bif ((v_.length:Int) == 1)then (
   (idx v_ 0).bind fun v__e=>
   (ZpL w_ v__e).bind fun(q_2,r_)=>
   (ZnN ([r_]:(List Int))).bind fun q_3=>
   some (q_2,q_3)
  )else (
   chk (inK .i64 ((v_.length:Int) - 1)) <|
   (idx v_ ((v_.length:Int) - 1)).bind fun v__e_1=>
   (ZoS v__e_1).bind fun shift=>
   (Zoj w_ shift).bind fun u=>
   (Zoj v_ shift).bind fun q_4=>
   chk (Zb9 0 (v_.length:Int) (q_4.length:Int)) <|
   chk (inK .i64 ((w_.length:Int) - (v_.length:Int))) <|
   chk (inK .i64 (((w_.length:Int) - (v_.length:Int))+1)) <|
   chk (mkOk (((w_.length:Int) - (v_.length:Int))+1) (((w_.length:Int) - (v_.length:Int))+1) 4) <|
   chk (inK .i64 (((List.replicate ((((w_.length:Int) - (v_.length:Int))+1)).toNat (0:Int)).length:Int) - 1)) <|
   (Zph big (v_.length:Int) shift ((q_4.drop 0).take (((v_.length:Int)).toNat - 0)) (((List.replicate ((((w_.length:Int) - (v_.length:Int))+1)).toNat (0:Int)).length:Int) - 1) u (List.replicate ((((w_.length:Int) - (v_.length:Int))+1)).toNat (0:Int))).bind fun(x0,x1,x2,x3)=>ZrE x0 x1 x2 x3
  )
 )
def ZqW (w_:(List Int)):Option (List Int):=
 some w_
def Zow (rec_:(List Int)→(List Int)→Option (List Int)) (w_:(List Int)) (v_:(List Int)):Option (List Int):=
 bif (decide ((v_.length:Int) > 0))then (
  (ZoL w_ v_).bind fun(q,r_)=>
  rec_ v_ r_
 )else (
  some w_
 )
def Zn6:Nat→(List Int)→(List Int)→Option (List Int)
 |0,_,_=>none
 |n_+1,w_,v_=>Zow (Zn6 n_) w_ v_
def ZoP (w_:(List Int)) (v_:(List Int)):Option (List Int):=
 (Zn6 big w_ v_).bind fun x0=>ZqW x0
def Zox (num:ZnB) (den:ZnB):Option ZnA:=
 (ZoP num.Words den.Words).bind fun g=>
 (ZoL num.Words g).bind fun(x_,q)=>
 (ZoL den.Words g).bind fun(y,q_1)=>
 (ZnQ (!(num.Neg == den.Neg)) x_).bind fun q_2=>
 (ZnQ false y).bind fun q_3=>
 some (ZnA.mk q_2 q_3)
def Zsq (num:ZnB) (den:ZnB):Option (ZnA×Int):=
 (ZrF ([num,den]:(List ZnB))).bind fun q=>
 bif (!q)then (
  some ((ZnA.mk (ZnB.mk false ([]:(List Int))) (ZnB.mk false ([]:(List Int)))),1)
 )else (
  bif ((den.Words.length:Int) == 0)then (
   some ((ZnA.mk (ZnB.mk false ([]:(List Int))) (ZnB.mk false ([]:(List Int)))),8)
  )else (
   (Zox num den).bind fun q_1=>
   some (q_1,0)
  )
 )
def Zsz (num:Int) (den:Int):Option (ZnA×Int):=
 (Zqd num).bind fun q=>
 (Zqd den).bind fun q_1=>
 (Zsq q q_1).bind fun(q_2,q_3)=>
 some (q_2,q_3)
def Zsx:Option ZnA:=
 (Zsz 0 1).bind fun(f,q)=>
 some f
def Ztj (a:Int) (b:Int):Option ZnA:=
 (Zsz a b).bind fun(f,e)=>
 bif (e != 0)then (
  (Zsx).bind fun q=>
  some q
 )else (
  some f
 )
def Zp9 (a:(List Str)) (b:(List Str)):Option ZnA:=
 (ZqA a b).bind fun n=>
 chk (inK .i64 ((a.length:Int)+(b.length:Int))) <|
 chk (inK .i64 (((a.length:Int)+(b.length:Int)) - n)) <|
 (Ztj n (if (1:Int) > (((a.length:Int)+(b.length:Int)) - n)then (1:Int)else (((a.length:Int)+(b.length:Int)) - n))).bind fun q=>
 some q
def ZqB (a:ZnJ) (b:ZnJ):Option ZnA:=
 (Zqh a).bind fun q=>
 (Zqh b).bind fun q_1=>
 (Zp9 q q_1).bind fun q_2=>
 some q_2
def Zqb (a:Str) (b:Str):Option ZnA:=
 (ZnX a).bind fun q=>
 (ZnX b).bind fun q_1=>
 (Zp9 q q_1).bind fun q_2=>
 some q_2
def ZpQ (t2:Bool):Option Bool:=
 some t2
def Zop (f:ZnA):Option Bool:=
 (ZrF ([f.Num,f.Den]:(List ZnB))).bind fun q=>
 bif q then (
  bif (decide ((f.Den.Words.length:Int) > 0))then (
   bif (!f.Den.Neg)then (
    (ZoP f.Num.Words f.Den.Words).bind fun q_1=>
    (Zn0 q_1 ([1]:List Int)).bind fun q_2=>
    ZpQ (q_2 == 0)
   )else (
    ZpQ false
   )
  )else (
   ZpQ false
  )
 )else (
  ZpQ false
 )
def Zrh (out:(List Int)):Option (List Int):=
 (ZnN out).bind fun q=>
 some q
def Zri (rec_:(List Int)→(List Int)→Int→Int→(List Int)→Option (List Int)) (v_:(List Int)) (i:Int) (carry:Int) (t17:(List Int)) (t18:Int) (i_1:Int) (out:(List Int)):Option (List Int):=
 chk (inK .i64 (i+(v_.length:Int))) <|
 chk (inR (i+(v_.length:Int)) (out.length:Int)) <|
 chk (inK .i64 (i_1+1)) <|
 rec_ v_ t17 t18 (i_1+1) (out.set (((i+(v_.length:Int))).toNat) (IntKind.wrap .u32 carry))
def Zpr (rec_:(List Int)→Int→Int→Int→(List Int)→Int→Int→(List Int)→Int→Int→(List Int)→Option ((List Int)×Int×Int×(List Int)×Int×Int×(List Int))) (v_:(List Int)) (i:Int) (x_:Int) (carry:Int) (t17:(List Int)) (t18:Int) (i_1:Int) (t24:(List Int)) (t25:Int) (j:Int) (out:(List Int)):Option ((List Int)×Int×Int×(List Int)×Int×Int×(List Int)):=
 bif (decide (j < t25))then (
  (idx t24 j).bind fun y=>
  chk (inK .i64 (i+j)) <|
  chk (inR (i+j) (out.length:Int)) <|
  (out[((i+j)).toNat]?).bind fun out_e=>
  chk (inK .i64 (i+j)) <|
  chk (inR (i+j) (out.length:Int)) <|
  chk (decide (0≤(32:Int))) <|
  chk (inK .i64 (j+1)) <|
  rec_ v_ i x_ (shrK .u64 (IntKind.wrap .u64 (carry+(IntKind.wrap .u64 ((IntKind.wrap .u64 ((IntKind.wrap .u64 x_)*(IntKind.wrap .u64 y)))+(IntKind.wrap .u64 out_e))))) 32) t17 t18 i_1 t24 t25 (j+1) (out.set (((i+j)).toNat) (IntKind.wrap .u32 (IntKind.wrap .u64 (carry+(IntKind.wrap .u64 ((IntKind.wrap .u64 ((IntKind.wrap .u64 x_)*(IntKind.wrap .u64 y)))+(IntKind.wrap .u64 out_e)))))))
 )else (
  some (v_,i,carry,t17,t18,i_1,out)
 )
def ZpZ:Nat→(List Int)→Int→Int→Int→(List Int)→Int→Int→(List Int)→Int→Int→(List Int)→Option ((List Int)×Int×Int×(List Int)×Int×Int×(List Int))
 |0,_,_,_,_,_,_,_,_,_,_,_=>none
 |n_+1,v_,i,x_,carry,t17,t18,i_1,t24,t25,j,out=>Zpr (ZpZ n_) v_ i x_ carry t17 t18 i_1 t24 t25 j out
def Zsh (n:Nat) (s:((List Int)×Int×Int×Int×(List Int)×Int×Int×(List Int)×Int×Int×(List Int))):Option ((List Int)×Int×Int×(List Int)×Int×Int×(List Int)):=ZpZ n s.1 s.2.1 s.2.2.1 s.2.2.2.1 s.2.2.2.2.1 s.2.2.2.2.2.1 s.2.2.2.2.2.2.1 s.2.2.2.2.2.2.2.1 s.2.2.2.2.2.2.2.2.1 s.2.2.2.2.2.2.2.2.2.1 s.2.2.2.2.2.2.2.2.2.2
def ZqC (rec_:((List Int)×Int×Int×Int×(List Int)×Int×Int×(List Int)×Int×Int×(List Int))→Option ((List Int)×Int×Int×(List Int)×Int×Int×(List Int))) (s:((List Int)×Int×Int×Int×(List Int)×Int×Int×(List Int)×Int×Int×(List Int))):Option ((List Int)×Int×Int×(List Int)×Int×Int×(List Int)):=Zpr (fun v_ i x_ carry t17 t18 i_1 t24 t25 j out=>rec_ (v_,i,x_,carry,t17,t18,i_1,t24,t25,j,out)) s.1 s.2.1 s.2.2.1 s.2.2.2.1 s.2.2.2.2.1 s.2.2.2.2.2.1 s.2.2.2.2.2.2.1 s.2.2.2.2.2.2.2.1 s.2.2.2.2.2.2.2.2.1 s.2.2.2.2.2.2.2.2.2.1 s.2.2.2.2.2.2.2.2.2.2
theorem ZtK:∀n s,Zsh (n+1) s=ZqC (Zsh n) s:=fun _ _=>rfl
def Zps (rec_:(List Int)→(List Int)→Int→Int→(List Int)→Option (List Int)) (v_:(List Int)) (t17:(List Int)) (t18:Int) (i:Int) (out:(List Int)):Option (List Int):=
 bif (decide (i < t18))then (
  (idx t17 i).bind fun x_=>
  (ZpZ big v_ i x_ (0:Int) t17 t18 i v_ (v_.length:Int) (0:Int) out).bind fun(x0,x1,x2,x3,x4,x5,x6)=>Zri rec_ x0 x1 x2 x3 x4 x5 x6
 )else (
  some out
 )
def Zo4:Nat→(List Int)→(List Int)→Int→Int→(List Int)→Option (List Int)
 |0,_,_,_,_,_=>none
 |n_+1,v_,t17,t18,i,out=>Zps (Zo4 n_) v_ t17 t18 i out
def Zsi (n:Nat) (s:((List Int)×(List Int)×Int×Int×(List Int))):Option (List Int):=Zo4 n s.1 s.2.1 s.2.2.1 s.2.2.2.1 s.2.2.2.2
def ZqD (rec_:((List Int)×(List Int)×Int×Int×(List Int))→Option (List Int)) (s:((List Int)×(List Int)×Int×Int×(List Int))):Option (List Int):=Zps (fun v_ t17 t18 i out=>rec_ (v_,t17,t18,i,out)) s.1 s.2.1 s.2.2.1 s.2.2.2.1 s.2.2.2.2
theorem ZtL:∀n s,Zsi (n+1) s=ZqD (Zsi n) s:=fun _ _=>rfl
def Zou (w_:(List Int)) (v_:(List Int)):Option (List Int):=
 chk (inK .i64 ((w_.length:Int)+(v_.length:Int))) <|
 chk (mkOk ((w_.length:Int)+(v_.length:Int)) ((w_.length:Int)+(v_.length:Int)) 4) <|
 (Zo4 big v_ w_ (w_.length:Int) (0:Int) (List.replicate (((w_.length:Int)+(v_.length:Int))).toNat (0:Int))).bind fun x0=>Zrh x0
def ZnK (a:ZnB) (b:ZnB):Option ZnB:=
 (Zou a.Words b.Words).bind fun q=>
 (ZnQ (!(a.Neg == b.Neg)) q).bind fun q_1=>
 some q_1
def ZqO (t2:ZnB):Option ZnB:=
 some t2
def Zpe (a:ZnB):Option ZnB:=
 bif (!a.Neg)then (
  ZqO (ZnB.mk (decide ((a.Words.length:Int) > 0)) a.Words)
 )else (
  ZqO (ZnB.mk false a.Words)
 )
def ZrC (carry:Int) (out:(List Int)):Option (List Int):=
 chk (ZiZ (out.length+([carry]:(List Int)).length) 4) <|
 (ZnN (out++([carry]:(List Int)))).bind fun q=>
 some q
def ZpE (rec_:(List Int)→(List Int)→Int→Int→Int→(List Int)→Option (Int×(List Int))) (w_:(List Int)) (v_:(List Int)) (carry:Int) (t20:Int) (i:Int) (out:(List Int)):Option (Int×(List Int)):=
 bif (decide (i < t20))then (
  (Zpd w_ i).bind fun q=>
  (Zpd v_ i).bind fun q_1=>
  (Zqt q q_1 carry).bind fun(d,carry_1)=>
  chk (ZiZ (out.length+([d]:(List Int)).length) 4) <|
  chk (inK .i64 (i+1)) <|
  rec_ w_ v_ carry_1 t20 (i+1) (out++([d]:(List Int)))
 )else (
  some (carry,out)
 )
def Zqc:Nat→(List Int)→(List Int)→Int→Int→Int→(List Int)→Option (Int×(List Int))
 |0,_,_,_,_,_,_=>none
 |n_+1,w_,v_,carry,t20,i,out=>ZpE (Zqc n_) w_ v_ carry t20 i out
def ZsD (n:Nat) (s:((List Int)×(List Int)×Int×Int×Int×(List Int))):Option (Int×(List Int)):=Zqc n s.1 s.2.1 s.2.2.1 s.2.2.2.1 s.2.2.2.2.1 s.2.2.2.2.2
def ZqT (rec_:((List Int)×(List Int)×Int×Int×Int×(List Int))→Option (Int×(List Int))) (s:((List Int)×(List Int)×Int×Int×Int×(List Int))):Option (Int×(List Int)):=ZpE (fun w_ v_ carry t20 i out=>rec_ (w_,v_,carry,t20,i,out)) s.1 s.2.1 s.2.2.1 s.2.2.2.1 s.2.2.2.2.1 s.2.2.2.2.2
theorem ZtT:∀n s,ZsD (n+1) s=ZqT (ZsD n) s:=fun _ _=>rfl
def Zpf (w_:(List Int)) (v_:(List Int)):Option (List Int):=
 chk (inK .i64 ((if (v_.length:Int) > (w_.length:Int)then (v_.length:Int)else (w_.length:Int))+1)) <|
 chk (mkOk 0 ((if (v_.length:Int) > (w_.length:Int)then (v_.length:Int)else (w_.length:Int))+1) 4) <|
 (Zqc big w_ v_ (0:Int) (if (v_.length:Int) > (w_.length:Int)then (v_.length:Int)else (w_.length:Int)) (0:Int) (List.replicate ((0:Int)).toNat (0:Int))).bind fun(x0,x1)=>ZrC x0 x1
def Zrk (out:(List Int)):Option (List Int):=
 (ZnN out).bind fun q=>
 some q
def Zpv (rec_:(List Int)→(List Int)→Int→Int→Int→(List Int)→Option (List Int)) (w_:(List Int)) (v_:(List Int)) (borrow:Int) (t12:Int) (i:Int) (out:(List Int)):Option (List Int):=
 bif (decide (i < t12))then (
  (idx w_ i).bind fun w__e=>
  (Zpd v_ i).bind fun q=>
  (ZpN w__e q borrow).bind fun(q_1,borrow_1)=>
  chk (inR i (out.length:Int)) <|
  chk (inK .i64 (i+1)) <|
  rec_ w_ v_ borrow_1 t12 (i+1) (out.set ((i).toNat) q_1)
 )else (
  some out
 )
def Zp1:Nat→(List Int)→(List Int)→Int→Int→Int→(List Int)→Option (List Int)
 |0,_,_,_,_,_,_=>none
 |n_+1,w_,v_,borrow,t12,i,out=>Zpv (Zp1 n_) w_ v_ borrow t12 i out
def Zsk (n:Nat) (s:((List Int)×(List Int)×Int×Int×Int×(List Int))):Option (List Int):=Zp1 n s.1 s.2.1 s.2.2.1 s.2.2.2.1 s.2.2.2.2.1 s.2.2.2.2.2
def ZqG (rec_:((List Int)×(List Int)×Int×Int×Int×(List Int))→Option (List Int)) (s:((List Int)×(List Int)×Int×Int×Int×(List Int))):Option (List Int):=Zpv (fun w_ v_ borrow t12 i out=>rec_ (w_,v_,borrow,t12,i,out)) s.1 s.2.1 s.2.2.1 s.2.2.2.1 s.2.2.2.2.1 s.2.2.2.2.2
theorem ZtN:∀n s,Zsk (n+1) s=ZqG (Zsk n) s:=fun _ _=>rfl
def ZoY (w_:(List Int)) (v_:(List Int)):Option (List Int):=
 chk (mkOk (w_.length:Int) (w_.length:Int) 4) <|
 (Zp1 big w_ v_ (0:Int) (w_.length:Int) (0:Int) (List.replicate ((w_.length:Int)).toNat (0:Int))).bind fun x0=>Zrk x0
def Zrm (a:ZnB) (b:ZnB):Option ZnB:=
 bif (a.Neg == b.Neg)then (
  (Zpf a.Words b.Words).bind fun q=>
  (ZnQ a.Neg q).bind fun q_1=>
  some q_1
 )else (
  (Zn0 a.Words b.Words).bind fun q_2=>
  bif (decide (q_2≥0))then (
   (ZoY a.Words b.Words).bind fun q_3=>
   (ZnQ a.Neg q_3).bind fun q_4=>
   some q_4
  )else (
   (ZoY b.Words a.Words).bind fun q_5=>
   (ZnQ b.Neg q_5).bind fun q_6=>
   some q_6
  )
 )
def ZsA (t13:Bool) (a:ZnA) (b:ZnA):Option Int:=
 bif t13 then (
  some (0:Int)
 )else (
  (ZnK a.Num b.Den).bind fun q=>
  (ZnK b.Num a.Den).bind fun q_1=>
  (Zpe q_1).bind fun q_2=>
  (Zrm q q_2).bind fun d=>
  bif d.Neg then (
   some (-1:Int)
  )else (
   bif (decide ((d.Words.length:Int) > 0))then (
    some (1:Int)
   )else (
    some (0:Int)
   )
  )
 )
def ZsP (a:ZnA) (b:ZnA):Option Int:=
 (Zop a).bind fun q=>
 bif (!q)then (
  ZsA true a b
 )else (
  (Zop b).bind fun q_1=>
  ZsA (!q_1) a b
 )
def Zte (a:ZnA):Option Int:=
 (Zsx).bind fun q=>
 (ZsP a q).bind fun q_1=>
 some q_1
def ZtE:Option (List (Int×Zod)):=
 some (setB (k:=(.int .i64)) (v:=(.st 4)) (car:=ZuP) (setB (k:=(.int .i64)) (v:=(.st 4)) (car:=ZuP) (setB (k:=(.int .i64)) (v:=(.st 4)) (car:=ZuP) (setB (k:=(.int .i64)) (v:=(.st 4)) (car:=ZuP) (setB (k:=(.int .i64)) (v:=(.st 4)) (car:=ZuP) ([]:(List (Int×Zod))) 1 (Zod.mk ([116,101,120,116]:Str) (none:Option Nat) (some 237:Option Nat))) 2 (Zod.mk ([98,111,111,108]:Str) (some 238:Option Nat) (some 239:Option Nat))) 3 (Zod.mk ([105,110,116,101,103,101,114]:Str) (some 240:Option Nat) (some 241:Option Nat))) 4 (Zod.mk ([100,101,99,105,109,97,108]:Str) (some 242:Option Nat) (some 241:Option Nat))) 5 (Zod.mk ([100,97,116,101]:Str) (some 243:Option Nat) (some 244:Option Nat)))
def Zt8 (s cs:Str):Option Str:=
 chk (cs.all fun b=>decide (b.toNat < 128)) <| chk (decide (cs.length < 4294967281)) <| some (Lib.trimS s cs)
def Zu3 (s:Str):Option Str:=
 (Zt8 s ([32]:Str)).bind fun q=>
 some q
def Zpc (t4:Bool):Option Bool:=
 some t4
def ZoC (s:Str) (prefix_:Str):Option Bool:=
 bif (decide ((s.length:Int)≥(prefix_.length:Int)))then (
  chk (Zb9 0 (prefix_.length:Int) (s.length:Int)) <|
  Zpc ((s.take ((prefix_.length:Int)).toNat) == prefix_)
 )else (
  Zpc false
 )
def ZpB (s:Str) (prefix_:Str):Option (Str×Bool):=
 (ZoC s prefix_).bind fun q=>
 bif (!q)then (
  some (s,false)
 )else (
  chk (Zb9 (prefix_.length:Int) (s.length:Int) (s.length:Int)) <|
  some ((s.drop ((prefix_.length:Int)).toNat),true)
 )
def ZsS (s:Str) (prefix_:Str):Option (Str×Bool):=
 (ZpB s prefix_).bind fun(after,found)=>
 some (after,found)
def Zpq (s:Str) (prefix_:Str):Option Str:=
 (ZoC s prefix_).bind fun q=>
 bif q then (
  chk (Zb9 (prefix_.length:Int) (s.length:Int) (s.length:Int)) <|
  some (s.drop ((prefix_.length:Int)).toNat)
 )else (
  some s
 )
def ZsG (s:Str) (prefix_:Str):Option Str:=
 (Zpq s prefix_).bind fun q=>
 some q
def ZpA (s:Str) (c:Int):Option Int:=
 some (Lib.indexByte s c.toNat.toUInt8)
def ZpO (s:Str) (substr:Str) (n:Int) (t16:Bool):Option Int:=
 bif t16 then (
  some (0:Int)
 )else (
  bif (n == 1)then (
   (idx substr 0).bind fun c=>
   (ZpA s ((c.toNat:Nat):Int)).bind fun q=>
   some q
  )else (
   bif (decide (n≥(s.length:Int)))then (
    some (-1:Int)
   )else (
    none
   )
  )
 )
def Zqp (s:Str) (substr:Str):Option Int:=
 bif ((substr.length:Int) == 0)then (
  ZpO s substr (substr.length:Int) true
 )else (
  ZpO s substr (substr.length:Int) (substr == s)
 )
def ZqS (s:Str) (sep:Str):Option (Str×Str×Bool):=
 (Zqp s sep).bind fun i=>
 bif (decide (i≥0))then (
  chk (Zb9 0 i (s.length:Int)) <|
  chk (inK .i64 (i+(sep.length:Int))) <|
  chk (Zb9 (i+(sep.length:Int)) (s.length:Int) (s.length:Int)) <|
  some ((s.take (i).toNat),(s.drop ((i+(sep.length:Int))).toNat),true)
 )else (
  some (s,([]:Str),false)
 )
def ZtJ (s:Str) (sep:Str):Option (Str×Str×Bool):=
 (ZqS s sep).bind fun(before,after,found)=>
 some (before,after,found)
def Zrr (t4:Bool):Option Bool:=
 some t4
def Zsy (s:Str) (most:Int):Option Bool:=
 bif (decide ((s.length:Int)≥1))then (
  bif (decide ((s.length:Int)≤most))then (
   (Zt8 s ([48,49,50,51,52,53,54,55,56,57]:Str)).bind fun q=>
   Zrr (q == ([]:Str))
  )else (
   Zrr false
  )
 )else (
  Zrr false
 )
def Zq4 (neg:Bool) (num:(List Int)) (den:(List Int)) (t2:Bool) (t2_1:Bool) (t2_2:(List Int)) (t2_3:(List Int)):Option (ZnA×Bool):=
 (ZnQ neg num).bind fun q=>
 (ZnQ false den).bind fun q_1=>
 (Zox q q_1).bind fun q_2=>
 some (q_2,true)
def Zum (rec_:Bool→(List Int)→(List Int)→(List Int)→Int→Int→Bool→Bool→(List Int)→(List Int)→Option (Bool×(List Int)×(List Int)×Bool×Bool×(List Int)×(List Int))) (neg:Bool) (num:(List Int)) (ten:(List Int)) (den:(List Int)) (t63:Int) (t64:Int) (t2:Bool) (t2_1:Bool) (t2_2:(List Int)) (t2_3:(List Int)):Option (Bool×(List Int)×(List Int)×Bool×Bool×(List Int)×(List Int)):=
 bif (decide (t64 < t63))then (
  (Zou den ten).bind fun den_1=>
  chk (inK .i64 (t64+1)) <|
  rec_ neg num ten den_1 t63 (t64+1) t2 t2_1 t2_2 t2_3
 )else (
  some (neg,num,den,t2,t2_1,t2_2,t2_3)
 )
def Zsr:Nat→Bool→(List Int)→(List Int)→(List Int)→Int→Int→Bool→Bool→(List Int)→(List Int)→Option (Bool×(List Int)×(List Int)×Bool×Bool×(List Int)×(List Int))
 |0,_,_,_,_,_,_,_,_,_,_=>none
 |n_+1,neg,num,ten,den,t63,t64,t2,t2_1,t2_2,t2_3=>Zum (Zsr n_) neg num ten den t63 t64 t2 t2_1 t2_2 t2_3
def Ztr (neg:Bool) (back:Str) (num:(List Int)) (ten:(List Int)) (t2:Bool) (t2_1:Bool) (den:(List Int)) (t2_2:(List Int)) (t2_3:(List Int)):Option (ZnA×Bool):=
 (Zsr big neg num ten den (back.length:Int) (0:Int) t2 t2_1 t2_2 t2_3).bind fun(x0,x1,x2,x3,x4,x5,x6)=>Zq4 x0 x1 x2 x3 x4 x5 x6
def Zun (rec_:Bool→Str→(List Int)→(List Int)→Int→Int→Bool→Bool→(List Int)→(List Int)→(List Int)→(List Int)→Option (Bool×Str×(List Int)×(List Int)×Bool×Bool×(List Int)×(List Int)×(List Int))) (neg:Bool) (back:Str) (num:(List Int)) (ten:(List Int)) (t48:Int) (t49:Int) (t2:Bool) (t2_1:Bool) (den:(List Int)) (t47:(List Int)) (t2_2:(List Int)) (t2_3:(List Int)):Option (Bool×Str×(List Int)×(List Int)×Bool×Bool×(List Int)×(List Int)×(List Int)):=
 bif (decide (t49 < t48))then (
  chk (inR t49 (t47.length:Int)) <|
  (t47[(t49).toNat]?).bind fun d=>
  (Zou num ten).bind fun q=>
  (Zpy (IntKind.wrap .u64 (IntKind.wrap .u8 (d - 48)))).bind fun q_1=>
  (Zpf q q_1).bind fun num_1=>
  chk (inK .i64 (t49+1)) <|
  rec_ neg back num_1 ten t48 (t49+1) t2 t2_1 den t47 t2_2 t2_3
 )else (
  some (neg,back,num,ten,t2,t2_1,den,t2_2,t2_3)
 )
def Zss:Nat→Bool→Str→(List Int)→(List Int)→Int→Int→Bool→Bool→(List Int)→(List Int)→(List Int)→(List Int)→Option (Bool×Str×(List Int)×(List Int)×Bool×Bool×(List Int)×(List Int)×(List Int))
 |0,_,_,_,_,_,_,_,_,_,_,_,_=>none
 |n_+1,neg,back,num,ten,t48,t49,t2,t2_1,den,t47,t2_2,t2_3=>Zun (Zss n_) neg back num ten t48 t49 t2 t2_1 den t47 t2_2 t2_3
def Zq5 (neg:Bool) (front:Str) (back:Str) (t39:Bool) (t2:Bool) (t2_1:Bool) (t2_2:(List Int)) (t2_3:(List Int)):Option (ZnA×Bool):=
 bif t39 then (
  some ((ZnA.mk (ZnB.mk false ([]:(List Int))) (ZnB.mk false ([]:(List Int)))),false)
 )else (
  (ZnW ([1]:List Int)).bind fun den=>
  chk (decide (front.length+back.length≤Zq)) <|
  chk (decide ((front++back).length≤281474976710656)) <|
  (Zss big neg back ([]:(List Int)) ([10]:(List Int)) (((front++back).map fun b=>((b.toNat:Nat):Int)).length:Int) (0:Int) t2 t2_1 den ((front++back).map fun b=>((b.toNat:Nat):Int)) t2_2 t2_3).bind fun(x0,x1,x2,x3,x4,x5,x6,x7,x8)=>Ztr x0 x1 x2 x3 x4 x5 x6 x7 x8
 )
def Zst (body:Str) (neg:Bool) (t2:Bool) (t2_1:Bool) (t2_2:(List Int)) (t2_3:(List Int)):Option (ZnA×Bool):=
 (ZtJ body ([46]:Str)).bind fun(front,back,point)=>
 (Zsy front 15).bind fun q=>
 bif (!q)then (
  Zq5 neg front back true t2 t2_1 t2_2 t2_3
 )else (
  bif point then (
   (Zsy back 9).bind fun q_1=>
   Zq5 neg front back (!q_1) t2 t2_1 t2_2 t2_3
  )else (
   Zq5 neg front back false t2 t2_1 t2_2 t2_3
  )
 )
def Zqe (text:Str):Option (ZnA×Bool):=
 (ZsS text ([45]:Str)).bind fun(body,neg)=>
 bif (!neg)then (
  (ZsG text ([43]:Str)).bind fun body_1=>
  Zst body_1 neg false false ([]:(List Int)) ([]:(List Int))
 )else (
  Zst body neg false false ([]:(List Int)) ([]:(List Int))
 )
def Zs1 (s cs:Str):Option Str:=
 chk (cs.all fun b=>decide (b.toNat < 128)) <| chk (decide (cs.length < 4294967281)) <| some (Lib.trimLeftS s cs)
def ZtQ (s cs:Str):Option Str:=
 chk (cs.all fun b=>decide (b.toNat < 128)) <| chk (decide (cs.length < 4294967281)) <| some (Lib.trimRightS s cs)
def Zt3 (zero:Str):Option Str:=
 some zero
def ZuV (rec_:Str→(List Str)→Int→Int→Option (Out Str Str)) (zero:Str) (t6:(List Str)) (t7:Int) (t8:Int):Option (Out Str Str):=
 bif (decide (t8 < t7))then (
  (idx t6 t8).bind fun val=>
  bif (!(val == zero))then (
   some (.ret val)
  )else (
   chk (inK .i64 (t8+1)) <|
   rec_ zero t6 t7 (t8+1)
  )
 )else (
  some (.brk zero)
 )
def Zs8:Nat→Str→(List Str)→Int→Int→Option (Out Str Str)
 |0,_,_,_,_=>none
 |n_+1,zero,t6,t7,t8=>ZuV (Zs8 n_) zero t6 t7 t8
def ZtW (vals:(List Str)):Option Str:=
 (Zs8 big ([]:Str) vals (vals.length:Int) (0:Int)).bind fun
  | .ret q_=>some q_
  | .brk x0=>Zt3 x0
def ZsY (out:Str):Option (Str×Bool):=
 some (out,true)
def ZsZ (out:Str) (t43:Bool):Option (Str×Bool):=
 bif t43 then (
  chk (decide (([45]:Str).length+out.length≤Zq)) <|
  ZsY (([45]:Str)++out)
 )else (
  ZsY out
 )
def Zs0 (t:Str) (out:Str):Option (Str×Bool):=
 (idx t 0).bind fun c=>
 bif (((c.toNat:Nat):Int) == 45)then (
  ZsZ out (!(out == ([48]:Str)))
 )else (
  ZsZ out false
 )
def Zsb (t:Str):Option (Str×Bool):=
 (Zqe t).bind fun(q,ok)=>
 bif (!ok)then (
  some (([]:Str),false)
 )else (
  (Zs1 t ([43,45]:Str)).bind fun q_1=>
  (ZtJ q_1 ([46]:Str)).bind fun(front,back,q_2)=>
  (Zs1 front ([48]:Str)).bind fun front_1=>
  (ZtQ back ([48]:Str)).bind fun back_1=>
  (ZtW ([front_1,([48]:Str)]:(List Str))).bind fun out=>
  bif (!(back_1 == ([]:Str)))then (
   chk (decide (([46]:Str).length+back_1.length≤Zq)) <|
   chk (decide (out.length+(([46]:Str)++back_1).length≤Zq)) <|
   Zs0 t (out++(([46]:Str)++back_1))
  )else (
   Zs0 t out
  )
 )
def Zrv (n:Int) (s:Str):Option (Str×Bool):=
 (ZtE).bind fun q=>
 bif (!(Zg3 (k:=(.int .i64)) (v:=(.st 4)) (car:=ZuP) q n).isSome)then (
  some (([]:Str),false)
 )else (
  bif (Option.isNone (((Zg3 (k:=(.int .i64)) (v:=(.st 4)) (car:=ZuP) q n).getD (Zod.mk ([]:Str) (none:Option Nat) (none:Option Nat))).canonical))then (
   some (s,true)
  )else (
   (Zu3 s).bind fun q_1=>
   chk (decide (((Zg3 (k:=(.int .i64)) (v:=(.st 4)) (car:=ZuP) q n).getD (Zod.mk ([]:Str) (none:Option Nat) (none:Option Nat))).canonical=some 242)) <|
   (Zsb q_1).bind fun(q_2,q_3)=>
   some (q_2,q_3)
  )
 )
def ZtF (n:Int) (s:Str):Option (ZnA×Bool):=
 (Zrv n s).bind fun(t,ok)=>
 bif (!ok)then (
  some ((ZnA.mk (ZnB.mk false ([]:(List Int))) (ZnB.mk false ([]:(List Int)))),false)
 )else (
  (ZtE).bind fun q=>
  chk (decide (((Zg3 (k:=(.int .i64)) (v:=(.st 4)) (car:=ZuP) q n).getD (Zod.mk ([]:Str) (none:Option Nat) (none:Option Nat))).value=some 241)) <|
  (Zqe t).bind fun(q_1,q_2)=>
  some (q_1,q_2)
 )
def Zpp (c:ZnG):Option (ZnA×Bool):=
 bif c.Null then (
  (Zsx).bind fun q=>
  some (q,false)
 )else (
  (ZtF 4 c.Text).bind fun(q_1,q_2)=>
  some (q_1,q_2)
 )
def Zsf (full:Int) (n:Int) (t2:Bool) (t2_1:Bool) (t2_2:(List Int)) (t2_3:(List Int)):Option ZnA:=
 (Ztj n (if (1:Int) > full then (1:Int)else full)).bind fun q=>
 some q
def Zp7 (rec_:Int→Int→(List ZnG)→Int→Int→Bool→Bool→(List Int)→(List Int)→Option (Int×Int×Bool×Bool×(List Int)×(List Int))) (full:Int) (n:Int) (t10:(List ZnG)) (t11:Int) (t12:Int) (t2:Bool) (t2_1:Bool) (t2_2:(List Int)) (t2_3:(List Int)):Option (Int×Int×Bool×Bool×(List Int)×(List Int)):=
 chk (inK .i64 (t12+1)) <|
 rec_ full n t10 t11 (t12+1) t2 t2_1 t2_2 t2_3
def Zqo (rec_:Int→Int→(List ZnG)→Int→Int→Bool→Bool→(List Int)→(List Int)→Option (Int×Int×Bool×Bool×(List Int)×(List Int))) (full:Int) (n:Int) (t10:(List ZnG)) (t11:Int) (t12:Int) (t2:Bool) (t2_1:Bool) (t2_2:(List Int)) (t2_3:(List Int)):Option (Int×Int×Bool×Bool×(List Int)×(List Int)):=
 bif (decide (t12 < t11))then (
  (idx t10 t12).bind fun x_=>
  bif x_.Null then (
   Zp7 rec_ full n t10 t11 t12 t2 t2_1 t2_2 t2_3
  )else (
   chk (inK .i64 (full+1)) <|
   (Zpp x_).bind fun(q,ok)=>
   bif ok then (
    chk (inK .i64 (n+1)) <|
    Zp7 rec_ (full+1) (n+1) t10 t11 t12 t2 t2_1 t2_2 t2_3
   )else (
    Zp7 rec_ (full+1) n t10 t11 t12 t2 t2_1 t2_2 t2_3
   )
  )
 )else (
  some (full,n,t2,t2_1,t2_2,t2_3)
 )
def Zp6:Nat→Int→Int→(List ZnG)→Int→Int→Bool→Bool→(List Int)→(List Int)→Option (Int×Int×Bool×Bool×(List Int)×(List Int))
 |0,_,_,_,_,_,_,_,_,_=>none
 |n_+1,full,n,t10,t11,t12,t2,t2_1,t2_2,t2_3=>Zqo (Zp6 n_) full n t10 t11 t12 t2 t2_1 t2_2 t2_3
def Zs2 (n:Nat) (s:(Int×Int×(List ZnG)×Int×Int×Bool×Bool×(List Int)×(List Int))):Option (Int×Int×Bool×Bool×(List Int)×(List Int)):=Zp6 n s.1 s.2.1 s.2.2.1 s.2.2.2.1 s.2.2.2.2.1 s.2.2.2.2.2.1 s.2.2.2.2.2.2.1 s.2.2.2.2.2.2.2.1 s.2.2.2.2.2.2.2.2
def ZrM (rec_:(Int×Int×(List ZnG)×Int×Int×Bool×Bool×(List Int)×(List Int))→Option (Int×Int×Bool×Bool×(List Int)×(List Int))) (s:(Int×Int×(List ZnG)×Int×Int×Bool×Bool×(List Int)×(List Int))):Option (Int×Int×Bool×Bool×(List Int)×(List Int)):=Zqo (fun full n t10 t11 t12 t2 t2_1 t2_2 t2_3=>rec_ (full,n,t10,t11,t12,t2,t2_1,t2_2,t2_3)) s.1 s.2.1 s.2.2.1 s.2.2.2.1 s.2.2.2.2.1 s.2.2.2.2.2.1 s.2.2.2.2.2.2.1 s.2.2.2.2.2.2.2.1 s.2.2.2.2.2.2.2.2
theorem Zuc:∀n s,Zs2 (n+1) s=ZrM (Zs2 n) s:=fun _ _=>rfl
def Zs3 (c:ZnJ):Option ZnA:=
 (Zp6 big (0:Int) (0:Int) c.Cells (c.Cells.length:Int) (0:Int) false false ([]:(List Int)) ([]:(List Int))).bind fun(x0,x1,x2,x3,x4,x5)=>Zsf x0 x1 x2 x3 x4 x5
def ZoT (c:ZnJ):Option ZnA:=ZvJ (Zs3 c)
def Zs6 (a:ZnA) (b:ZnA):Option (ZnB×ZnB):=
 (ZnK a.Num b.Den).bind fun q=>
 (ZnK b.Num a.Den).bind fun q_1=>
 (Zrm q q_1).bind fun num=>
 (ZnK a.Den b.Den).bind fun den=>
 some (num,den)
def ZoU (t18:Bool) (a:ZnA) (b:ZnA) (t6:Bool) (t6_1:Bool) (t6_2:(List Int)) (t6_3:(List Int)):Option (ZnA×Int):=
 bif t18 then (
  some ((ZnA.mk (ZnB.mk false ([]:(List Int))) (ZnB.mk false ([]:(List Int)))),1)
 )else (
  (Zs6 a b).bind fun(num,den)=>
  bif ((den.Words.length:Int) == 0)then (
   some ((ZnA.mk (ZnB.mk false ([]:(List Int))) (ZnB.mk false ([]:(List Int)))),8)
  )else (
   (Zox num den).bind fun f=>
   bif (decide ((if (f.Den.Words.length:Int) > (f.Num.Words.length:Int)then (f.Den.Words.length:Int)else (f.Num.Words.length:Int)) > 256))then (
    some ((ZnA.mk (ZnB.mk false ([]:(List Int))) (ZnB.mk false ([]:(List Int)))),3)
   )else (
    some (f,0)
   )
  )
 )
def Zok (a:ZnA) (b:ZnA):Option (ZnA×Int):=
 (Zop a).bind fun q=>
 bif (!q)then (
  ZoU true a b false false ([]:(List Int)) ([]:(List Int))
 )else (
  (Zop b).bind fun q_1=>
  ZoU (!q_1) a b false false ([]:(List Int)) ([]:(List Int))
 )
def ZsN (a:ZnA) (b:ZnA):Option (ZnA×Int):=
 (Zop b).bind fun q=>
 bif (!q)then (
  some ((ZnA.mk (ZnB.mk false ([]:(List Int))) (ZnB.mk false ([]:(List Int)))),1)
 )else (
  (Zpe b.Num).bind fun q_1=>
  (Zok a (ZnA.mk q_1 b.Den)).bind fun(q_2,q_3)=>
  some (q_2,q_3)
 )
def Zsg (f:ZnA) (a1:Int):Option ZnA:=
 some f
def ZtR (a:ZnA) (b:ZnA):Option ZnA:=
 (ZsN a b).bind fun(q,q_1)=>
 (Zsg q q_1).bind fun q_2=>
 some q_2
def ZrX (a:ZnA) (b:ZnA):Option (ZnA×Int):=
 (Zok a b).bind fun(q,q_1)=>
 some (q,q_1)
def ZtS (a:ZnA) (b:ZnA):Option ZnA:=
 (ZrX a b).bind fun(q,q_1)=>
 (Zsg q q_1).bind fun q_2=>
 some q_2
def Zs7 (a:ZnA) (b:ZnA):Option (ZnB×ZnB):=
 (ZnK a.Num b.Den).bind fun num=>
 (ZnK a.Den b.Num).bind fun den=>
 some (num,den)
def ZoD (t18:Bool) (a:ZnA) (b:ZnA) (t6:Bool) (t6_1:Bool) (t6_2:(List Int)) (t6_3:(List Int)):Option (ZnA×Int):=
 bif t18 then (
  some ((ZnA.mk (ZnB.mk false ([]:(List Int))) (ZnB.mk false ([]:(List Int)))),1)
 )else (
  (Zs7 a b).bind fun(num,den)=>
  bif ((den.Words.length:Int) == 0)then (
   some ((ZnA.mk (ZnB.mk false ([]:(List Int))) (ZnB.mk false ([]:(List Int)))),8)
  )else (
   (Zox num den).bind fun f=>
   bif (decide ((if (f.Den.Words.length:Int) > (f.Num.Words.length:Int)then (f.Den.Words.length:Int)else (f.Num.Words.length:Int)) > 256))then (
    some ((ZnA.mk (ZnB.mk false ([]:(List Int))) (ZnB.mk false ([]:(List Int)))),3)
   )else (
    some (f,0)
   )
  )
 )
def Zpb (a:ZnA) (b:ZnA):Option (ZnA×Int):=
 (Zop a).bind fun q=>
 bif (!q)then (
  ZoD true a b false false ([]:(List Int)) ([]:(List Int))
 )else (
  (Zop b).bind fun q_1=>
  ZoD (!q_1) a b false false ([]:(List Int)) ([]:(List Int))
 )
def ZsO (a:ZnA) (b:ZnA):Option (ZnA×Int):=
 (Zpb a b).bind fun(q,q_1)=>
 some (q,q_1)
def ZuF (a:ZnA) (b:ZnA):Option ZnA:=
 (ZsO a b).bind fun(q,q_1)=>
 (Zsg q q_1).bind fun q_2=>
 some q_2
def Zq0 (t4:Bool) (t4_1:Bool) (values:ZnA) (Zky:ZnA) (apart:ZnA) (t4_2:(List Int)) (t4_3:(List Int)):Option ZnA:=
 (ZtS values values).bind fun q=>
 (ZtS q Zky).bind fun q_1=>
 (Ztj 1 1).bind fun q_2=>
 (ZtR q_2 apart).bind fun q_3=>
 (ZtS q_1 q_3).bind fun sum=>
 (Ztj 4 1).bind fun q_4=>
 (ZuF sum q_4).bind fun q_5=>
 some q_5
def Zqa (t24:Bool) (a:ZnJ) (b:ZnJ) (t4:Bool) (t4_1:Bool) (values:ZnA) (Zky:ZnA) (t4_2:(List Int)) (t4_3:(List Int)):Option ZnA:=
 bif t24 then (
  (Zsx).bind fun q=>
  some q
 )else (
  (ZoT a).bind fun q_1=>
  (ZoT b).bind fun q_2=>
  (ZtR q_1 q_2).bind fun apart=>
  (Zte apart).bind fun q_3=>
  bif (decide (q_3 < 0))then (
   (Zsx).bind fun q_4=>
   (ZtR q_4 apart).bind fun apart_1=>
   Zq0 t4 t4_1 values Zky apart_1 t4_2 t4_3
  )else (
   Zq0 t4 t4_1 values Zky apart t4_2 t4_3
  )
 )
def Zrz (a:ZnJ) (b:ZnJ):Option ZnA:=
 (ZqB a b).bind fun values=>
 (Zqb a.Name b.Name).bind fun Zky=>
 (Zte values).bind fun q=>
 bif (q == 0)then (
  (Zte Zky).bind fun q_1=>
  Zqa (q_1 == 0) a b false false values Zky ([]:(List Int)) ([]:(List Int))
 )else (
  Zqa false a b false false values Zky ([]:(List Int)) ([]:(List Int))
 )
def ZsC (w_:(List Int)):Option (List Int):=
 some w_
def ZqQ (rec_:(List Int)→Option (List Int)) (w_:(List Int)) (t14:Bool):Option (List Int):=
 bif t14 then (
  chk (inK .i64 ((w_.length:Int) - 1)) <|
  chk (Zb9 0 ((w_.length:Int) - 1) (w_.length:Int)) <|
  rec_ (w_.take (((w_.length:Int) - 1)).toNat)
 )else (
  some w_
 )
def Zr2 (rec_:(List Int)→Option (List Int)) (w_:(List Int)):Option (List Int):=
 bif (decide ((w_.length:Int) > 0))then (
  chk (inK .i64 ((w_.length:Int) - 1)) <|
  (idx w_ ((w_.length:Int) - 1)).bind fun w__e=>
  ZqQ rec_ w_ (w__e == 0)
 )else (
  ZqQ rec_ w_ false
 )
def Zn3:Nat→(List Int)→Option (List Int)
 |0,_=>none
 |n_+1,w_=>Zr2 (Zn3 n_) w_
def ZnO (w_:(List Int)):Option (List Int):=
 (Zn3 big w_).bind fun x0=>ZsC x0
def ZpY (t4:ZnB):Option ZnB:=
 some t4
def Zob (neg:Bool) (w_:(List Int)):Option ZnB:=
 (ZnO w_).bind fun w__1=>
 bif neg then (
  ZpY (ZnB.mk (decide ((w__1.length:Int) > 0)) w__1)
 )else (
  ZpY (ZnB.mk false w__1)
 )
def Zo8 (n:Int) (u:Int) (t2:Bool) (t2_1:(List Int)):Option ZnB:=
 chk (decide (0≤(32:Int))) <|
 (Zob (decide (n < 0)) ([(IntKind.wrap .u32 u),(IntKind.wrap .u32 (shrK .u64 u 32))]:(List Int))).bind fun q=>
 some q
def Zn4 (n:Int):Option ZnB:=
 bif (decide (n < 0))then (
  Zo8 n (IntKind.wrap .u64 (0 - (IntKind.wrap .u64 n))) false ([]:(List Int))
 )else (
  Zo8 n (IntKind.wrap .u64 n) false ([]:(List Int))
 )
def ZnP (t2:Bool):Option Bool:=
 some t2
def ZoH (a:ZnB):Option Bool:=
 bif (decide ((a.Words.length:Int)≤256))then (
  bif ((a.Words.length:Int) == 0)then (
   bif (!a.Neg)then (
    ZnP true
   )else (
    bif (decide ((a.Words.length:Int) > 0))then (
     chk (inK .i64 ((a.Words.length:Int) - 1)) <|
     (idx a.Words ((a.Words.length:Int) - 1)).bind fun Word=>
     ZnP (Word != 0)
    )else (
     ZnP false
    )
   )
  )else (
   bif (decide ((a.Words.length:Int) > 0))then (
    chk (inK .i64 ((a.Words.length:Int) - 1)) <|
    (idx a.Words ((a.Words.length:Int) - 1)).bind fun Word_1=>
    ZnP (Word_1 != 0)
   )else (
    ZnP false
   )
  )
 )else (
  ZnP false
 )
def ZqR (out:(List Int)):Option (List Int):=
 (ZnO out).bind fun q=>
 some q
def ZoR (rec_:(List Int)→Int→Int→(List Int)→Option (List Int)) (a:(List Int)) (t9:Int) (i:Int) (out:(List Int)):Option (List Int):=
 chk (inK .i64 (i+1)) <|
 rec_ a t9 (i+1) out
def Zpi (rec_:(List Int)→Int→Int→(List Int)→Option (List Int)) (a:(List Int)) (t9:Int) (i:Int) (out:(List Int)):Option (List Int):=
 bif (decide (i < t9))then (
  chk (inR i (out.length:Int)) <|
  (out[(i).toNat]?).bind fun out_e=>
  chk (decide (0≤(1:Int))) <|
  chk (inR i (out.length:Int)) <|
  chk (inK .i64 (i+1)) <|
  bif (decide ((i+1) < (a.length:Int)))then (
   chk (inR i ((out.set ((i).toNat) (shrK .u32 out_e 1)).length:Int)) <|
   ((out.set ((i).toNat) (shrK .u32 out_e 1))[(i).toNat]?).bind fun e_e=>
   chk (inK .i64 (i+1)) <|
   (idx a (i+1)).bind fun a_e=>
   chk (decide (0≤(31:Int))) <|
   chk (inR i ((out.set ((i).toNat) (shrK .u32 out_e 1)).length:Int)) <|
   ZoR rec_ a t9 i ((out.set ((i).toNat) (shrK .u32 out_e 1)).set ((i).toNat) (orK .u32 e_e (shlK .u32 a_e 31)))
  )else (
   ZoR rec_ a t9 i (out.set ((i).toNat) (shrK .u32 out_e 1))
  )
 )else (
  some out
 )
def ZoQ:Nat→(List Int)→Int→Int→(List Int)→Option (List Int)
 |0,_,_,_,_=>none
 |n_+1,a,t9,i,out=>Zpi (ZoQ n_) a t9 i out
def Zr3 (n:Nat) (s:((List Int)×Int×Int×(List Int))):Option (List Int):=ZoQ n s.1 s.2.1 s.2.2.1 s.2.2.2
def Zqn (rec_:((List Int)×Int×Int×(List Int))→Option (List Int)) (s:((List Int)×Int×Int×(List Int))):Option (List Int):=Zpi (fun a t9 i out=>rec_ (a,t9,i,out)) s.1 s.2.1 s.2.2.1 s.2.2.2
theorem Ztv:∀n s,Zr3 (n+1) s=Zqn (Zr3 n) s:=fun _ _=>rfl
def Zn7 (a:(List Int)):Option (List Int):=
 chk (ZiZ (([]:(List Int)).length+a.length) 4) <|
 (ZoQ big a ((([]:(List Int))++a).length:Int) (0:Int) (([]:(List Int))++a)).bind fun x0=>ZqR x0
def Zrg:Option Int:=
 some (0:Int)
def Zpn (rec_:(List Int)→(List Int)→Int→Option (Out Unit Int)) (a:(List Int)) (b:(List Int)) (i:Int):Option (Out Unit Int):=
 bif (decide (i≥0))then (
  (idx a i).bind fun a_e=>
  (idx b i).bind fun b_e=>
  bif (decide (a_e < b_e))then (
   some (.ret (-1:Int))
  )else (
   (idx a i).bind fun a_e_1=>
   (idx b i).bind fun b_e_1=>
   bif (decide (a_e_1 > b_e_1))then (
    some (.ret (1:Int))
   )else (
    chk (inK .i64 (i - 1)) <|
    rec_ a b (i - 1)
   )
  )
 )else (
  some (.brk ())
 )
def ZpX:Nat→(List Int)→(List Int)→Int→Option (Out Unit Int)
 |0,_,_,_=>none
 |n_+1,a,b,i=>Zpn (ZpX n_) a b i
def Zse (n:Nat) (s:((List Int)×(List Int)×Int)):Option (Out Unit Int):=ZpX n s.1 s.2.1 s.2.2
def Zqz (rec_:((List Int)×(List Int)×Int)→Option (Out Unit Int)) (s:((List Int)×(List Int)×Int)):Option (Out Unit Int):=Zpn (fun a b i=>rec_ (a,b,i)) s.1 s.2.1 s.2.2
theorem ZtI:∀n s,Zse (n+1) s=Zqz (Zse n) s:=fun _ _=>rfl
def ZoX (a:(List Int)) (b:(List Int)):Option Int:=
 bif ((a.length:Int) != (b.length:Int))then (
  bif (decide ((a.length:Int) < (b.length:Int)))then (
   some (-1:Int)
  )else (
   some (1:Int)
  )
 )else (
  chk (inK .i64 ((a.length:Int) - 1)) <|
  (ZpX big a b ((a.length:Int) - 1)).bind fun
   | .ret q_=>some q_
   | .brk ()=>Zrg
 )
def Zq9 (out:(List Int)):Option (List Int):=
 (ZnO out).bind fun q=>
 some q
def Zo0 (rec_:(List Int)→(List Int)→Int→Int→(List Int)→Option (List Int)) (a:(List Int)) (b:(List Int)) (c:Int) (i:Int) (out:(List Int)):Option (List Int):=
 chk (ZiZ (out.length+([(IntKind.wrap .u32 c)]:(List Int)).length) 4) <|
 chk (decide (0≤(32:Int))) <|
 chk (inK .i64 (i+1)) <|
 rec_ a b (shrK .i64 c 32) (i+1) (out++([(IntKind.wrap .u32 c)]:(List Int)))
def Zpl (rec_:(List Int)→(List Int)→Int→Int→(List Int)→Option (List Int)) (a:(List Int)) (b:(List Int)) (c:Int) (i:Int) (out:(List Int)):Option (List Int):=
 bif (decide (i < (a.length:Int)))then (
  (idx a i).bind fun a_e=>
  chk (inK .i64 (c+(IntKind.wrap .i64 a_e))) <|
  bif (decide (i < (b.length:Int)))then (
   (idx b i).bind fun b_e=>
   chk (inK .i64 ((c+(IntKind.wrap .i64 a_e)) - (IntKind.wrap .i64 b_e))) <|
   Zo0 rec_ a b ((c+(IntKind.wrap .i64 a_e)) - (IntKind.wrap .i64 b_e)) i out
  )else (
   Zo0 rec_ a b (c+(IntKind.wrap .i64 a_e)) i out
  )
 )else (
  some out
 )
def ZoZ:Nat→(List Int)→(List Int)→Int→Int→(List Int)→Option (List Int)
 |0,_,_,_,_,_=>none
 |n_+1,a,b,c,i,out=>Zpl (ZoZ n_) a b c i out
def Zsc (n:Nat) (s:((List Int)×(List Int)×Int×Int×(List Int))):Option (List Int):=ZoZ n s.1 s.2.1 s.2.2.1 s.2.2.2.1 s.2.2.2.2
def Zqv (rec_:((List Int)×(List Int)×Int×Int×(List Int))→Option (List Int)) (s:((List Int)×(List Int)×Int×Int×(List Int))):Option (List Int):=Zpl (fun a b c i out=>rec_ (a,b,c,i,out)) s.1 s.2.1 s.2.2.1 s.2.2.2.1 s.2.2.2.2
theorem ZtG:∀n s,Zsc (n+1) s=Zqv (Zsc n) s:=fun _ _=>rfl
def ZoV (a:(List Int)) (b:(List Int)):Option (List Int):=
 (ZoZ big a b (0:Int) (0:Int) ([]:(List Int))).bind fun x0=>Zq9 x0
def Zqu (d:Int) (out:(List Int)):Option (List Int):=
 chk (ZiZ (out.length+([d]:(List Int)).length) 4) <|
 (ZnO (out++([d]:(List Int)))).bind fun q=>
 some q
def Zo7 (rec_:(List Int)→Int→Int→(List Int)→Option (Int×(List Int))) (a:(List Int)) (d:Int) (i:Int) (out:(List Int)):Option (Int×(List Int)):=
 bif (decide (i < (a.length:Int)))then (
  (idx a i).bind fun a_e=>
  chk (decide (0≤(1:Int))) <|
  chk (ZiZ (out.length+([(orK .u32 (shlK .u32 a_e 1) d)]:(List Int)).length) 4) <|
  (idx a i).bind fun a_e_1=>
  chk (decide (0≤(31:Int))) <|
  chk (inK .i64 (i+1)) <|
  rec_ a (shrK .u32 a_e_1 31) (i+1) (out++([(orK .u32 (shlK .u32 a_e 1) d)]:(List Int)))
 )else (
  some (d,out)
 )
def Zpk:Nat→(List Int)→Int→Int→(List Int)→Option (Int×(List Int))
 |0,_,_,_,_=>none
 |n_+1,a,d,i,out=>Zo7 (Zpk n_) a d i out
def ZrT (n:Nat) (s:((List Int)×Int×Int×(List Int))):Option (Int×(List Int)):=Zpk n s.1 s.2.1 s.2.2.1 s.2.2.2
def Zqg (rec_:((List Int)×Int×Int×(List Int))→Option (Int×(List Int))) (s:((List Int)×Int×Int×(List Int))):Option (Int×(List Int)):=Zo7 (fun a d i out=>rec_ (a,d,i,out)) s.1 s.2.1 s.2.2.1 s.2.2.2
theorem Ztk:∀n s,ZrT (n+1) s=Zqg (ZrT n) s:=fun _ _=>rfl
def ZoA (a:(List Int)) (d:Int):Option (List Int):=
 (Zpk big a d (0:Int) ([]:(List Int))).bind fun(x0,x1)=>Zqu x0 x1
def Zra (a:(List Int)):Option (List Int):=
 some a
def ZoE (rec_:(List Int)→Int→Option (List Int)) (a:(List Int)) (k:Int):Option (List Int):=
 bif (decide (k > 0))then (
  (ZoA a 0).bind fun a_1=>
  chk (inK .i64 (k - 1)) <|
  rec_ a_1 (k - 1)
 )else (
  some a
 )
def Zos:Nat→(List Int)→Int→Option (List Int)
 |0,_,_=>none
 |n_+1,a,k=>ZoE (Zos n_) a k
def Zrb (a:(List Int)) (k:Int):Option (List Int):=
 (Zos big a k).bind fun x0=>Zra x0
def ZpV (rec_:(List Int)→(List Int)→Int→Option ((List Int)×Int)) (a:(List Int)) (b:(List Int)) (k:Int):Option ((List Int)×Int):=
 (ZoV b a).bind fun b_1=>
 rec_ a b_1 k
def Zrc (rec_:(List Int)→(List Int)→Int→Option ((List Int)×Int)) (a:(List Int)) (b:(List Int)) (k:Int):Option ((List Int)×Int):=
 (ZoX a b).bind fun q=>
 bif (decide (q > 0))then (
  ZpV rec_ b a k
 )else (
  ZpV rec_ a b k
 )
def Zqw (rec_:(List Int)→(List Int)→Int→Option ((List Int)×(List Int)×Int)) (a:(List Int)) (b:(List Int)) (k:Int):Option ((List Int)×(List Int)×Int):=
 (idx b 0).bind fun b_e=>
 bif ((andK .u32 b_e 1) == 0)then (
  (Zn7 b).bind fun b_1=>
  rec_ a b_1 k
 )else (
  some (a,b,k)
 )
def ZnU:Nat→(List Int)→(List Int)→Int→Option ((List Int)×(List Int)×Int)
 |0,_,_,_=>none
 |n_+1,a,b,k=>Zqw (ZnU n_) a b k
def Zrd (rec_:(List Int)→(List Int)→Int→Option ((List Int)×Int)) (a:(List Int)) (b:(List Int)) (k:Int):Option ((List Int)×Int):=
 (ZnU big a b k).bind fun(x0,x1,x2)=>Zrc rec_ x0 x1 x2
def ZoF (rec_:(List Int)→(List Int)→Int→Option ((List Int)×(List Int)×Int)) (a:(List Int)) (b:(List Int)) (k:Int):Option ((List Int)×(List Int)×Int):=
 (idx a 0).bind fun a_e=>
 bif ((andK .u32 a_e 1) == 0)then (
  (Zn7 a).bind fun a_1=>
  rec_ a_1 b k
 )else (
  some (a,b,k)
 )
def ZnV:Nat→(List Int)→(List Int)→Int→Option ((List Int)×(List Int)×Int)
 |0,_,_,_=>none
 |n_+1,a,b,k=>ZoF (ZnV n_) a b k
def ZoG (rec_:(List Int)→(List Int)→Int→Option ((List Int)×Int)) (a:(List Int)) (b:(List Int)) (k:Int):Option ((List Int)×Int):=
 bif (decide ((b.length:Int) > 0))then (
  (ZnV big a b k).bind fun(x0,x1,x2)=>Zrd rec_ x0 x1 x2
 )else (
  some (a,k)
 )
def ZnL:Nat→(List Int)→(List Int)→Int→Option ((List Int)×Int)
 |0,_,_,_=>none
 |n_+1,a,b,k=>ZoG (ZnL n_) a b k
def Zre (a:(List Int)) (b:(List Int)) (k:Int):Option (List Int):=
 (ZnL big a b k).bind fun(x0,x1)=>Zrb x0 x1
def ZpW (rec_:(List Int)→(List Int)→Int→Option ((List Int)×(List Int)×Int)) (a:(List Int)) (b:(List Int)) (k:Int) (t17:Bool):Option ((List Int)×(List Int)×Int):=
 bif t17 then (
  (Zn7 a).bind fun a_1=>
  (Zn7 b).bind fun b_1=>
  chk (inK .i64 (k+1)) <|
  rec_ a_1 b_1 (k+1)
 )else (
  some (a,b,k)
 )
def Zqx (rec_:(List Int)→(List Int)→Int→Option ((List Int)×(List Int)×Int)) (a:(List Int)) (b:(List Int)) (k:Int):Option ((List Int)×(List Int)×Int):=
 (idx a 0).bind fun a_e=>
 bif ((andK .u32 a_e 1) == 0)then (
  (idx b 0).bind fun b_e=>
  ZpW rec_ a b k ((andK .u32 b_e 1) == 0)
 )else (
  ZpW rec_ a b k false
 )
def Zot:Nat→(List Int)→(List Int)→Int→Option ((List Int)×(List Int)×Int)
 |0,_,_,_=>none
 |n_+1,a,b,k=>Zqx (Zot n_) a b k
def ZpI (a:(List Int)) (b:(List Int)):Option (List Int):=
 (Zot big a b (0:Int)).bind fun(x0,x1,x2)=>Zre x0 x1 x2
def ZpJ (a:(List Int)) (i:Int):Option Int:=
 chk (decide ((32:Int)≠0)) <|
 chk (inK .i64 (Int.tdiv i 32)) <|
 (idx a (Int.tdiv i 32)).bind fun a_e=>
 chk (decide ((32:Int)≠0)) <|
 chk (decide (0≤(IntKind.wrap .u64 (Int.tmod i 32)))) <|
 some (andK .u32 (shrK .u32 a_e (IntKind.wrap .u64 (Int.tmod i 32))) 1)
def Zrf (r_:(List Int)) (q:(List Int)):Option ((List Int)×(List Int)):=
 (ZnO q).bind fun q_1=>
 some (q_1,r_)
def Zo3 (rec_:(List Int)→(List Int)→(List Int)→Int→(List Int)→Option ((List Int)×(List Int))) (a:(List Int)) (b:(List Int)) (r_:(List Int)) (i:Int) (q:(List Int)):Option ((List Int)×(List Int)):=
 chk (inK .i64 (i - 1)) <|
 rec_ a b r_ (i - 1) q
def Zpm (rec_:(List Int)→(List Int)→(List Int)→Int→(List Int)→Option ((List Int)×(List Int))) (a:(List Int)) (b:(List Int)) (r_:(List Int)) (i:Int) (q:(List Int)):Option ((List Int)×(List Int)):=
 bif (decide (i≥0))then (
  (ZpJ a i).bind fun q_1=>
  (ZoA r_ q_1).bind fun r__1=>
  (ZoX r__1 b).bind fun q_2=>
  bif (decide (q_2≥0))then (
   (ZoV r__1 b).bind fun r__2=>
   chk (decide ((32:Int)≠0)) <|
   chk (inK .i64 (Int.tdiv i 32)) <|
   chk (inR (Int.tdiv i 32) (q.length:Int)) <|
   (q[((Int.tdiv i 32)).toNat]?).bind fun q_e=>
   chk (decide ((32:Int)≠0)) <|
   chk (decide (0≤(IntKind.wrap .u64 (Int.tmod i 32)))) <|
   chk (inR (Int.tdiv i 32) (q.length:Int)) <|
   Zo3 rec_ a b r__2 i (q.set (((Int.tdiv i 32)).toNat) (orK .u32 q_e (shlK .u32 1 (IntKind.wrap .u64 (Int.tmod i 32)))))
  )else (
   Zo3 rec_ a b r__1 i q
  )
 )else (
  some (r_,q)
 )
def Zo2:Nat→(List Int)→(List Int)→(List Int)→Int→(List Int)→Option ((List Int)×(List Int))
 |0,_,_,_,_,_=>none
 |n_+1,a,b,r_,i,q=>Zpm (Zo2 n_) a b r_ i q
def Zsd (n:Nat) (s:((List Int)×(List Int)×(List Int)×Int×(List Int))):Option ((List Int)×(List Int)):=Zo2 n s.1 s.2.1 s.2.2.1 s.2.2.2.1 s.2.2.2.2
def Zqy (rec_:((List Int)×(List Int)×(List Int)×Int×(List Int))→Option ((List Int)×(List Int))) (s:((List Int)×(List Int)×(List Int)×Int×(List Int))):Option ((List Int)×(List Int)):=Zpm (fun a b r_ i q=>rec_ (a,b,r_,i,q)) s.1 s.2.1 s.2.2.1 s.2.2.2.1 s.2.2.2.2
theorem ZtH:∀n s,Zsd (n+1) s=Zqy (Zsd n) s:=fun _ _=>rfl
def ZoW (a:(List Int)) (b:(List Int)):Option ((List Int)×(List Int)):=
 chk (mkOk (a.length:Int) (a.length:Int) 4) <|
 chk (inK .i64 (32*(a.length:Int))) <|
 chk (inK .i64 ((32*(a.length:Int)) - 1)) <|
 (Zo2 big a b ([]:(List Int)) ((32*(a.length:Int)) - 1) (List.replicate ((a.length:Int)).toNat (0:Int))).bind fun(x0,x1)=>Zrf x0 x1
def Zo1 (num:ZnB) (den:ZnB):Option ZnA:=
 bif ((num.Words.length:Int) == 0)then (
  (Zn4 1).bind fun q=>
  some (ZnA.mk (ZnB.mk false ([]:(List Int))) q)
 )else (
  (ZpI num.Words den.Words).bind fun g=>
  (ZoW num.Words g).bind fun(x_,q_1)=>
  (ZoW den.Words g).bind fun(y,q_2)=>
  (Zob (!(num.Neg == den.Neg)) x_).bind fun q_3=>
  (Zob false y).bind fun q_4=>
  some (ZnA.mk q_3 q_4)
 )
def ZpD (t13:Bool) (num:ZnB) (den:ZnB) (t4:Bool) (t4_1:Bool) (t4_2:(List Int)) (t4_3:(List Int)):Option (ZnA×Int):=
 bif t13 then (
  some ((ZnA.mk (ZnB.mk false ([]:(List Int))) (ZnB.mk false ([]:(List Int)))),1)
 )else (
  bif ((den.Words.length:Int) == 0)then (
   some ((ZnA.mk (ZnB.mk false ([]:(List Int))) (ZnB.mk false ([]:(List Int)))),8)
  )else (
   (Zo1 num den).bind fun q=>
   some (q,0)
  )
 )
def Zpo (num:ZnB) (den:ZnB):Option (ZnA×Int):=
 (ZoH num).bind fun q=>
 bif (!q)then (
  ZpD true num den false false ([]:(List Int)) ([]:(List Int))
 )else (
  (ZoH den).bind fun q_1=>
  ZpD (!q_1) num den false false ([]:(List Int)) ([]:(List Int))
 )
def Zp2 (num:Int) (den:Int):Option (ZnA×Int):=
 (Zn4 num).bind fun q=>
 (Zn4 den).bind fun q_1=>
 (Zpo q q_1).bind fun(q_2,q_3)=>
 some (q_2,q_3)
def ZrL (n:Int) (d:Int):Option ZnA:=
 (Zp2 n d).bind fun(f,q)=>
 some f
def Zor (n:Int) (d:Int):Option ZnA:=ZvJ (ZrL n d)
def ZrZ (n:Int):Option ZnA:=
 (Zor n 1).bind fun q=>
 some q
def Zoz (n:Int):Option ZnA:=ZvJ (ZrZ n)
def Zqf:Option Bool:=
 some true
def ZoN (rec_:(List Int)→Int→Int→ZnB→Option (Out Unit Bool)) (t22:(List Int)) (t23:Int) (i:Int) (b:ZnB):Option (Out Unit Bool):=
 bif (decide (i < t23))then (
  (idx t22 i).bind fun w_=>
  (idx b.Words i).bind fun Word=>
  bif (Word != w_)then (
   some (.ret false)
  )else (
   chk (inK .i64 (i+1)) <|
   rec_ t22 t23 (i+1) b
  )
 )else (
  some (.brk ())
 )
def Zo5:Nat→(List Int)→Int→Int→ZnB→Option (Out Unit Bool)
 |0,_,_,_,_=>none
 |n_+1,t22,t23,i,b=>ZoN (Zo5 n_) t22 t23 i b
def Zrx (n:Nat) (s:((List Int)×Int×Int×ZnB)):Option (Out Unit Bool):=Zo5 n s.1 s.2.1 s.2.2.1 s.2.2.2
def ZpM (rec_:((List Int)×Int×Int×ZnB)→Option (Out Unit Bool)) (s:((List Int)×Int×Int×ZnB)):Option (Out Unit Bool):=ZoN (fun t22 t23 i b=>rec_ (t22,t23,i,b)) s.1 s.2.1 s.2.2.1 s.2.2.2
theorem Ztb:∀n s,Zrx (n+1) s=ZpM (Zrx n) s:=fun _ _=>rfl
def Zo6 (t20:Bool) (a:ZnB) (b:ZnB):Option Bool:=
 bif t20 then (
  some false
 )else (
  (Zo5 big a.Words (a.Words.length:Int) (0:Int) b).bind fun
   | .ret q_=>some q_
   | .brk ()=>Zqf
 )
def Zom (a:ZnB) (b:ZnB):Option Bool:=
 bif (!(a.Neg == b.Neg))then (
  Zo6 true a b
 )else (
  Zo6 ((a.Words.length:Int) != (b.Words.length:Int)) a b
 )
def ZpC (t4:Bool):Option Bool:=
 some t4
def Zoo (a:ZnA) (b:ZnA):Option Bool:=
 (Zom a.Num b.Num).bind fun q=>
 bif q then (
  (Zom a.Den b.Den).bind fun q_1=>
  ZpC q_1
 )else (
  ZpC false
 )
def ZoI (t0:Bool):Option Bool:=
 some t0
def ZoB:Option Bool:=
 (ZnX ([85,110,105,116,32,80,114,105,99,101,95,50]:Str)).bind fun q=>
 (ZnT q ([([50]:Str),([112,114,105,99,101]:Str),([117,110,105,116]:Str)]:(List Str))).bind fun q_1=>
 bif q_1 then (
  (Zrz (ZnJ.mk ([85,110,105,116,32,80,114,105,99,101,95,50]:Str) ([(ZnG.mk false ([49]:Str)),(ZnG.mk false ([120]:Str))]:(List ZnG))) (ZnJ.mk ([85,110,105,116,32,80,114,105,99,101,95,50]:Str) ([(ZnG.mk false ([49]:Str)),(ZnG.mk false ([120]:Str))]:(List ZnG)))).bind fun q_2=>
  (Zoz 1).bind fun q_3=>
  (Zoo q_2 q_3).bind fun q_4=>
  bif q_4 then (
   (ZoT (ZnJ.mk ([85,110,105,116,32,80,114,105,99,101,95,50]:Str) ([(ZnG.mk false ([49]:Str)),(ZnG.mk false ([120]:Str))]:(List ZnG)))).bind fun q_5=>
   (Zor 1 2).bind fun q_6=>
   (Zoo q_5 q_6).bind fun q_7=>
   ZoI q_7
  )else (
   ZoI false
  )
 )else (
  ZoI false
 )
def ZqZ (t:(List Int)):Option ZnD:=
 some (ZnD.mk t 0)
def Zqk (n:Int) (m:Int):Option Int:=
 bif (decide (m < 1))then (
  some (0:Int)
 )else (
  chk (decide (m≠0)) <|
  chk (inK .i64 ((Int.tmod n m)+m)) <|
  chk (decide (m≠0)) <|
  some (Int.tmod ((Int.tmod n m)+m) m)
 )
def Zn5 (d:ZnD) (n:Int):Option (Int×ZnD):=
 bif (decide (d.at_≥(d.l.length:Int)))then (
  some (0,d)
 )else (
  chk (inK .i64 (d.at_+1)) <|
  chk (inK .i64 ((d.at_+1) - 1)) <|
  (idx d.l ((d.at_+1) - 1)).bind fun l_e=>
  (Zqk l_e n).bind fun q=>
  some (q,(ZnD.mk d.l (d.at_+1)))
 )
def Zon (d:ZnD) (l:(List Str)):Option (Str×ZnD):=
 (Zn5 d (l.length:Int)).bind fun(q,t6)=>
 (idx l q).bind fun l_e=>
 some (l_e,t6)
def Zoh (t2:Bool):Option Bool:=
 some t2
def Zof (a:Str) (b:Str) (x_:(List Str)):Option Bool:=
 (Zqb a b).bind fun q=>
 (Zoz (if (x_.length:Int) < (1:Int)then (x_.length:Int)else (1:Int))).bind fun q_1=>
 (Zoo q q_1).bind fun q_2=>
 bif q_2 then (
  (ZoB).bind fun q_3=>
  Zoh q_3
 )else (
  Zoh false
 )
def Zn8 (rec_:Str→Str→(List Str)→(List Str)→Int→Int→Option (Out (Str×Str×(List Str)) Bool)) (a:Str) (b:Str) (x_:(List Str)) (t52:(List Str)) (t53:Int) (t54:Int):Option (Out (Str×Str×(List Str)) Bool):=
 bif (decide (t54 < t53))then (
  (idx t52 t54).bind fun w_=>
  (ZnX w_).bind fun q=>
  (ZnT q ([w_]:(List Str))).bind fun q_1=>
  bif (!q_1)then (
   some (.ret false)
  )else (
   chk (inK .i64 (t54+1)) <|
   rec_ a b x_ t52 t53 (t54+1)
  )
 )else (
  some (.brk (a,b,x_))
 )
def ZnR:Nat→Str→Str→(List Str)→(List Str)→Int→Int→Option (Out (Str×Str×(List Str)) Bool)
 |0,_,_,_,_,_,_=>none
 |n_+1,a,b,x_,t52,t53,t54=>Zn8 (ZnR n_) a b x_ t52 t53 t54
def Zp3 (n:Nat) (s:(Str×Str×(List Str)×(List Str)×Int×Int)):Option (Out (Str×Str×(List Str)) Bool):=ZnR n s.1 s.2.1 s.2.2.1 s.2.2.2.1 s.2.2.2.2.1 s.2.2.2.2.2
def ZoJ (rec_:(Str×Str×(List Str)×(List Str)×Int×Int)→Option (Out (Str×Str×(List Str)) Bool)) (s:(Str×Str×(List Str)×(List Str)×Int×Int)):Option (Out (Str×Str×(List Str)) Bool):=Zn8 (fun a b x_ t52 t53 t54=>rec_ (a,b,x_,t52,t53,t54)) s.1 s.2.1 s.2.2.1 s.2.2.2.1 s.2.2.2.2.1 s.2.2.2.2.2
theorem Zr7:∀n s,Zp3 (n+1) s=ZoJ (Zp3 n) s:=fun _ _=>rfl
def Zog (a:Str) (b:Str):Option Bool:=
 (ZnX a).bind fun x_=>
 (ZnX b).bind fun y=>
 (ZnT x_ y).bind fun q=>
 bif (!q)then (
  some false
 )else (
  (ZnR big a b x_ x_ (x_.length:Int) (0:Int)).bind fun
   | .ret q_=>some q_
   | .brk (x0,x1,x2)=>Zof x0 x1 x2
 )
def Zn9 (rec_:Str→Str→Int→Int→ZnD→Option (Str×Str)) (a:Str) (b:Str) (t18:Int) (t19:Int) (d:ZnD):Option (Str×Str):=
 bif (decide (t19 < t18))then (
  (Zn5 d 4).bind fun(n,t21)=>
  chk (inR n (([([117,110,105,116]:Str),([112,114,105,99,101]:Str),([120,50]:Str),([105,100]:Str)]:(List Str)).length:Int)) <|
  (([([117,110,105,116]:Str),([112,114,105,99,101]:Str),([120,50]:Str),([105,100]:Str)]:(List Str))[(n).toNat]?).bind fun Str_e=>
  (Zon t21 ([([32]:Str),([95]:Str),([45,45]:Str),([47]:Str)]:(List Str))).bind fun(q,t28)=>
  chk (decide (Str_e.length+q.length≤Zq)) <|
  chk (decide (a.length+(Str_e++q).length≤Zq)) <|
  chk (inR n (([([85,78,73,84]:Str),([80,114,105,99,101]:Str),([88,50]:Str),([105,68]:Str)]:(List Str)).length:Int)) <|
  (([([85,78,73,84]:Str),([80,114,105,99,101]:Str),([88,50]:Str),([105,68]:Str)]:(List Str))[(n).toNat]?).bind fun Str_e_1=>
  (Zon t28 ([([46]:Str),([32]:Str),([95]:Str)]:(List Str))).bind fun(q_1,t37)=>
  chk (decide (Str_e_1.length+q_1.length≤Zq)) <|
  chk (decide ((Str_e_1++q_1).length+b.length≤Zq)) <|
  chk (inK .i64 (t19+1)) <|
  rec_ (a++(Str_e++q)) ((Str_e_1++q_1)++b) t18 (t19+1) t37
 )else (
  some (a,b)
 )
def Zoe:Nat→Str→Str→Int→Int→ZnD→Option (Str×Str)
 |0,_,_,_,_,_=>none
 |n_+1,a,b,t18,t19,d=>Zn9 (Zoe n_) a b t18 t19 d
def Zp4 (n:Nat) (s:(Str×Str×Int×Int×ZnD)):Option (Str×Str):=Zoe n s.1 s.2.1 s.2.2.1 s.2.2.2.1 s.2.2.2.2
def ZoK (rec_:(Str×Str×Int×Int×ZnD)→Option (Str×Str)) (s:(Str×Str×Int×Int×ZnD)):Option (Str×Str):=Zn9 (fun a b t18 t19 d=>rec_ (a,b,t18,t19,d)) s.1 s.2.1 s.2.2.1 s.2.2.2.1 s.2.2.2.2
theorem Zr8:∀n s,Zp4 (n+1) s=ZoK (Zp4 n) s:=fun _ _=>rfl
def Zoq (t:(List Int)):Option Bool:=
 (ZqL t).bind fun q=>
 bif (!q)then (
  (ZoB).bind fun q_1=>
  some q_1
 )else (
  (ZqZ t).bind fun d=>
  (Zn5 d 6).bind fun(q_2,t17)=>
  (Zoe big ([]:Str) ([]:Str) q_2 (0:Int) t17).bind fun(x0,x1)=>Zog x0 x1
 )
end
end Go.Proofs
