/- Printed by wip/tools/tgen.py: specs. -/
import Derived.Test.YthefajbigloihaaGreatDoorE4
import Derived.Lib.Bytealg
import Derived.Lib.ItoaNum
import Derived.Lib.SlTrimSet
import Derived.Shelf.Strconv.Itoa3
import Derived.Test.YthefajbigloihaaGreatDoorSlWD
set_option linter.unusedVariables false
set_option linter.unusedSimpArgs false
set_option linter.unusedSectionVars false
namespace Go.Proofs
open Go Eng
set_option maxRecDepth 100000
noncomputable section
structure ZnC where
 Null:Bool
 Text:Str
 deriving DecidableEq,Inhabited
structure ZnG where
 Name:Str
 Cells:(List ZnC)
 deriving DecidableEq,Inhabited
structure ZnE where
 Neg:Bool
 Words:(List Int)
 deriving DecidableEq,Inhabited
structure ZnA where
 Num:ZnE
 Den:ZnE
 deriving DecidableEq,Inhabited
structure Zon where
 word:Str
 canonical:(Option Nat)
 value:(Option Nat)
 deriving DecidableEq,Inhabited
structure ZnB where
 l:(List Int)
 at_:Int
 deriving DecidableEq,Inhabited
def Zvu:Nat→Type
 |0=>ZnC
 |1=>ZnG
 |2=>ZnE
 |3=>ZnA
 |4=>Zon
 |5=>ZnB
 |_=>Unit
def ZDs:Nat→Nat
 |0=>2
 |1=>2
 |2=>2
 |3=>4
 |4=>3
 |5=>2
 |_=>0
def Zwf:List (Lf Zvu):=[⟨.sl (.int .u32),([1]:List Int)⟩]
def ZtC:List (Lf Zvu):=(Lib.pow10Tab.map fun n=>⟨.int .u64,n⟩)
def Zrm (t:(List Int)):Option Bool:=
 some (decide ((t.length:Int)≤500))
def Zoz (name:Str):Option (List Str):=
 ZwR (chk (decide (name.length≤1099511627776)) <| some (ZtU (Zvq (name++[32]) [])))
def Zsa:Option Bool:=
 some true
def ZoI (rec_:(List Str)→(List Str)→Int→Int→Option (Out Unit Bool)) (b:(List Str)) (t12:(List Str)) (t13:Int) (i:Int):Option (Out Unit Bool):=
 bif (decide (i < t13))then (
  (idx t12 i).bind fun s=>
  (idx b i).bind fun b_e=>
  bif (!(b_e == s))then (
   some (.ret false)
  )else (
   chk (inK .i64 (i+1)) <|
   rec_ b t12 t13 (i+1)
  )
 )else (
  some (.brk ())
 )
def Zoo:Nat→(List Str)→(List Str)→Int→Int→Option (Out Unit Bool)
 |0,_,_,_,_=>none
 |n_+1,b,t12,t13,i=>ZoI (Zoo n_) b t12 t13 i
def Zrz (n:Nat) (s:((List Str)×(List Str)×Int×Int)):Option (Out Unit Bool):=Zoo n s.1 s.2.1 s.2.2.1 s.2.2.2
def ZpD (rec_:((List Str)×(List Str)×Int×Int)→Option (Out Unit Bool)) (s:((List Str)×(List Str)×Int×Int)):Option (Out Unit Bool):=ZoI (fun b t12 t13 i=>rec_ (b,t12,t13,i)) s.1 s.2.1 s.2.2.1 s.2.2.2
theorem ZtD:∀n s,Zrz (n+1) s=ZpD (Zrz n) s:=fun _ _=>rfl
def ZoJ (a:(List Str)) (b:(List Str)):Option Bool:=
 bif ((a.length:Int) != (b.length:Int))then (
  some false
 )else (
  (Zoo big b a (a.length:Int) (0:Int)).bind fun
   | .ret q_=>some q_
   | .brk ()=>Zsa
 )
def ZqK (c:ZnG):Option (List Str):=
 ZwR (chk (decide (c.Cells.length≤1099511627776)) <| some (ZtU ((c.Cells.filter fun x=> !x.Null).map fun x=>x.Text)))
def ZrH (x_:Str):Option Bool:=
 some (!(x_ == x_))
def ZqP (t4:Bool):Option Bool:=
 some t4
def Zsj (x_:Str) (y:Str):Option Bool:=
 (ZrH x_).bind fun q=>
 bif q then (
  (ZrH y).bind fun q_1=>
  bif (!q_1)then (
   ZqP true
  )else (
   ZqP (Op.bytesLess x_ y)
  )
 )else (
  ZqP (Op.bytesLess x_ y)
 )
def Zqy (x_:Str):Option Bool:=
 some (!(x_ == x_))
def ZnR (t4:Int) (t5:Bool):Option (Int×Bool):=
 some (t4,t5)
def Zo1 (x_:(List Str)) (target:Str) (n:Int) (i:Int):Option (Int×Bool):=
 bif (decide (i < n))then (
  (idx x_ i).bind fun x__e=>
  bif (x__e == target)then (
   ZnR i true
  )else (
   (idx x_ i).bind fun x__e_1=>
   (Zqy x__e_1).bind fun q=>
   bif q then (
    (Zqy target).bind fun q_1=>
    ZnR i q_1
   )else (
    ZnR i false
   )
  )
 )else (
  ZnR i false
 )
def ZoN (rec_:(List Str)→Str→Int→Int→Int→Option ((List Str)×Str×Int×Int)) (x_:(List Str)) (target:Str) (n:Int) (i:Int) (j:Int):Option ((List Str)×Str×Int×Int):=
 bif (decide (i < j))then (
  chk (inK .i64 (i+j)) <|
  chk (decide (0≤(1:Int))) <|
  (idx x_ (IntKind.wrap .i64 (shrK .u64 (IntKind.wrap .u64 (i+j)) 1))).bind fun x__e=>
  (Zsj x__e target).bind fun q=>
  bif q then (
   chk (inK .i64 ((IntKind.wrap .i64 (shrK .u64 (IntKind.wrap .u64 (i+j)) 1))+1)) <|
   rec_ x_ target n ((IntKind.wrap .i64 (shrK .u64 (IntKind.wrap .u64 (i+j)) 1))+1) j
  )else (
   rec_ x_ target n i (IntKind.wrap .i64 (shrK .u64 (IntKind.wrap .u64 (i+j)) 1))
  )
 )else (
  some (x_,target,n,i)
 )
def Zok:Nat→(List Str)→Str→Int→Int→Int→Option ((List Str)×Str×Int×Int)
 |0,_,_,_,_,_=>none
 |n_+1,x_,target,n,i,j=>ZoN (Zok n_) x_ target n i j
def Zql (n:Nat) (s:((List Str)×Str×Int×Int×Int)):Option ((List Str)×Str×Int×Int):=Zok n s.1 s.2.1 s.2.2.1 s.2.2.2.1 s.2.2.2.2
def Zqm (rec_:((List Str)×Str×Int×Int×Int)→Option ((List Str)×Str×Int×Int)) (s:((List Str)×Str×Int×Int×Int)):Option ((List Str)×Str×Int×Int):=ZoN (fun x_ target n i j=>rec_ (x_,target,n,i,j)) s.1 s.2.1 s.2.2.1 s.2.2.2.1 s.2.2.2.2
theorem ZsD:∀n s,Zql (n+1) s=Zqm (Zql n) s:=fun _ _=>rfl
def Zn9 (x_:(List Str)) (target:Str):Option (Int×Bool):=
 (Zok big x_ target (x_.length:Int) (0:Int) (x_.length:Int)).bind fun(x0,x1,x2,x3)=>Zo1 x0 x1 x2 x3
def ZsE (n:Int):Option Int:=
 some n
def Zrn (rec_:(List Str)→Int→(List Str)→Int→Int→Option Int) (b:(List Str)) (n:Int) (t10:(List Str)) (t11:Int) (t12:Int):Option Int:=
 chk (inK .i64 (t12+1)) <|
 rec_ b n t10 t11 (t12+1)
def ZqC (rec_:(List Str)→Int→(List Str)→Int→Int→Option Int) (b:(List Str)) (n:Int) (t10:(List Str)) (t11:Int) (t12:Int):Option Int:=
 bif (decide (t12 < t11))then (
  (idx t10 t12).bind fun s=>
  (Zn9 b s).bind fun(q,ok)=>
  bif ok then (
   chk (inK .i64 (n+1)) <|
   Zrn rec_ b (n+1) t10 t11 t12
  )else (
   Zrn rec_ b n t10 t11 t12
  )
 )else (
  some n
 )
def Zqb:Nat→(List Str)→Int→(List Str)→Int→Int→Option Int
 |0,_,_,_,_,_=>none
 |n_+1,b,n,t10,t11,t12=>ZqC (Zqb n_) b n t10 t11 t12
def ZtB (n:Nat) (s:((List Str)×Int×(List Str)×Int×Int)):Option Int:=Zqb n s.1 s.2.1 s.2.2.1 s.2.2.2.1 s.2.2.2.2
def Zsc (rec_:((List Str)×Int×(List Str)×Int×Int)→Option Int) (s:((List Str)×Int×(List Str)×Int×Int)):Option Int:=ZqC (fun b n t10 t11 t12=>rec_ (b,n,t10,t11,t12)) s.1 s.2.1 s.2.2.1 s.2.2.2.1 s.2.2.2.2
theorem Zu4:∀n s,ZtB (n+1) s=Zsc (ZtB n) s:=fun _ _=>rfl
def Zrb (a:(List Str)) (b:(List Str)):Option Int:=
 (Zqb big b (0:Int) a (a.length:Int) (0:Int)).bind fun x0=>ZsE x0
def Zs3 (w_:(List Int)):Option (List Int):=
 some w_
def ZrC (rec_:(List Int)→Option (List Int)) (w_:(List Int)) (t14:Bool):Option (List Int):=
 bif t14 then (
  chk (inK .i64 ((w_.length:Int) - 1)) <|
  chk (Zb9 0 ((w_.length:Int) - 1) (w_.length:Int)) <|
  rec_ (w_.take (((w_.length:Int) - 1)).toNat)
 )else (
  some w_
 )
def ZqX (rec_:(List Int)→Option (List Int)) (w_:(List Int)):Option (List Int):=
 bif (decide ((w_.length:Int) > 0))then (
  chk (inK .i64 ((w_.length:Int) - 1)) <|
  (idx w_ ((w_.length:Int) - 1)).bind fun w__e=>
  ZrC rec_ w_ (w__e == 0)
 )else (
  ZrC rec_ w_ false
 )
def ZoA:Nat→(List Int)→Option (List Int)
 |0,_=>none
 |n_+1,w_=>ZqX (ZoA n_) w_
def ZtK (n:Nat) (s:(List Int)):Option (List Int):=ZoA n s
def ZtL (rec_:(List Int)→Option (List Int)) (s:(List Int)):Option (List Int):=ZqX (fun w_=>rec_ w_) s
theorem Zu8:∀n s,ZtK (n+1) s=ZtL (ZtK n) s:=fun _ _=>rfl
def ZnU (w_:(List Int)):Option (List Int):=
 (ZoA big w_).bind fun x0=>Zs3 x0
def Zp0 (n:Int):Option (List Int):=
 chk (decide (0≤(32:Int))) <|
 (ZnU ([(IntKind.wrap .u32 n),(IntKind.wrap .u32 (shrK .u64 n 32))]:(List Int))).bind fun q=>
 some q
def Zr3 (t4:Bool) (t4_1:(List Int)):Option ZnE:=
 some (ZnE.mk t4 t4_1)
def Zn0 (neg:Bool) (w_:(List Int)):Option ZnE:=
 bif neg then (
  chk (ZiZ w_.length 4) <|
  Zr3 (decide ((w_.length:Int) > 0)) w_
 )else (
  chk (ZiZ w_.length 4) <|
  Zr3 false w_
 )
def ZqG (n:Int):Option ZnE:=
 bif (decide (n < 0))then (
  (Zp0 (IntKind.wrap .u64 (0 - (IntKind.wrap .u64 n)))).bind fun q=>
  (Zn0 true q).bind fun q_1=>
  some q_1
 )else (
  (Zp0 (IntKind.wrap .u64 n)).bind fun q_2=>
  (Zn0 false q_2).bind fun q_3=>
  some q_3
 )
def Zom (t2:Bool):Option Bool:=
 some t2
def Zqj (a:ZnE):Option Bool:=
 bif (decide ((a.Words.length:Int)≤256))then (
  bif ((a.Words.length:Int) == 0)then (
   bif (!a.Neg)then (
    Zom true
   )else (
    bif (decide ((a.Words.length:Int) > 0))then (
     chk (inK .i64 ((a.Words.length:Int) - 1)) <|
     (idx a.Words ((a.Words.length:Int) - 1)).bind fun Word=>
     Zom (Word != 0)
    )else (
     Zom false
    )
   )
  )else (
   bif (decide ((a.Words.length:Int) > 0))then (
    chk (inK .i64 ((a.Words.length:Int) - 1)) <|
    (idx a.Words ((a.Words.length:Int) - 1)).bind fun Word_1=>
    Zom (Word_1 != 0)
   )else (
    Zom false
   )
  )
 )else (
  Zom false
 )
def ZuT:Option Bool:=
 some true
def Zr5 (rec_:(List ZnE)→Int→Int→Option (Out Unit Bool)) (t5:(List ZnE)) (t6:Int) (t7:Int):Option (Out Unit Bool):=
 bif (decide (t7 < t6))then (
  (idx t5 t7).bind fun a=>
  (Zqj a).bind fun q=>
  bif (!q)then (
   some (.ret false)
  )else (
   chk (inK .i64 (t7+1)) <|
   rec_ t5 t6 (t7+1)
  )
 )else (
  some (.brk ())
 )
def ZsL:Nat→(List ZnE)→Int→Int→Option (Out Unit Bool)
 |0,_,_,_=>none
 |n_+1,t5,t6,t7=>Zr5 (ZsL n_) t5 t6 t7
def Zul (n:Nat) (s:((List ZnE)×Int×Int)):Option (Out Unit Bool):=ZsL n s.1 s.2.1 s.2.2
def Ztp (rec_:((List ZnE)×Int×Int)→Option (Out Unit Bool)) (s:((List ZnE)×Int×Int)):Option (Out Unit Bool):=Zr5 (fun t5 t6 t7=>rec_ (t5,t6,t7)) s.1 s.2.1 s.2.2
theorem Zvz:∀n s,Zul (n+1) s=Ztp (Zul n) s:=fun _ _=>rfl
def Zsi (l:(List ZnE)):Option Bool:=
 (ZsL big l (l.length:Int) (0:Int)).bind fun
  | .ret q_=>some q_
  | .brk ()=>ZuT
def Ztb (x_:Int):Option Bool:=
 some (x_ != x_)
def Zsk (x_:Int) (y:Int):Option Int:=
 (Ztb x_).bind fun xNaN=>
 (Ztb y).bind fun yNaN=>
 bif xNaN then (
  bif yNaN then (
   some (0:Int)
  )else (
   some (-1:Int)
  )
 )else (
  bif yNaN then (
   some (1:Int)
  )else (
   bif (decide (x_ < y))then (
    some (-1:Int)
   )else (
    bif (decide (x_ > y))then (
     some (1:Int)
    )else (
     some (0:Int)
    )
   )
  )
 )
def ZsM (x_:Int):Option Bool:=
 some (x_ != x_)
def Zr6 (x_:Int) (y:Int):Option Int:=
 (ZsM x_).bind fun xNaN=>
 (ZsM y).bind fun yNaN=>
 bif xNaN then (
  bif yNaN then (
   some (0:Int)
  )else (
   some (-1:Int)
  )
 )else (
  bif yNaN then (
   some (1:Int)
  )else (
   bif (decide (x_ < y))then (
    some (-1:Int)
   )else (
    bif (decide (x_ > y))then (
     some (1:Int)
    )else (
     some (0:Int)
    )
   )
  )
 )
def Zri:Option Int:=
 some (0:Int)
def Zps (rec_:(List Int)→(List Int)→Int→Option (Out Unit Int)) (w_:(List Int)) (v_:(List Int)) (i:Int):Option (Out Unit Int):=
 bif (decide (i≥0))then (
  (idx w_ i).bind fun w__e=>
  (idx v_ i).bind fun v__e=>
  (Zr6 w__e v__e).bind fun c=>
  bif (c != 0)then (
   some (.ret c)
  )else (
   chk (inK .i64 (i - 1)) <|
   rec_ w_ v_ (i - 1)
  )
 )else (
  some (.brk ())
 )
def ZpY:Nat→(List Int)→(List Int)→Int→Option (Out Unit Int)
 |0,_,_,_=>none
 |n_+1,w_,v_,i=>Zps (ZpY n_) w_ v_ i
def Zsy (n:Nat) (s:((List Int)×(List Int)×Int)):Option (Out Unit Int):=ZpY n s.1 s.2.1 s.2.2
def ZqM (rec_:((List Int)×(List Int)×Int)→Option (Out Unit Int)) (s:((List Int)×(List Int)×Int)):Option (Out Unit Int):=Zps (fun w_ v_ i=>rec_ (w_,v_,i)) s.1 s.2.1 s.2.2
theorem Zt6:∀n s,Zsy (n+1) s=ZqM (Zsy n) s:=fun _ _=>rfl
def Zoc (w_:(List Int)) (v_:(List Int)):Option Int:=
 (Zsk (w_.length:Int) (v_.length:Int)).bind fun c=>
 bif (c != 0)then (
  some c
 )else (
  chk (inK .i64 ((w_.length:Int) - 1)) <|
  (ZpY big w_ v_ ((w_.length:Int) - 1)).bind fun
   | .ret q_=>some q_
   | .brk ()=>Zri
 )
def ZnI (s:(List Int)) (t4:Bool):Option (List Int):=
 bif t4 then (
  some ([]:(List Int))
 )else (
  chk (ZiZ (([]:(List Int)).length+s.length) 4) <|
  some (([]:(List Int))++s)
 )
def Zn6 (s:(List Int)):Option (List Int):=
 bif (List.isEmpty s)then agree (
  ZnI s true
 ) (
  ZnI s false
 )else (
  ZnI s false
 )
def ZqO (hi:Int) (lo:Int) (y:Int) (t15:Bool):Option (Int×Int):=
 bif t15 then (
  none
 )else (
  chk (decide (0≤(32:Int))) <|
  chk (decide ((IntKind.wrap .u64 y)≠0)) <|
  chk (decide ((IntKind.wrap .u64 y)≠0)) <|
  some ((IntKind.wrap .u32 (IntKind.wrap .u64 (Int.tdiv (orK .u64 (shlK .u64 (IntKind.wrap .u64 hi) 32) (IntKind.wrap .u64 lo)) (IntKind.wrap .u64 y)))),(IntKind.wrap .u32 (Int.tmod (orK .u64 (shlK .u64 (IntKind.wrap .u64 hi) 32) (IntKind.wrap .u64 lo)) (IntKind.wrap .u64 y))))
 )
def Zse (hi:Int) (lo:Int) (y:Int):Option (Int×Int):=
 bif (y != 0)then (
  ZqO hi lo y (decide (y≤hi))
 )else (
  ZqO hi lo y false
 )
def ZrX (rest:Int) (out:(List Int)):Option ((List Int)×Int):=
 (ZnU out).bind fun q=>
 some (q,rest)
def ZpV (rec_:(List Int)→Int→Int→Int→(List Int)→Option (Int×(List Int))) (w_:(List Int)) (d:Int) (rest:Int) (i:Int) (out:(List Int)):Option (Int×(List Int)):=
 bif (decide (i≥0))then (
  (idx w_ i).bind fun w__e=>
  (Zse rest w__e d).bind fun(q,rest_1)=>
  chk (inR i (out.length:Int)) <|
  chk (inK .i64 (i - 1)) <|
  rec_ w_ d rest_1 (i - 1) (out.set ((i).toNat) q)
 )else (
  some (rest,out)
 )
def Zqu:Nat→(List Int)→Int→Int→Int→(List Int)→Option (Int×(List Int))
 |0,_,_,_,_,_=>none
 |n_+1,w_,d,rest,i,out=>ZpV (Zqu n_) w_ d rest i out
def Zs0 (n:Nat) (s:((List Int)×Int×Int×Int×(List Int))):Option (Int×(List Int)):=Zqu n s.1 s.2.1 s.2.2.1 s.2.2.2.1 s.2.2.2.2
def Zrf (rec_:((List Int)×Int×Int×Int×(List Int))→Option (Int×(List Int))) (s:((List Int)×Int×Int×Int×(List Int))):Option (Int×(List Int)):=ZpV (fun w_ d rest i out=>rec_ (w_,d,rest,i,out)) s.1 s.2.1 s.2.2.1 s.2.2.2.1 s.2.2.2.2
theorem Zuz:∀n s,Zs0 (n+1) s=Zrf (Zs0 n) s:=fun _ _=>rfl
def Zqc (w_:(List Int)) (d:Int):Option ((List Int)×Int):=
 chk (mkOk (w_.length:Int) (w_.length:Int) 4) <|
 chk (inK .i64 ((w_.length:Int) - 1)) <|
 (Zqu big w_ d (0:Int) ((w_.length:Int) - 1) (List.replicate ((w_.length:Int)).toNat (0:Int))).bind fun(x0,x1)=>ZrX x0 x1
def Zp1 (x_:Int) (n:Int):Option Int:=
 (idx ([0,1,2,2,3,3,3,3,4,4,4,4,4,4,4,4,5,5,5,5,5,5,5,5,5,5,5,5,5,5,5,5,6,6,6,6,6,6,6,6,6,6,6,6,6,6,6,6,6,6,6,6,6,6,6,6,6,6,6,6,6,6,6,6,7,7,7,7,7,7,7,7,7,7,7,7,7,7,7,7,7,7,7,7,7,7,7,7,7,7,7,7,7,7,7,7,7,7,7,7,7,7,7,7,7,7,7,7,7,7,7,7,7,7,7,7,7,7,7,7,7,7,7,7,7,7,7,7,8,8,8,8,8,8,8,8,8,8,8,8,8,8,8,8,8,8,8,8,8,8,8,8,8,8,8,8,8,8,8,8,8,8,8,8,8,8,8,8,8,8,8,8,8,8,8,8,8,8,8,8,8,8,8,8,8,8,8,8,8,8,8,8,8,8,8,8,8,8,8,8,8,8,8,8,8,8,8,8,8,8,8,8,8,8,8,8,8,8,8,8,8,8,8,8,8,8,8,8,8,8,8,8,8,8,8,8,8,8,8,8,8,8,8,8,8,8,8,8,8,8,8,8,8,8,8,8]:Str) (IntKind.wrap .u8 x_)).bind fun c=>
 chk (inK .i64 (n+(IntKind.wrap .i64 ((c.toNat:Nat):Int)))) <|
 some (n+(IntKind.wrap .i64 ((c.toNat:Nat):Int)))
def Zr1 (x_:Int) (n:Int):Option Int:=
 bif (decide (x_≥256))then (
  chk (decide (0≤(8:Int))) <|
  chk (inK .i64 (n+8)) <|
  Zp1 (shrK .u32 x_ 8) (n+8)
 )else (
  Zp1 x_ n
 )
def Zsd (x_:Int):Option Int:=
 bif (decide (x_≥65536))then (
  chk (decide (0≤(16:Int))) <|
  Zr1 (shrK .u32 x_ 16) (16:Int)
 )else (
  Zr1 x_ (0:Int)
 )
def Zo6 (x_:Int):Option Int:=
 (Zsd x_).bind fun q=>
 chk (inK .i64 (32 - q)) <|
 some (32 - q)
def Zrg (out:(List Int)):Option (List Int):=
 some out
def Zpr (rec_:Int→(List Int)→Int→Int→(List Int)→Option (List Int)) (n:Int) (t13:(List Int)) (t14:Int) (i:Int) (out:(List Int)):Option (List Int):=
 bif (decide (i < t14))then (
  (idx t13 i).bind fun d=>
  chk (decide (0≤n)) <|
  chk (inR i (out.length:Int)) <|
  (out[(i).toNat]?).bind fun out_e=>
  chk (inR i (out.length:Int)) <|
  chk (inK .i64 (i+1)) <|
  chk (decide (0≤(32:Int))) <|
  chk (inR (i+1) ((out.set ((i).toNat) (orK .u32 out_e (IntKind.wrap .u32 (shlK .u64 (IntKind.wrap .u64 d) n)))).length:Int)) <|
  chk (inK .i64 (i+1)) <|
  rec_ n t13 t14 (i+1) ((out.set ((i).toNat) (orK .u32 out_e (IntKind.wrap .u32 (shlK .u64 (IntKind.wrap .u64 d) n)))).set (((i+1)).toNat) (IntKind.wrap .u32 (shrK .u64 (shlK .u64 (IntKind.wrap .u64 d) n) 32)))
 )else (
  some out
 )
def ZpW:Nat→Int→(List Int)→Int→Int→(List Int)→Option (List Int)
 |0,_,_,_,_,_=>none
 |n_+1,n,t13,t14,i,out=>Zpr (ZpW n_) n t13 t14 i out
def Zsx (n:Nat) (s:(Int×(List Int)×Int×Int×(List Int))):Option (List Int):=ZpW n s.1 s.2.1 s.2.2.1 s.2.2.2.1 s.2.2.2.2
def ZqL (rec_:(Int×(List Int)×Int×Int×(List Int))→Option (List Int)) (s:(Int×(List Int)×Int×Int×(List Int))):Option (List Int):=Zpr (fun n t13 t14 i out=>rec_ (n,t13,t14,i,out)) s.1 s.2.1 s.2.2.1 s.2.2.2.1 s.2.2.2.2
theorem Zt5:∀n s,Zsx (n+1) s=ZqL (Zsx n) s:=fun _ _=>rfl
def Zoq (w_:(List Int)) (n:Int):Option (List Int):=
 chk (inK .i64 ((w_.length:Int)+1)) <|
 chk (mkOk ((w_.length:Int)+1) ((w_.length:Int)+1) 4) <|
 (ZpW big n w_ (w_.length:Int) (0:Int) (List.replicate (((w_.length:Int)+1)).toNat (0:Int))).bind fun x0=>Zrg x0
def Zqf (x_:Int) (y:Int) (borrow:Int):Option (Int×Int):=
 chk (decide (0≤(31:Int))) <|
 some ((IntKind.wrap .u32 ((IntKind.wrap .u32 (x_ - y)) - borrow)),(shrK .u32 (orK .u32 (andK .u32 (xorK .u32 (if IntKind.signed .u32 then -1 else IntKind.max .u32) x_) y) (andK .u32 (xorK .u32 (if IntKind.signed .u32 then -1 else IntKind.max .u32) (xorK .u32 x_ y)) (IntKind.wrap .u32 ((IntKind.wrap .u32 (x_ - y)) - borrow)))) 31))
def Zq0 (x_:Int) (y:Int) (carry:Int):Option (Int×Int):=
 chk (decide (0≤(32:Int))) <|
 some ((IntKind.wrap .u32 (IntKind.wrap .u64 ((IntKind.wrap .u64 ((IntKind.wrap .u64 x_)+(IntKind.wrap .u64 y)))+(IntKind.wrap .u64 carry)))),(IntKind.wrap .u32 (shrK .u64 (IntKind.wrap .u64 ((IntKind.wrap .u64 ((IntKind.wrap .u64 x_)+(IntKind.wrap .u64 y)))+(IntKind.wrap .u64 carry))) 32)))
def Zsq (u_off:Nat) (u_len:Nat) (n:Int) (guess:Int) (add:Int) (u:(List Int)):Option (Int×(List Int)):=
 chk (inR n (u_len:Int)) <|
 (u[(u_off+(n).toNat)]?).bind fun u_e=>
 chk (inR n (u_len:Int)) <|
 some ((IntKind.wrap .u32 (IntKind.wrap .u64 (guess - 1))),(u.set (u_off+(n).toNat) (IntKind.wrap .u32 (u_e+add))))
def ZrD (rec_:Nat→Nat→Int→Int→Int→(List Int)→Int→Int→(List Int)→Option (Nat×Nat×Int×Int×Int×(List Int))) (u_off:Nat) (u_len:Nat) (n:Int) (guess:Int) (add:Int) (t130:(List Int)) (t131:Int) (i:Int) (u:(List Int)):Option (Nat×Nat×Int×Int×Int×(List Int)):=
 bif (decide (i < t131))then (
  (idx t130 i).bind fun x_=>
  chk (inR i (u_len:Int)) <|
  (u[(u_off+(i).toNat)]?).bind fun u_e=>
  (Zq0 u_e x_ add).bind fun(q,add_1)=>
  chk (inR i (u_len:Int)) <|
  chk (inK .i64 (i+1)) <|
  rec_ u_off u_len n guess add_1 t130 t131 (i+1) (u.set (u_off+(i).toNat) q)
 )else (
  some (u_off,u_len,n,guess,add,u)
 )
def Zrj:Nat→Nat→Nat→Int→Int→Int→(List Int)→Int→Int→(List Int)→Option (Nat×Nat×Int×Int×Int×(List Int))
 |0,_,_,_,_,_,_,_,_,_=>none
 |n_+1,u_off,u_len,n,guess,add,t130,t131,i,u=>ZrD (Zrj n_) u_off u_len n guess add t130 t131 i u
def Zt7 (n:Nat) (s:(Nat×Nat×Int×Int×Int×(List Int)×Int×Int×(List Int))):Option (Nat×Nat×Int×Int×Int×(List Int)):=Zrj n s.1 s.2.1 s.2.2.1 s.2.2.2.1 s.2.2.2.2.1 s.2.2.2.2.2.1 s.2.2.2.2.2.2.1 s.2.2.2.2.2.2.2.1 s.2.2.2.2.2.2.2.2
def Zs4 (rec_:(Nat×Nat×Int×Int×Int×(List Int)×Int×Int×(List Int))→Option (Nat×Nat×Int×Int×Int×(List Int))) (s:(Nat×Nat×Int×Int×Int×(List Int)×Int×Int×(List Int))):Option (Nat×Nat×Int×Int×Int×(List Int)):=ZrD (fun u_off u_len n guess add t130 t131 i u=>rec_ (u_off,u_len,n,guess,add,t130,t131,i,u)) s.1 s.2.1 s.2.2.1 s.2.2.2.1 s.2.2.2.2.1 s.2.2.2.2.2.1 s.2.2.2.2.2.2.1 s.2.2.2.2.2.2.2.1 s.2.2.2.2.2.2.2.2
theorem Zvr:∀n s,Zt7 (n+1) s=Zs4 (Zt7 n) s:=fun _ _=>rfl
def ZtA (u_off:Nat) (u_len:Nat) (d:(List Int)) (n:Int) (guess:Int) (borrow:Int) (carry:Int) (u:(List Int)):Option (Int×(List Int)):=
 chk (inR n (u_len:Int)) <|
 (u[(u_off+(n).toNat)]?).bind fun u_e=>
 (Zqf u_e (IntKind.wrap .u32 carry) borrow).bind fun(q,borrow_1)=>
 chk (inR n (u_len:Int)) <|
 bif (borrow_1 == 0)then (
  some ((IntKind.wrap .u32 guess),(u.set (u_off+(n).toNat) q))
 )else (
  (Zrj big u_off u_len n guess (0:Int) d (d.length:Int) (0:Int) (u.set (u_off+(n).toNat) q)).bind fun(x0,x1,x2,x3,x4,x5)=>Zsq x0 x1 x2 x3 x4 x5
 )
def ZrE (rec_:Nat→Nat→(List Int)→Int→Int→Int→Int→(List Int)→Int→Int→(List Int)→Option (Nat×Nat×(List Int)×Int×Int×Int×Int×(List Int))) (u_off:Nat) (u_len:Nat) (d:(List Int)) (n:Int) (guess:Int) (borrow:Int) (carry:Int) (t82:(List Int)) (t83:Int) (i:Int) (u:(List Int)):Option (Nat×Nat×(List Int)×Int×Int×Int×Int×(List Int)):=
 bif (decide (i < t83))then (
  (idx t82 i).bind fun x_=>
  chk (inR i (u_len:Int)) <|
  (u[(u_off+(i).toNat)]?).bind fun u_e=>
  (Zqf u_e (IntKind.wrap .u32 (IntKind.wrap .u64 (carry+(IntKind.wrap .u64 (guess*(IntKind.wrap .u64 x_)))))) borrow).bind fun(q,borrow_1)=>
  chk (inR i (u_len:Int)) <|
  chk (decide (0≤(32:Int))) <|
  chk (inK .i64 (i+1)) <|
  rec_ u_off u_len d n guess borrow_1 (shrK .u64 (IntKind.wrap .u64 (carry+(IntKind.wrap .u64 (guess*(IntKind.wrap .u64 x_))))) 32) t82 t83 (i+1) (u.set (u_off+(i).toNat) q)
 )else (
  some (u_off,u_len,d,n,guess,borrow,carry,u)
 )
def Zsp:Nat→Nat→Nat→(List Int)→Int→Int→Int→Int→(List Int)→Int→Int→(List Int)→Option (Nat×Nat×(List Int)×Int×Int×Int×Int×(List Int))
 |0,_,_,_,_,_,_,_,_,_,_,_=>none
 |n_+1,u_off,u_len,d,n,guess,borrow,carry,t82,t83,i,u=>ZrE (Zsp n_) u_off u_len d n guess borrow carry t82 t83 i u
def Zt8 (n:Nat) (s:(Nat×Nat×(List Int)×Int×Int×Int×Int×(List Int)×Int×Int×(List Int))):Option (Nat×Nat×(List Int)×Int×Int×Int×Int×(List Int)):=Zsp n s.1 s.2.1 s.2.2.1 s.2.2.2.1 s.2.2.2.2.1 s.2.2.2.2.2.1 s.2.2.2.2.2.2.1 s.2.2.2.2.2.2.2.1 s.2.2.2.2.2.2.2.2.1 s.2.2.2.2.2.2.2.2.2.1 s.2.2.2.2.2.2.2.2.2.2
def Zs5 (rec_:(Nat×Nat×(List Int)×Int×Int×Int×Int×(List Int)×Int×Int×(List Int))→Option (Nat×Nat×(List Int)×Int×Int×Int×Int×(List Int))) (s:(Nat×Nat×(List Int)×Int×Int×Int×Int×(List Int)×Int×Int×(List Int))):Option (Nat×Nat×(List Int)×Int×Int×Int×Int×(List Int)):=ZrE (fun u_off u_len d n guess borrow carry t82 t83 i u=>rec_ (u_off,u_len,d,n,guess,borrow,carry,t82,t83,i,u)) s.1 s.2.1 s.2.2.1 s.2.2.2.1 s.2.2.2.2.1 s.2.2.2.2.2.1 s.2.2.2.2.2.2.1 s.2.2.2.2.2.2.2.1 s.2.2.2.2.2.2.2.2.1 s.2.2.2.2.2.2.2.2.2.1 s.2.2.2.2.2.2.2.2.2.2
theorem Zvs:∀n s,Zt8 (n+1) s=Zs5 (Zt8 n) s:=fun _ _=>rfl
def Zsr (u_off:Nat) (u_len:Nat) (d:(List Int)) (n:Int) (guess:Int) (u:(List Int)):Option (Int×(List Int)):=
 (Zsp big u_off u_len d n guess (0:Int) (0:Int) d (d.length:Int) (0:Int) u).bind fun(x0,x1,x2,x3,x4,x5,x6,x7)=>ZtA x0 x1 x2 x3 x4 x5 x6 x7
def Zrk (rec_:Nat→Nat→(List Int)→Int→Int→Int→(List Int)→Option (Nat×Nat×(List Int)×Int×Int×(List Int))) (u_off:Nat) (u_len:Nat) (d:(List Int)) (n:Int) (guess:Int) (rest:Int) (t71:Bool) (u:(List Int)):Option (Nat×Nat×(List Int)×Int×Int×(List Int)):=
 bif t71 then (
  chk (inK .i64 (n - 1)) <|
  (idx d (n - 1)).bind fun d_e=>
  rec_ u_off u_len d n (IntKind.wrap .u64 (guess - 1)) (IntKind.wrap .u64 (rest+(IntKind.wrap .u64 d_e))) u
 )else (
  some (u_off,u_len,d,n,guess,u)
 )
def Zs6 (rec_:Nat→Nat→(List Int)→Int→Int→Int→(List Int)→Option (Nat×Nat×(List Int)×Int×Int×(List Int))) (u_off:Nat) (u_len:Nat) (d:(List Int)) (n:Int) (guess:Int) (rest:Int) (u:(List Int)):Option (Nat×Nat×(List Int)×Int×Int×(List Int)):=
 bif (decide (rest < 4294967296))then (
  chk (inK .i64 (n - 2)) <|
  (idx d (n - 2)).bind fun d_e=>
  chk (decide (0≤(32:Int))) <|
  chk (inK .i64 (n - 2)) <|
  chk (inR (n - 2) (u_len:Int)) <|
  (u[(u_off+((n - 2)).toNat)]?).bind fun u_e=>
  Zrk rec_ u_off u_len d n guess rest (decide ((IntKind.wrap .u64 (guess*(IntKind.wrap .u64 d_e))) > (orK .u64 (shlK .u64 rest 32) (IntKind.wrap .u64 u_e)))) u
 )else (
  Zrk rec_ u_off u_len d n guess rest false u
 )
def Zqh:Nat→Nat→Nat→(List Int)→Int→Int→Int→(List Int)→Option (Nat×Nat×(List Int)×Int×Int×(List Int))
 |0,_,_,_,_,_,_,_=>none
 |n_+1,u_off,u_len,d,n,guess,rest,u=>Zs6 (Zqh n_) u_off u_len d n guess rest u
def Zt9 (n:Nat) (s:(Nat×Nat×(List Int)×Int×Int×Int×(List Int))):Option (Nat×Nat×(List Int)×Int×Int×(List Int)):=Zqh n s.1 s.2.1 s.2.2.1 s.2.2.2.1 s.2.2.2.2.1 s.2.2.2.2.2.1 s.2.2.2.2.2.2
def Zua (rec_:(Nat×Nat×(List Int)×Int×Int×Int×(List Int))→Option (Nat×Nat×(List Int)×Int×Int×(List Int))) (s:(Nat×Nat×(List Int)×Int×Int×Int×(List Int))):Option (Nat×Nat×(List Int)×Int×Int×(List Int)):=Zs6 (fun u_off u_len d n guess rest u=>rec_ (u_off,u_len,d,n,guess,rest,u)) s.1 s.2.1 s.2.2.1 s.2.2.2.1 s.2.2.2.2.1 s.2.2.2.2.2.1 s.2.2.2.2.2.2
theorem Zvt:∀n s,Zt9 (n+1) s=Zua (Zt9 n) s:=fun _ _=>rfl
def Zty (u:(List Int)) (u_off:Nat) (u_len:Nat) (d:(List Int)):Option (Int×(List Int)):=
 chk (inR (d.length:Int) (u_len:Int)) <|
 (u[(u_off+((d.length:Int)).toNat)]?).bind fun u_e=>
 chk (decide (0≤(32:Int))) <|
 chk (inK .i64 ((d.length:Int) - 1)) <|
 chk (inR ((d.length:Int) - 1) (u_len:Int)) <|
 (u[(u_off+(((d.length:Int) - 1)).toNat)]?).bind fun u_e_1=>
 chk (inK .i64 ((d.length:Int) - 1)) <|
 (idx d ((d.length:Int) - 1)).bind fun d_e=>
 chk (decide ((IntKind.wrap .u64 d_e)≠0)) <|
 chk (inK .i64 ((d.length:Int) - 1)) <|
 (idx d ((d.length:Int) - 1)).bind fun d_e_1=>
 (Zqh big u_off u_len d (d.length:Int) (if (4294967295:Int) < (IntKind.wrap .u64 (Int.tdiv (orK .u64 (shlK .u64 (IntKind.wrap .u64 u_e) 32) (IntKind.wrap .u64 u_e_1)) (IntKind.wrap .u64 d_e)))then (4294967295:Int)else (IntKind.wrap .u64 (Int.tdiv (orK .u64 (shlK .u64 (IntKind.wrap .u64 u_e) 32) (IntKind.wrap .u64 u_e_1)) (IntKind.wrap .u64 d_e)))) (IntKind.wrap .u64 ((orK .u64 (shlK .u64 (IntKind.wrap .u64 u_e) 32) (IntKind.wrap .u64 u_e_1)) - (IntKind.wrap .u64 ((if (4294967295:Int) < (IntKind.wrap .u64 (Int.tdiv (orK .u64 (shlK .u64 (IntKind.wrap .u64 u_e) 32) (IntKind.wrap .u64 u_e_1)) (IntKind.wrap .u64 d_e)))then (4294967295:Int)else (IntKind.wrap .u64 (Int.tdiv (orK .u64 (shlK .u64 (IntKind.wrap .u64 u_e) 32) (IntKind.wrap .u64 u_e_1)) (IntKind.wrap .u64 d_e))))*(IntKind.wrap .u64 d_e_1))))) u).bind fun(x0,x1,x2,x3,x4,x5)=>Zsr x0 x1 x2 x3 x4 x5
def ZsK (u:(List Int)) (u_off:Nat) (u_len:Nat) (d:(List Int)):Option (Int×(List Int)):=
 (Zty u u_off u_len d).bind fun r=>chk (decide (r.2.length=u.length)&&true) (some r)
def Zso (w_off:Nat) (w_len:Nat) (w_:(List Int)):Option (Nat×Nat×(List Int)):=
 some (w_off,w_len,w_)
def ZqY (rec_:Nat→Nat→(List Int)→Option (Nat×Nat×(List Int))) (w_off:Nat) (w_len:Nat) (t14:Bool) (w_:(List Int)):Option (Nat×Nat×(List Int)):=
 bif t14 then (
  chk (inK .i64 (((w_len:Nat):Int) - 1)) <|
  chk (Zb9 0 (((w_len:Nat):Int) - 1) (w_len:Int)) <|
  rec_ (w_off+0) (((((w_len:Nat):Int) - 1)).toNat - 0) w_
 )else (
  some (w_off,w_len,w_)
 )
def ZrZ (rec_:Nat→Nat→(List Int)→Option (Nat×Nat×(List Int))) (w_off:Nat) (w_len:Nat) (w_:(List Int)):Option (Nat×Nat×(List Int)):=
 bif (decide (((w_len:Nat):Int) > 0))then (
  chk (inK .i64 (((w_len:Nat):Int) - 1)) <|
  chk (inR (((w_len:Nat):Int) - 1) (w_len:Int)) <|
  (w_[(w_off+((((w_len:Nat):Int) - 1)).toNat)]?).bind fun w__e=>
  ZqY rec_ w_off w_len (w__e == 0) w_
 )else (
  ZqY rec_ w_off w_len false w_
 )
def ZpZ:Nat→Nat→Nat→(List Int)→Option (Nat×Nat×(List Int))
 |0,_,_,_=>none
 |n_+1,w_off,w_len,w_=>ZrZ (ZpZ n_) w_off w_len w_
def Ztt (n:Nat) (s:(Nat×Nat×(List Int))):Option (Nat×Nat×(List Int)):=ZpZ n s.1 s.2.1 s.2.2
def Ztu (rec_:(Nat×Nat×(List Int))→Option (Nat×Nat×(List Int))) (s:(Nat×Nat×(List Int))):Option (Nat×Nat×(List Int)):=ZrZ (fun w_off w_len w_=>rec_ (w_off,w_len,w_)) s.1 s.2.1 s.2.2
theorem ZuS:∀n s,Ztt (n+1) s=Ztu (Ztt n) s:=fun _ _=>rfl
def Zr2 (w_:(List Int)) (w_off:Nat) (w_len:Nat):Option (Nat×Nat×(List Int)):=
 (ZpZ big w_off w_len w_).bind fun(x0,x1,x2)=>Zso x0 x1 x2
def Zro (w_:(List Int)) (w_off:Nat) (w_len:Nat):Option (Nat×Nat×(List Int)):=
 (Zr2 w_ w_off w_len).bind fun r=>chk (decide (r.2.2.length=w_.length)&&true) (some r)
def Zpv (w_:(List Int)) (i:Int):Option Int:=
 bif (decide (i < (w_.length:Int)))then (
  (idx w_ i).bind fun w__e=>
  some w__e
 )else (
  some (0:Int)
 )
def Zs2 (w_:(List Int)) (w_off:Nat) (w_len:Nat) (i:Int):Option (Int×(List Int)):=
 bif (decide (i < ((w_len:Nat):Int)))then (
  chk (inR i (w_len:Int)) <|
  (w_[(w_off+(i).toNat)]?).bind fun w__e=>
  some (w__e,w_)
 )else (
  some (0,w_)
 )
def ZqW (w_:(List Int)) (w_off:Nat) (w_len:Nat) (i:Int):Option (Int×(List Int)):=
 (Zs2 w_ w_off w_len i).bind fun r=>chk (decide (r.2.length=w_.length)&&true) (some r)
def Zsg (rest_off:Nat) (rest_len:Nat) (q:(List Int)) (rest:(List Int)):Option ((List Int)×(List Int)):=
 (ZnU q).bind fun q_1=>
 (ZnU ((rest.drop rest_off).take rest_len)).bind fun q_2=>
 some (q_1,q_2)
def Zp7 (rec_:Int→Nat→Nat→Int→Int→(List Int)→(List Int)→Option (Nat×Nat×(List Int)×(List Int))) (shift:Int) (rest_off:Nat) (rest_len:Nat) (t86:Int) (i:Int) (q:(List Int)) (rest:(List Int)):Option (Nat×Nat×(List Int)×(List Int)):=
 bif (decide (i < t86))then (
  chk (inK .i64 (i+1)) <|
  (ZqW rest rest_off rest_len (i+1)).bind fun(q_1,t90)=>
  chk (decide (0≤(32:Int))) <|
  chk (inR i (rest_len:Int)) <|
  (t90[(rest_off+(i).toNat)]?).bind fun t90_e=>
  chk (decide (0≤shift)) <|
  chk (inR i (rest_len:Int)) <|
  chk (inK .i64 (i+1)) <|
  rec_ shift rest_off rest_len t86 (i+1) q (t90.set (rest_off+(i).toNat) (IntKind.wrap .u32 (shrK .u64 (orK .u64 (shlK .u64 (IntKind.wrap .u64 q_1) 32) (IntKind.wrap .u64 t90_e)) shift)))
 )else (
  some (rest_off,rest_len,q,rest)
 )
def Zpz:Nat→Int→Nat→Nat→Int→Int→(List Int)→(List Int)→Option (Nat×Nat×(List Int)×(List Int))
 |0,_,_,_,_,_,_,_=>none
 |n_+1,shift,rest_off,rest_len,t86,i,q,rest=>Zp7 (Zpz n_) shift rest_off rest_len t86 i q rest
def Ztm (n:Nat) (s:(Int×Nat×Nat×Int×Int×(List Int)×(List Int))):Option (Nat×Nat×(List Int)×(List Int)):=Zpz n s.1 s.2.1 s.2.2.1 s.2.2.2.1 s.2.2.2.2.1 s.2.2.2.2.2.1 s.2.2.2.2.2.2
def Zrw (rec_:(Int×Nat×Nat×Int×Int×(List Int)×(List Int))→Option (Nat×Nat×(List Int)×(List Int))) (s:(Int×Nat×Nat×Int×Int×(List Int)×(List Int))):Option (Nat×Nat×(List Int)×(List Int)):=Zp7 (fun shift rest_off rest_len t86 i q rest=>rec_ (shift,rest_off,rest_len,t86,i,q,rest)) s.1 s.2.1 s.2.2.1 s.2.2.2.1 s.2.2.2.2.1 s.2.2.2.2.2.1 s.2.2.2.2.2.2
theorem ZuI:∀n s,Ztm (n+1) s=Zrw (Ztm n) s:=fun _ _=>rfl
def Zsh (n:Int) (shift:Int) (u:(List Int)) (q:(List Int)):Option ((List Int)×(List Int)):=
 chk (Zb9 0 n (u.length:Int)) <|
 (Zro u 0 ((n).toNat - 0)).bind fun(rest_off,rest_len,t83)=>
 (Zpz big shift rest_off rest_len ((rest_len:Nat):Int) (0:Int) q t83).bind fun(x0,x1,x2,x3)=>Zsg x0 x1 x2 x3
def Zp8 (rec_:Int→Int→(List Int)→Int→(List Int)→(List Int)→Option (Int×Int×(List Int)×(List Int))) (n:Int) (shift:Int) (d:(List Int)) (j:Int) (u:(List Int)) (q:(List Int)):Option (Int×Int×(List Int)×(List Int)):=
 bif (decide (j≥0))then (
  chk (inK .i64 (j+n)) <|
  chk (inK .i64 ((j+n)+1)) <|
  chk (Zb9 j ((j+n)+1) (u.length:Int)) <|
  (ZsK u ((j).toNat) ((((j+n)+1)).toNat - (j).toNat) d).bind fun(q_1,t77)=>
  chk (inR j (q.length:Int)) <|
  chk (inK .i64 (j - 1)) <|
  rec_ n shift d (j - 1) t77 (q.set ((j).toNat) q_1)
 )else (
  some (n,shift,u,q)
 )
def ZpA:Nat→Int→Int→(List Int)→Int→(List Int)→(List Int)→Option (Int×Int×(List Int)×(List Int))
 |0,_,_,_,_,_,_=>none
 |n_+1,n,shift,d,j,u,q=>Zp8 (ZpA n_) n shift d j u q
def Ztn (n:Nat) (s:(Int×Int×(List Int)×Int×(List Int)×(List Int))):Option (Int×Int×(List Int)×(List Int)):=ZpA n s.1 s.2.1 s.2.2.1 s.2.2.2.1 s.2.2.2.2.1 s.2.2.2.2.2
def Zrx (rec_:(Int×Int×(List Int)×Int×(List Int)×(List Int))→Option (Int×Int×(List Int)×(List Int))) (s:(Int×Int×(List Int)×Int×(List Int)×(List Int))):Option (Int×Int×(List Int)×(List Int)):=Zp8 (fun n shift d j u q=>rec_ (n,shift,d,j,u,q)) s.1 s.2.1 s.2.2.1 s.2.2.2.1 s.2.2.2.2.1 s.2.2.2.2.2
theorem ZuJ:∀n s,Ztn (n+1) s=Zrx (Ztn n) s:=fun _ _=>rfl
def ZoW (w_:(List Int)) (v_:(List Int)):Option ((List Int)×(List Int)):=
 (Zoc w_ v_).bind fun q=>
 bif (decide (q < 0))then (
  (Zn6 w_).bind fun q_1=>
  some (([]:(List Int)),q_1)
 )else (
  bif ((v_.length:Int) == 1)then (
   (idx v_ 0).bind fun v__e=>
   (Zqc w_ v__e).bind fun(q_2,r_)=>
   (ZnU ([r_]:(List Int))).bind fun q_3=>
   some (q_2,q_3)
  )else (
   chk (inK .i64 ((v_.length:Int) - 1)) <|
   (idx v_ ((v_.length:Int) - 1)).bind fun v__e_1=>
   (Zo6 v__e_1).bind fun shift=>
   (Zoq w_ shift).bind fun u=>
   (Zoq v_ shift).bind fun q_4=>
   chk (Zb9 0 (v_.length:Int) (q_4.length:Int)) <|
   chk (inK .i64 ((w_.length:Int) - (v_.length:Int))) <|
   chk (inK .i64 (((w_.length:Int) - (v_.length:Int))+1)) <|
   chk (mkOk (((w_.length:Int) - (v_.length:Int))+1) (((w_.length:Int) - (v_.length:Int))+1) 4) <|
   chk (inK .i64 (((List.replicate ((((w_.length:Int) - (v_.length:Int))+1)).toNat (0:Int)).length:Int) - 1)) <|
   (ZpA big (v_.length:Int) shift ((q_4.drop 0).take (((v_.length:Int)).toNat - 0)) (((List.replicate ((((w_.length:Int) - (v_.length:Int))+1)).toNat (0:Int)).length:Int) - 1) u (List.replicate ((((w_.length:Int) - (v_.length:Int))+1)).toNat (0:Int))).bind fun(x0,x1,x2,x3)=>Zsh x0 x1 x2 x3
  )
 )
def Zry (w_:(List Int)):Option (List Int):=
 some w_
def ZoL (rec_:(List Int)→(List Int)→Option (List Int)) (w_:(List Int)) (v_:(List Int)):Option (List Int):=
 bif (decide ((v_.length:Int) > 0))then (
  (ZoW w_ v_).bind fun(q,r_)=>
  rec_ v_ r_
 )else (
  some w_
 )
def Zog:Nat→(List Int)→(List Int)→Option (List Int)
 |0,_,_=>none
 |n_+1,w_,v_=>ZoL (Zog n_) w_ v_
def Zo2 (w_:(List Int)) (v_:(List Int)):Option (List Int):=
 (Zog big w_ v_).bind fun x0=>Zry x0
def ZoM (num:ZnE) (den:ZnE):Option ZnA:=
 (Zo2 num.Words den.Words).bind fun g=>
 (ZoW num.Words g).bind fun(x_,q)=>
 (ZoW den.Words g).bind fun(y,q_1)=>
 (Zn0 (!(num.Neg == den.Neg)) x_).bind fun q_2=>
 (Zn0 false y).bind fun q_3=>
 some (ZnA.mk q_2 q_3)
def Zs7 (num:ZnE) (den:ZnE):Option (ZnA×Int):=
 (Zsi ([num,den]:(List ZnE))).bind fun q=>
 bif (!q)then (
  some ((ZnA.mk (ZnE.mk false ([]:(List Int))) (ZnE.mk false ([]:(List Int)))),1)
 )else (
  bif ((den.Words.length:Int) == 0)then (
   some ((ZnA.mk (ZnE.mk false ([]:(List Int))) (ZnE.mk false ([]:(List Int)))),8)
  )else (
   (ZoM num den).bind fun q_1=>
   some (q_1,0)
  )
 )
def Zth (num:Int) (den:Int):Option (ZnA×Int):=
 (ZqG num).bind fun q=>
 (ZqG den).bind fun q_1=>
 (Zs7 q q_1).bind fun(q_2,q_3)=>
 some (q_2,q_3)
def Ztf:Option ZnA:=
 (Zth 0 1).bind fun(f,q)=>
 some f
def Zt1 (a:Int) (b:Int):Option ZnA:=
 (Zth a b).bind fun(f,e)=>
 bif (e != 0)then (
  (Ztf).bind fun q=>
  some q
 )else (
  some f
 )
def ZqD (a:(List Str)) (b:(List Str)):Option ZnA:=
 (Zrb a b).bind fun n=>
 chk (inK .i64 ((a.length:Int)+(b.length:Int))) <|
 chk (inK .i64 (((a.length:Int)+(b.length:Int)) - n)) <|
 (Zt1 n (if (1:Int) > (((a.length:Int)+(b.length:Int)) - n)then (1:Int)else (((a.length:Int)+(b.length:Int)) - n))).bind fun q=>
 some q
def Zrc (a:ZnG) (b:ZnG):Option ZnA:=
 (ZqK a).bind fun q=>
 (ZqK b).bind fun q_1=>
 (ZqD q q_1).bind fun q_2=>
 some q_2
def ZpQ (a:Str) (b:Str):Option ZnA:=
 (Zoz a).bind fun q=>
 (Zoz b).bind fun q_1=>
 (ZqD q q_1).bind fun q_2=>
 some q_2
def Zqi (t2:Bool):Option Bool:=
 some t2
def ZoC (f:ZnA):Option Bool:=
 (Zsi ([f.Num,f.Den]:(List ZnE))).bind fun q=>
 bif q then (
  bif (decide ((f.Den.Words.length:Int) > 0))then (
   bif (!f.Den.Neg)then (
    (Zo2 f.Num.Words f.Den.Words).bind fun q_1=>
    (Zoc q_1 ([1]:List Int)).bind fun q_2=>
    Zqi (q_2 == 0)
   )else (
    Zqi false
   )
  )else (
   Zqi false
  )
 )else (
  Zqi false
 )
def ZrV (out:(List Int)):Option (List Int):=
 (ZnU out).bind fun q=>
 some q
def ZrW (rec_:(List Int)→(List Int)→Int→Int→(List Int)→Option (List Int)) (v_:(List Int)) (i:Int) (carry:Int) (t17:(List Int)) (t18:Int) (i_1:Int) (out:(List Int)):Option (List Int):=
 chk (inK .i64 (i+(v_.length:Int))) <|
 chk (inR (i+(v_.length:Int)) (out.length:Int)) <|
 chk (inK .i64 (i_1+1)) <|
 rec_ v_ t17 t18 (i_1+1) (out.set (((i+(v_.length:Int))).toNat) (IntKind.wrap .u32 carry))
def ZpT (rec_:(List Int)→Int→Int→Int→(List Int)→Int→Int→(List Int)→Int→Int→(List Int)→Option ((List Int)×Int×Int×(List Int)×Int×Int×(List Int))) (v_:(List Int)) (i:Int) (x_:Int) (carry:Int) (t17:(List Int)) (t18:Int) (i_1:Int) (t24:(List Int)) (t25:Int) (j:Int) (out:(List Int)):Option ((List Int)×Int×Int×(List Int)×Int×Int×(List Int)):=
 bif (decide (j < t25))then (
  (idx t24 j).bind fun y=>
  chk (inK .i64 (i+j)) <|
  chk (inR (i+j) (out.length:Int)) <|
  (out[((i+j)).toNat]?).bind fun out_e=>
  chk (inK .i64 (i+j)) <|
  chk (inR (i+j) (out.length:Int)) <|
  chk (decide (0≤(32:Int))) <|
  chk (inK .i64 (j+1)) <|
  rec_ v_ i x_ (shrK .u64 (IntKind.wrap .u64 (carry+(IntKind.wrap .u64 ((IntKind.wrap .u64 ((IntKind.wrap .u64 x_)*(IntKind.wrap .u64 y)))+(IntKind.wrap .u64 out_e))))) 32) t17 t18 i_1 t24 t25 (j+1) (out.set (((i+j)).toNat) (IntKind.wrap .u32 (IntKind.wrap .u64 (carry+(IntKind.wrap .u64 ((IntKind.wrap .u64 ((IntKind.wrap .u64 x_)*(IntKind.wrap .u64 y)))+(IntKind.wrap .u64 out_e)))))))
 )else (
  some (v_,i,carry,t17,t18,i_1,out)
 )
def Zqt:Nat→(List Int)→Int→Int→Int→(List Int)→Int→Int→(List Int)→Int→Int→(List Int)→Option ((List Int)×Int×Int×(List Int)×Int×Int×(List Int))
 |0,_,_,_,_,_,_,_,_,_,_,_=>none
 |n_+1,v_,i,x_,carry,t17,t18,i_1,t24,t25,j,out=>ZpT (Zqt n_) v_ i x_ carry t17 t18 i_1 t24 t25 j out
def ZsY (n:Nat) (s:((List Int)×Int×Int×Int×(List Int)×Int×Int×(List Int)×Int×Int×(List Int))):Option ((List Int)×Int×Int×(List Int)×Int×Int×(List Int)):=Zqt n s.1 s.2.1 s.2.2.1 s.2.2.2.1 s.2.2.2.2.1 s.2.2.2.2.2.1 s.2.2.2.2.2.2.1 s.2.2.2.2.2.2.2.1 s.2.2.2.2.2.2.2.2.1 s.2.2.2.2.2.2.2.2.2.1 s.2.2.2.2.2.2.2.2.2.2
def Zrd (rec_:((List Int)×Int×Int×Int×(List Int)×Int×Int×(List Int)×Int×Int×(List Int))→Option ((List Int)×Int×Int×(List Int)×Int×Int×(List Int))) (s:((List Int)×Int×Int×Int×(List Int)×Int×Int×(List Int)×Int×Int×(List Int))):Option ((List Int)×Int×Int×(List Int)×Int×Int×(List Int)):=ZpT (fun v_ i x_ carry t17 t18 i_1 t24 t25 j out=>rec_ (v_,i,x_,carry,t17,t18,i_1,t24,t25,j,out)) s.1 s.2.1 s.2.2.1 s.2.2.2.1 s.2.2.2.2.1 s.2.2.2.2.2.1 s.2.2.2.2.2.2.1 s.2.2.2.2.2.2.2.1 s.2.2.2.2.2.2.2.2.1 s.2.2.2.2.2.2.2.2.2.1 s.2.2.2.2.2.2.2.2.2.2
theorem Zux:∀n s,ZsY (n+1) s=Zrd (ZsY n) s:=fun _ _=>rfl
def ZpU (rec_:(List Int)→(List Int)→Int→Int→(List Int)→Option (List Int)) (v_:(List Int)) (t17:(List Int)) (t18:Int) (i:Int) (out:(List Int)):Option (List Int):=
 bif (decide (i < t18))then (
  (idx t17 i).bind fun x_=>
  (Zqt big v_ i x_ (0:Int) t17 t18 i v_ (v_.length:Int) (0:Int) out).bind fun(x0,x1,x2,x3,x4,x5,x6)=>ZrW rec_ x0 x1 x2 x3 x4 x5 x6
 )else (
  some out
 )
def Zpm:Nat→(List Int)→(List Int)→Int→Int→(List Int)→Option (List Int)
 |0,_,_,_,_,_=>none
 |n_+1,v_,t17,t18,i,out=>ZpU (Zpm n_) v_ t17 t18 i out
def ZsZ (n:Nat) (s:((List Int)×(List Int)×Int×Int×(List Int))):Option (List Int):=Zpm n s.1 s.2.1 s.2.2.1 s.2.2.2.1 s.2.2.2.2
def Zre (rec_:((List Int)×(List Int)×Int×Int×(List Int))→Option (List Int)) (s:((List Int)×(List Int)×Int×Int×(List Int))):Option (List Int):=ZpU (fun v_ t17 t18 i out=>rec_ (v_,t17,t18,i,out)) s.1 s.2.1 s.2.2.1 s.2.2.2.1 s.2.2.2.2
theorem Zuy:∀n s,ZsZ (n+1) s=Zre (ZsZ n) s:=fun _ _=>rfl
def ZoH (w_:(List Int)) (v_:(List Int)):Option (List Int):=
 chk (inK .i64 ((w_.length:Int)+(v_.length:Int))) <|
 chk (mkOk ((w_.length:Int)+(v_.length:Int)) ((w_.length:Int)+(v_.length:Int)) 4) <|
 (Zpm big v_ w_ (w_.length:Int) (0:Int) (List.replicate (((w_.length:Int)+(v_.length:Int))).toNat (0:Int))).bind fun x0=>ZrV x0
def ZnK (a:ZnE) (b:ZnE):Option ZnE:=
 (ZoH a.Words b.Words).bind fun q=>
 (Zn0 (!(a.Neg == b.Neg)) q).bind fun q_1=>
 some q_1
def Zrp (t2:ZnE):Option ZnE:=
 some t2
def Zpw (a:ZnE):Option ZnE:=
 bif (!a.Neg)then (
  Zrp (ZnE.mk (decide ((a.Words.length:Int) > 0)) a.Words)
 )else (
  Zrp (ZnE.mk false a.Words)
 )
def Zsf (carry:Int) (out:(List Int)):Option (List Int):=
 chk (ZiZ (out.length+([carry]:(List Int)).length) 4) <|
 (ZnU (out++([carry]:(List Int)))).bind fun q=>
 some q
def Zp6 (rec_:(List Int)→(List Int)→Int→Int→Int→(List Int)→Option (Int×(List Int))) (w_:(List Int)) (v_:(List Int)) (carry:Int) (t20:Int) (i:Int) (out:(List Int)):Option (Int×(List Int)):=
 bif (decide (i < t20))then (
  (Zpv w_ i).bind fun q=>
  (Zpv v_ i).bind fun q_1=>
  (Zq0 q q_1 carry).bind fun(d,carry_1)=>
  chk (ZiZ (out.length+([d]:(List Int)).length) 4) <|
  chk (inK .i64 (i+1)) <|
  rec_ w_ v_ carry_1 t20 (i+1) (out++([d]:(List Int)))
 )else (
  some (carry,out)
 )
def ZqF:Nat→(List Int)→(List Int)→Int→Int→Int→(List Int)→Option (Int×(List Int))
 |0,_,_,_,_,_,_=>none
 |n_+1,w_,v_,carry,t20,i,out=>Zp6 (ZqF n_) w_ v_ carry t20 i out
def Ztl (n:Nat) (s:((List Int)×(List Int)×Int×Int×Int×(List Int))):Option (Int×(List Int)):=ZqF n s.1 s.2.1 s.2.2.1 s.2.2.2.1 s.2.2.2.2.1 s.2.2.2.2.2
def Zrv (rec_:((List Int)×(List Int)×Int×Int×Int×(List Int))→Option (Int×(List Int))) (s:((List Int)×(List Int)×Int×Int×Int×(List Int))):Option (Int×(List Int)):=Zp6 (fun w_ v_ carry t20 i out=>rec_ (w_,v_,carry,t20,i,out)) s.1 s.2.1 s.2.2.1 s.2.2.2.1 s.2.2.2.2.1 s.2.2.2.2.2
theorem ZuH:∀n s,Ztl (n+1) s=Zrv (Ztl n) s:=fun _ _=>rfl
def Zpy (w_:(List Int)) (v_:(List Int)):Option (List Int):=
 chk (inK .i64 ((if (v_.length:Int) > (w_.length:Int)then (v_.length:Int)else (w_.length:Int))+1)) <|
 chk (mkOk 0 ((if (v_.length:Int) > (w_.length:Int)then (v_.length:Int)else (w_.length:Int))+1) 4) <|
 (ZqF big w_ v_ (0:Int) (if (v_.length:Int) > (w_.length:Int)then (v_.length:Int)else (w_.length:Int)) (0:Int) (List.replicate ((0:Int)).toNat (0:Int))).bind fun(x0,x1)=>Zsf x0 x1
def ZrY (out:(List Int)):Option (List Int):=
 (ZnU out).bind fun q=>
 some q
def ZpX (rec_:(List Int)→(List Int)→Int→Int→Int→(List Int)→Option (List Int)) (w_:(List Int)) (v_:(List Int)) (borrow:Int) (t12:Int) (i:Int) (out:(List Int)):Option (List Int):=
 bif (decide (i < t12))then (
  (idx w_ i).bind fun w__e=>
  (Zpv v_ i).bind fun q=>
  (Zqf w__e q borrow).bind fun(q_1,borrow_1)=>
  chk (inR i (out.length:Int)) <|
  chk (inK .i64 (i+1)) <|
  rec_ w_ v_ borrow_1 t12 (i+1) (out.set ((i).toNat) q_1)
 )else (
  some out
 )
def Zqv:Nat→(List Int)→(List Int)→Int→Int→Int→(List Int)→Option (List Int)
 |0,_,_,_,_,_,_=>none
 |n_+1,w_,v_,borrow,t12,i,out=>ZpX (Zqv n_) w_ v_ borrow t12 i out
def Zs1 (n:Nat) (s:((List Int)×(List Int)×Int×Int×Int×(List Int))):Option (List Int):=Zqv n s.1 s.2.1 s.2.2.1 s.2.2.2.1 s.2.2.2.2.1 s.2.2.2.2.2
def Zrh (rec_:((List Int)×(List Int)×Int×Int×Int×(List Int))→Option (List Int)) (s:((List Int)×(List Int)×Int×Int×Int×(List Int))):Option (List Int):=ZpX (fun w_ v_ borrow t12 i out=>rec_ (w_,v_,borrow,t12,i,out)) s.1 s.2.1 s.2.2.1 s.2.2.2.1 s.2.2.2.2.1 s.2.2.2.2.2
theorem ZuA:∀n s,Zs1 (n+1) s=Zrh (Zs1 n) s:=fun _ _=>rfl
def Zpd (w_:(List Int)) (v_:(List Int)):Option (List Int):=
 chk (mkOk (w_.length:Int) (w_.length:Int) 4) <|
 (Zqv big w_ v_ (0:Int) (w_.length:Int) (0:Int) (List.replicate ((w_.length:Int)).toNat (0:Int))).bind fun x0=>ZrY x0
def Zr0 (a:ZnE) (b:ZnE):Option ZnE:=
 bif (a.Neg == b.Neg)then (
  (Zpy a.Words b.Words).bind fun q=>
  (Zn0 a.Neg q).bind fun q_1=>
  some q_1
 )else (
  (Zoc a.Words b.Words).bind fun q_2=>
  bif (decide (q_2≥0))then (
   (Zpd a.Words b.Words).bind fun q_3=>
   (Zn0 a.Neg q_3).bind fun q_4=>
   some q_4
  )else (
   (Zpd b.Words a.Words).bind fun q_5=>
   (Zn0 b.Neg q_5).bind fun q_6=>
   some q_6
  )
 )
def Zti (t13:Bool) (a:ZnA) (b:ZnA):Option Int:=
 bif t13 then (
  some (0:Int)
 )else (
  (ZnK a.Num b.Den).bind fun q=>
  (ZnK b.Num a.Den).bind fun q_1=>
  (Zpw q_1).bind fun q_2=>
  (Zr0 q q_2).bind fun d=>
  bif d.Neg then (
   some (-1:Int)
  )else (
   bif (decide ((d.Words.length:Int) > 0))then (
    some (1:Int)
   )else (
    some (0:Int)
   )
  )
 )
def Ztx (a:ZnA) (b:ZnA):Option Int:=
 (ZoC a).bind fun q=>
 bif (!q)then (
  Zti true a b
 )else (
  (ZoC b).bind fun q_1=>
  Zti (!q_1) a b
 )
def ZtV (a:ZnA):Option Int:=
 (Ztf).bind fun q=>
 (Ztx a q).bind fun q_1=>
 some q_1
def Zuo:Option (List (Int×Zon)):=
 some (setB (k:=(.int .i64)) (v:=(.st 4)) (car:=Zvu) (setB (k:=(.int .i64)) (v:=(.st 4)) (car:=Zvu) (setB (k:=(.int .i64)) (v:=(.st 4)) (car:=Zvu) (setB (k:=(.int .i64)) (v:=(.st 4)) (car:=Zvu) (setB (k:=(.int .i64)) (v:=(.st 4)) (car:=Zvu) ([]:(List (Int×Zon))) 1 (Zon.mk ([116,101,120,116]:Str) (none:Option Nat) (some 237:Option Nat))) 2 (Zon.mk ([98,111,111,108]:Str) (some 238:Option Nat) (some 239:Option Nat))) 3 (Zon.mk ([105,110,116,101,103,101,114]:Str) (some 240:Option Nat) (some 241:Option Nat))) 4 (Zon.mk ([100,101,99,105,109,97,108]:Str) (some 242:Option Nat) (some 241:Option Nat))) 5 (Zon.mk ([100,97,116,101]:Str) (some 243:Option Nat) (some 244:Option Nat)))
def Zu3 (s cs:Str):Option Str:=
 chk (cs.all fun b=>decide (b.toNat < 128)) <| chk (decide (cs.length < 4294967281)) <| some (Lib.trimS s cs)
def ZvU (s:Str):Option Str:=
 (Zu3 s ([32]:Str)).bind fun q=>
 some q
def Zpu (t4:Bool):Option Bool:=
 some t4
def ZoQ (s:Str) (prefix_:Str):Option Bool:=
 bif (decide ((s.length:Int)≥(prefix_.length:Int)))then (
  chk (Zb9 0 (prefix_.length:Int) (s.length:Int)) <|
  Zpu ((s.take ((prefix_.length:Int)).toNat) == prefix_)
 )else (
  Zpu false
 )
def Zp3 (s:Str) (prefix_:Str):Option (Str×Bool):=
 (ZoQ s prefix_).bind fun q=>
 bif (!q)then (
  some (s,false)
 )else (
  chk (Zb9 (prefix_.length:Int) (s.length:Int) (s.length:Int)) <|
  some ((s.drop ((prefix_.length:Int)).toNat),true)
 )
def Ztz (s:Str) (prefix_:Str):Option (Str×Bool):=
 (Zp3 s prefix_).bind fun(after,found)=>
 some (after,found)
def ZpS (s:Str) (prefix_:Str):Option Str:=
 (ZoQ s prefix_).bind fun q=>
 bif q then (
  chk (Zb9 (prefix_.length:Int) (s.length:Int) (s.length:Int)) <|
  some (s.drop ((prefix_.length:Int)).toNat)
 )else (
  some s
 )
def Zto (s:Str) (prefix_:Str):Option Str:=
 (ZpS s prefix_).bind fun q=>
 some q
def Zp2 (s:Str) (c:Int):Option Int:=
 some (Lib.indexByte s c.toNat.toUInt8)
def Zqg (s:Str) (substr:Str) (n:Int) (t16:Bool):Option Int:=
 bif t16 then (
  some (0:Int)
 )else (
  bif (n == 1)then (
   (idx substr 0).bind fun c=>
   (Zp2 s ((c.toNat:Nat):Int)).bind fun q=>
   some q
  )else (
   bif (decide (n≥(s.length:Int)))then (
    some (-1:Int)
   )else (
    none
   )
  )
 )
def ZqV (s:Str) (substr:Str):Option Int:=
 bif ((substr.length:Int) == 0)then (
  Zqg s substr (substr.length:Int) true
 )else (
  Zqg s substr (substr.length:Int) (substr == s)
 )
def Zru (s:Str) (sep:Str):Option (Str×Str×Bool):=
 (ZqV s sep).bind fun i=>
 bif (decide (i≥0))then (
  chk (Zb9 0 i (s.length:Int)) <|
  chk (inK .i64 (i+(sep.length:Int))) <|
  chk (Zb9 (i+(sep.length:Int)) (s.length:Int) (s.length:Int)) <|
  some ((s.take (i).toNat),(s.drop ((i+(sep.length:Int))).toNat),true)
 )else (
  some (s,([]:Str),false)
 )
def Zuw (s:Str) (sep:Str):Option (Str×Str×Bool):=
 (Zru s sep).bind fun(before,after,found)=>
 some (before,after,found)
def Zr4 (t4:Bool):Option Bool:=
 some t4
def Ztg (s:Str) (most:Int):Option Bool:=
 bif (decide ((s.length:Int)≥1))then (
  bif (decide ((s.length:Int)≤most))then (
   (Zu3 s ([48,49,50,51,52,53,54,55,56,57]:Str)).bind fun q=>
   Zr4 (q == ([]:Str))
  )else (
   Zr4 false
  )
 )else (
  Zr4 false
 )
def ZrF (neg:Bool) (num:(List Int)) (den:(List Int)) (t2:Bool) (t2_1:Bool) (t2_2:(List Int)) (t2_3:(List Int)):Option (ZnA×Bool):=
 (Zn0 neg num).bind fun q=>
 (Zn0 false den).bind fun q_1=>
 (ZoM q q_1).bind fun q_2=>
 some (q_2,true)
def Zvi (rec_:Bool→(List Int)→(List Int)→(List Int)→Int→Int→Bool→Bool→(List Int)→(List Int)→Option (Bool×(List Int)×(List Int)×Bool×Bool×(List Int)×(List Int))) (neg:Bool) (num:(List Int)) (ten:(List Int)) (den:(List Int)) (t63:Int) (t64:Int) (t2:Bool) (t2_1:Bool) (t2_2:(List Int)) (t2_3:(List Int)):Option (Bool×(List Int)×(List Int)×Bool×Bool×(List Int)×(List Int)):=
 bif (decide (t64 < t63))then (
  (ZoH den ten).bind fun den_1=>
  chk (inK .i64 (t64+1)) <|
  rec_ neg num ten den_1 t63 (t64+1) t2 t2_1 t2_2 t2_3
 )else (
  some (neg,num,den,t2,t2_1,t2_2,t2_3)
 )
def Zs8:Nat→Bool→(List Int)→(List Int)→(List Int)→Int→Int→Bool→Bool→(List Int)→(List Int)→Option (Bool×(List Int)×(List Int)×Bool×Bool×(List Int)×(List Int))
 |0,_,_,_,_,_,_,_,_,_,_=>none
 |n_+1,neg,num,ten,den,t63,t64,t2,t2_1,t2_2,t2_3=>Zvi (Zs8 n_) neg num ten den t63 t64 t2 t2_1 t2_2 t2_3
def Zub (neg:Bool) (back:Str) (num:(List Int)) (ten:(List Int)) (t2:Bool) (t2_1:Bool) (den:(List Int)) (t2_2:(List Int)) (t2_3:(List Int)):Option (ZnA×Bool):=
 (Zs8 big neg num ten den (back.length:Int) (0:Int) t2 t2_1 t2_2 t2_3).bind fun(x0,x1,x2,x3,x4,x5,x6)=>ZrF x0 x1 x2 x3 x4 x5 x6
def Zvj (rec_:Bool→Str→(List Int)→(List Int)→Int→Int→Bool→Bool→(List Int)→(List Int)→(List Int)→(List Int)→Option (Bool×Str×(List Int)×(List Int)×Bool×Bool×(List Int)×(List Int)×(List Int))) (neg:Bool) (back:Str) (num:(List Int)) (ten:(List Int)) (t48:Int) (t49:Int) (t2:Bool) (t2_1:Bool) (den:(List Int)) (t47:(List Int)) (t2_2:(List Int)) (t2_3:(List Int)):Option (Bool×Str×(List Int)×(List Int)×Bool×Bool×(List Int)×(List Int)×(List Int)):=
 bif (decide (t49 < t48))then (
  chk (inR t49 (t47.length:Int)) <|
  (t47[(t49).toNat]?).bind fun d=>
  (ZoH num ten).bind fun q=>
  (Zp0 (IntKind.wrap .u64 (IntKind.wrap .u8 (d - 48)))).bind fun q_1=>
  (Zpy q q_1).bind fun num_1=>
  chk (inK .i64 (t49+1)) <|
  rec_ neg back num_1 ten t48 (t49+1) t2 t2_1 den t47 t2_2 t2_3
 )else (
  some (neg,back,num,ten,t2,t2_1,den,t2_2,t2_3)
 )
def Zs9:Nat→Bool→Str→(List Int)→(List Int)→Int→Int→Bool→Bool→(List Int)→(List Int)→(List Int)→(List Int)→Option (Bool×Str×(List Int)×(List Int)×Bool×Bool×(List Int)×(List Int)×(List Int))
 |0,_,_,_,_,_,_,_,_,_,_,_,_=>none
 |n_+1,neg,back,num,ten,t48,t49,t2,t2_1,den,t47,t2_2,t2_3=>Zvj (Zs9 n_) neg back num ten t48 t49 t2 t2_1 den t47 t2_2 t2_3
def ZrG (neg:Bool) (front:Str) (back:Str) (t39:Bool) (t2:Bool) (t2_1:Bool) (t2_2:(List Int)) (t2_3:(List Int)):Option (ZnA×Bool):=
 bif t39 then (
  some ((ZnA.mk (ZnE.mk false ([]:(List Int))) (ZnE.mk false ([]:(List Int)))),false)
 )else (
  (Zn6 ([1]:List Int)).bind fun den=>
  chk (decide (front.length+back.length≤Zq)) <|
  chk (decide ((front++back).length≤281474976710656)) <|
  (Zs9 big neg back ([]:(List Int)) ([10]:(List Int)) (((front++back).map fun b=>((b.toNat:Nat):Int)).length:Int) (0:Int) t2 t2_1 den ((front++back).map fun b=>((b.toNat:Nat):Int)) t2_2 t2_3).bind fun(x0,x1,x2,x3,x4,x5,x6,x7,x8)=>Zub x0 x1 x2 x3 x4 x5 x6 x7 x8
 )
def Zta (body:Str) (neg:Bool) (t2:Bool) (t2_1:Bool) (t2_2:(List Int)) (t2_3:(List Int)):Option (ZnA×Bool):=
 (Zuw body ([46]:Str)).bind fun(front,back,point)=>
 (Ztg front 15).bind fun q=>
 bif (!q)then (
  ZrG neg front back true t2 t2_1 t2_2 t2_3
 )else (
  bif point then (
   (Ztg back 9).bind fun q_1=>
   ZrG neg front back (!q_1) t2 t2_1 t2_2 t2_3
  )else (
   ZrG neg front back false t2 t2_1 t2_2 t2_3
  )
 )
def ZqH (text:Str):Option (ZnA×Bool):=
 (Ztz text ([45]:Str)).bind fun(body,neg)=>
 bif (!neg)then (
  (Zto text ([43]:Str)).bind fun body_1=>
  Zta body_1 neg false false ([]:(List Int)) ([]:(List Int))
 )else (
  Zta body neg false false ([]:(List Int)) ([]:(List Int))
 )
def ZtH (s cs:Str):Option Str:=
 chk (cs.all fun b=>decide (b.toNat < 128)) <| chk (decide (cs.length < 4294967281)) <| some (Lib.trimLeftS s cs)
def ZuE (s cs:Str):Option Str:=
 chk (cs.all fun b=>decide (b.toNat < 128)) <| chk (decide (cs.length < 4294967281)) <| some (Lib.trimRightS s cs)
def ZuU (zero:Str):Option Str:=
 some zero
def ZvP (rec_:Str→(List Str)→Int→Int→Option (Out Str Str)) (zero:Str) (t6:(List Str)) (t7:Int) (t8:Int):Option (Out Str Str):=
 bif (decide (t8 < t7))then (
  (idx t6 t8).bind fun val=>
  bif (!(val == zero))then (
   some (.ret val)
  )else (
   chk (inK .i64 (t8+1)) <|
   rec_ zero t6 t7 (t8+1)
  )
 )else (
  some (.brk zero)
 )
def ZtO:Nat→Str→(List Str)→Int→Int→Option (Out Str Str)
 |0,_,_,_,_=>none
 |n_+1,zero,t6,t7,t8=>ZvP (ZtO n_) zero t6 t7 t8
def ZuK (vals:(List Str)):Option Str:=
 (ZtO big ([]:Str) vals (vals.length:Int) (0:Int)).bind fun
  | .ret q_=>some q_
  | .brk x0=>ZuU x0
def ZtE (out:Str):Option (Str×Bool):=
 some (out,true)
def ZtF (out:Str) (t43:Bool):Option (Str×Bool):=
 bif t43 then (
  chk (decide (([45]:Str).length+out.length≤Zq)) <|
  ZtE (([45]:Str)++out)
 )else (
  ZtE out
 )
def ZtG (t:Str) (out:Str):Option (Str×Bool):=
 (idx t 0).bind fun c=>
 bif (((c.toNat:Nat):Int) == 45)then (
  ZtF out (!(out == ([48]:Str)))
 )else (
  ZtF out false
 )
def ZsO (t:Str):Option (Str×Bool):=
 (ZqH t).bind fun(q,ok)=>
 bif (!ok)then (
  some (([]:Str),false)
 )else (
  (ZtH t ([43,45]:Str)).bind fun q_1=>
  (Zuw q_1 ([46]:Str)).bind fun(front,back,q_2)=>
  (ZtH front ([48]:Str)).bind fun front_1=>
  (ZuE back ([48]:Str)).bind fun back_1=>
  (ZuK ([front_1,([48]:Str)]:(List Str))).bind fun out=>
  bif (!(back_1 == ([]:Str)))then (
   chk (decide (([46]:Str).length+back_1.length≤Zq)) <|
   chk (decide (out.length+(([46]:Str)++back_1).length≤Zq)) <|
   ZtG t (out++(([46]:Str)++back_1))
  )else (
   ZtG t out
  )
 )
def Zr9 (n:Int) (s:Str):Option (Str×Bool):=
 (Zuo).bind fun q=>
 bif (!(Zg3 (k:=(.int .i64)) (v:=(.st 4)) (car:=Zvu) q n).isSome)then (
  some (([]:Str),false)
 )else (
  bif (Option.isNone (((Zg3 (k:=(.int .i64)) (v:=(.st 4)) (car:=Zvu) q n).getD (Zon.mk ([]:Str) (none:Option Nat) (none:Option Nat))).canonical))then (
   some (s,true)
  )else (
   (ZvU s).bind fun q_1=>
   chk (decide (((Zg3 (k:=(.int .i64)) (v:=(.st 4)) (car:=Zvu) q n).getD (Zon.mk ([]:Str) (none:Option Nat) (none:Option Nat))).canonical=some 242)) <|
   (ZsO q_1).bind fun(q_2,q_3)=>
   some (q_2,q_3)
  )
 )
def Zup (n:Int) (s:Str):Option (ZnA×Bool):=
 (Zr9 n s).bind fun(t,ok)=>
 bif (!ok)then (
  some ((ZnA.mk (ZnE.mk false ([]:(List Int))) (ZnE.mk false ([]:(List Int)))),false)
 )else (
  (Zuo).bind fun q=>
  chk (decide (((Zg3 (k:=(.int .i64)) (v:=(.st 4)) (car:=Zvu) q n).getD (Zon.mk ([]:Str) (none:Option Nat) (none:Option Nat))).value=some 241)) <|
  (ZqH t).bind fun(q_1,q_2)=>
  some (q_1,q_2)
 )
def ZpR (c:ZnC):Option (ZnA×Bool):=
 bif c.Null then (
  (Ztf).bind fun q=>
  some (q,false)
 )else (
  (Zup 4 c.Text).bind fun(q_1,q_2)=>
  some (q_1,q_2)
 )
def ZsW (full:Int) (n:Int) (t2:Bool) (t2_1:Bool) (t2_2:(List Int)) (t2_3:(List Int)):Option ZnA:=
 (Zt1 n (if (1:Int) > full then (1:Int)else full)).bind fun q=>
 some q
def ZqA (rec_:Int→Int→(List ZnC)→Int→Int→Bool→Bool→(List Int)→(List Int)→Option (Int×Int×Bool×Bool×(List Int)×(List Int))) (full:Int) (n:Int) (t10:(List ZnC)) (t11:Int) (t12:Int) (t2:Bool) (t2_1:Bool) (t2_2:(List Int)) (t2_3:(List Int)):Option (Int×Int×Bool×Bool×(List Int)×(List Int)):=
 chk (inK .i64 (t12+1)) <|
 rec_ full n t10 t11 (t12+1) t2 t2_1 t2_2 t2_3
def ZqU (rec_:Int→Int→(List ZnC)→Int→Int→Bool→Bool→(List Int)→(List Int)→Option (Int×Int×Bool×Bool×(List Int)×(List Int))) (full:Int) (n:Int) (t10:(List ZnC)) (t11:Int) (t12:Int) (t2:Bool) (t2_1:Bool) (t2_2:(List Int)) (t2_3:(List Int)):Option (Int×Int×Bool×Bool×(List Int)×(List Int)):=
 bif (decide (t12 < t11))then (
  (idx t10 t12).bind fun x_=>
  bif x_.Null then (
   ZqA rec_ full n t10 t11 t12 t2 t2_1 t2_2 t2_3
  )else (
   chk (inK .i64 (full+1)) <|
   (ZpR x_).bind fun(q,ok)=>
   bif ok then (
    chk (inK .i64 (n+1)) <|
    ZqA rec_ (full+1) (n+1) t10 t11 t12 t2 t2_1 t2_2 t2_3
   )else (
    ZqA rec_ (full+1) n t10 t11 t12 t2 t2_1 t2_2 t2_3
   )
  )
 )else (
  some (full,n,t2,t2_1,t2_2,t2_3)
 )
def Zqz:Nat→Int→Int→(List ZnC)→Int→Int→Bool→Bool→(List Int)→(List Int)→Option (Int×Int×Bool×Bool×(List Int)×(List Int))
 |0,_,_,_,_,_,_,_,_,_=>none
 |n_+1,full,n,t10,t11,t12,t2,t2_1,t2_2,t2_3=>ZqU (Zqz n_) full n t10 t11 t12 t2 t2_1 t2_2 t2_3
def ZtI (n:Nat) (s:(Int×Int×(List ZnC)×Int×Int×Bool×Bool×(List Int)×(List Int))):Option (Int×Int×Bool×Bool×(List Int)×(List Int)):=Zqz n s.1 s.2.1 s.2.2.1 s.2.2.2.1 s.2.2.2.2.1 s.2.2.2.2.2.1 s.2.2.2.2.2.2.1 s.2.2.2.2.2.2.2.1 s.2.2.2.2.2.2.2.2
def Zsn (rec_:(Int×Int×(List ZnC)×Int×Int×Bool×Bool×(List Int)×(List Int))→Option (Int×Int×Bool×Bool×(List Int)×(List Int))) (s:(Int×Int×(List ZnC)×Int×Int×Bool×Bool×(List Int)×(List Int))):Option (Int×Int×Bool×Bool×(List Int)×(List Int)):=ZqU (fun full n t10 t11 t12 t2 t2_1 t2_2 t2_3=>rec_ (full,n,t10,t11,t12,t2,t2_1,t2_2,t2_3)) s.1 s.2.1 s.2.2.1 s.2.2.2.1 s.2.2.2.2.1 s.2.2.2.2.2.1 s.2.2.2.2.2.2.1 s.2.2.2.2.2.2.2.1 s.2.2.2.2.2.2.2.2
theorem Zu7:∀n s,ZtI (n+1) s=Zsn (ZtI n) s:=fun _ _=>rfl
def ZtJ (c:ZnG):Option ZnA:=
 (Zqz big (0:Int) (0:Int) c.Cells (c.Cells.length:Int) (0:Int) false false ([]:(List Int)) ([]:(List Int))).bind fun(x0,x1,x2,x3,x4,x5)=>ZsW x0 x1 x2 x3 x4 x5
def Zo7 (c:ZnG):Option ZnA:=ZwR (ZtJ c)
def ZtM (a:ZnA) (b:ZnA):Option (ZnE×ZnE):=
 (ZnK a.Num b.Den).bind fun q=>
 (ZnK b.Num a.Den).bind fun q_1=>
 (Zr0 q q_1).bind fun num=>
 (ZnK a.Den b.Den).bind fun den=>
 some (num,den)
def Zo8 (t18:Bool) (a:ZnA) (b:ZnA) (t6:Bool) (t6_1:Bool) (t6_2:(List Int)) (t6_3:(List Int)):Option (ZnA×Int):=
 bif t18 then (
  some ((ZnA.mk (ZnE.mk false ([]:(List Int))) (ZnE.mk false ([]:(List Int)))),1)
 )else (
  (ZtM a b).bind fun(num,den)=>
  bif ((den.Words.length:Int) == 0)then (
   some ((ZnA.mk (ZnE.mk false ([]:(List Int))) (ZnE.mk false ([]:(List Int)))),8)
  )else (
   (ZoM num den).bind fun f=>
   bif (decide ((if (f.Den.Words.length:Int) > (f.Num.Words.length:Int)then (f.Den.Words.length:Int)else (f.Num.Words.length:Int)) > 256))then (
    some ((ZnA.mk (ZnE.mk false ([]:(List Int))) (ZnE.mk false ([]:(List Int)))),3)
   )else (
    some (f,0)
   )
  )
 )
def Zor (a:ZnA) (b:ZnA):Option (ZnA×Int):=
 (ZoC a).bind fun q=>
 bif (!q)then (
  Zo8 true a b false false ([]:(List Int)) ([]:(List Int))
 )else (
  (ZoC b).bind fun q_1=>
  Zo8 (!q_1) a b false false ([]:(List Int)) ([]:(List Int))
 )
def Ztv (a:ZnA) (b:ZnA):Option (ZnA×Int):=
 (ZoC b).bind fun q=>
 bif (!q)then (
  some ((ZnA.mk (ZnE.mk false ([]:(List Int))) (ZnE.mk false ([]:(List Int)))),1)
 )else (
  (Zpw b.Num).bind fun q_1=>
  (Zor a (ZnA.mk q_1 b.Den)).bind fun(q_2,q_3)=>
  some (q_2,q_3)
 )
def ZsX (f:ZnA) (a1:Int):Option ZnA:=
 some f
def ZuF (a:ZnA) (b:ZnA):Option ZnA:=
 (Ztv a b).bind fun(q,q_1)=>
 (ZsX q q_1).bind fun q_2=>
 some q_2
def ZsA (a:ZnA) (b:ZnA):Option (ZnA×Int):=
 (Zor a b).bind fun(q,q_1)=>
 some (q,q_1)
def ZuG (a:ZnA) (b:ZnA):Option ZnA:=
 (ZsA a b).bind fun(q,q_1)=>
 (ZsX q q_1).bind fun q_2=>
 some q_2
def ZtN (a:ZnA) (b:ZnA):Option (ZnE×ZnE):=
 (ZnK a.Num b.Den).bind fun num=>
 (ZnK a.Den b.Num).bind fun den=>
 some (num,den)
def ZoR (t18:Bool) (a:ZnA) (b:ZnA) (t6:Bool) (t6_1:Bool) (t6_2:(List Int)) (t6_3:(List Int)):Option (ZnA×Int):=
 bif t18 then (
  some ((ZnA.mk (ZnE.mk false ([]:(List Int))) (ZnE.mk false ([]:(List Int)))),1)
 )else (
  (ZtN a b).bind fun(num,den)=>
  bif ((den.Words.length:Int) == 0)then (
   some ((ZnA.mk (ZnE.mk false ([]:(List Int))) (ZnE.mk false ([]:(List Int)))),8)
  )else (
   (ZoM num den).bind fun f=>
   bif (decide ((if (f.Den.Words.length:Int) > (f.Num.Words.length:Int)then (f.Den.Words.length:Int)else (f.Num.Words.length:Int)) > 256))then (
    some ((ZnA.mk (ZnE.mk false ([]:(List Int))) (ZnE.mk false ([]:(List Int)))),3)
   )else (
    some (f,0)
   )
  )
 )
def Zpt (a:ZnA) (b:ZnA):Option (ZnA×Int):=
 (ZoC a).bind fun q=>
 bif (!q)then (
  ZoR true a b false false ([]:(List Int)) ([]:(List Int))
 )else (
  (ZoC b).bind fun q_1=>
  ZoR (!q_1) a b false false ([]:(List Int)) ([]:(List Int))
 )
def Ztw (a:ZnA) (b:ZnA):Option (ZnA×Int):=
 (Zpt a b).bind fun(q,q_1)=>
 some (q,q_1)
def Zvy (a:ZnA) (b:ZnA):Option ZnA:=
 (Ztw a b).bind fun(q,q_1)=>
 (ZsX q q_1).bind fun q_2=>
 some q_2
def ZrB (t4:Bool) (t4_1:Bool) (values:ZnA) (Zky:ZnA) (apart:ZnA) (t4_2:(List Int)) (t4_3:(List Int)):Option ZnA:=
 (ZuG values values).bind fun q=>
 (ZuG q Zky).bind fun q_1=>
 (Zt1 1 1).bind fun q_2=>
 (ZuF q_2 apart).bind fun q_3=>
 (ZuG q_1 q_3).bind fun sum=>
 (Zt1 4 1).bind fun q_4=>
 (Zvy sum q_4).bind fun q_5=>
 some q_5
def ZqE (t24:Bool) (a:ZnG) (b:ZnG) (t4:Bool) (t4_1:Bool) (values:ZnA) (Zky:ZnA) (t4_2:(List Int)) (t4_3:(List Int)):Option ZnA:=
 bif t24 then (
  (Ztf).bind fun q=>
  some q
 )else (
  (Zo7 a).bind fun q_1=>
  (Zo7 b).bind fun q_2=>
  (ZuF q_1 q_2).bind fun apart=>
  (ZtV apart).bind fun q_3=>
  bif (decide (q_3 < 0))then (
   (Ztf).bind fun q_4=>
   (ZuF q_4 apart).bind fun apart_1=>
   ZrB t4 t4_1 values Zky apart_1 t4_2 t4_3
  )else (
   ZrB t4 t4_1 values Zky apart t4_2 t4_3
  )
 )
def ZpP (a:ZnG) (b:ZnG):Option ZnA:=
 (Zrc a b).bind fun values=>
 (ZpQ a.Name b.Name).bind fun Zky=>
 (ZtV values).bind fun q=>
 bif (q == 0)then (
  (ZtV Zky).bind fun q_1=>
  ZqE (q_1 == 0) a b false false values Zky ([]:(List Int)) ([]:(List Int))
 )else (
  ZqE false a b false false values Zky ([]:(List Int)) ([]:(List Int))
 )
def Ztk (w_:(List Int)):Option (List Int):=
 some w_
def Zrr (rec_:(List Int)→Option (List Int)) (w_:(List Int)) (t14:Bool):Option (List Int):=
 bif t14 then (
  chk (inK .i64 ((w_.length:Int) - 1)) <|
  chk (Zb9 0 ((w_.length:Int) - 1) (w_.length:Int)) <|
  rec_ (w_.take (((w_.length:Int) - 1)).toNat)
 )else (
  some w_
 )
def ZsH (rec_:(List Int)→Option (List Int)) (w_:(List Int)):Option (List Int):=
 bif (decide ((w_.length:Int) > 0))then (
  chk (inK .i64 ((w_.length:Int) - 1)) <|
  (idx w_ ((w_.length:Int) - 1)).bind fun w__e=>
  Zrr rec_ w_ (w__e == 0)
 )else (
  Zrr rec_ w_ false
 )
def Zod:Nat→(List Int)→Option (List Int)
 |0,_=>none
 |n_+1,w_=>ZsH (Zod n_) w_
def ZnS (w_:(List Int)):Option (List Int):=
 (Zod big w_).bind fun x0=>Ztk x0
def Zqr (t4:ZnE):Option ZnE:=
 some t4
def ZnM (neg:Bool) (w_:(List Int)):Option ZnE:=
 (ZnS w_).bind fun w__1=>
 bif neg then (
  Zqr (ZnE.mk (decide ((w__1.length:Int) > 0)) w__1)
 )else (
  Zqr (ZnE.mk false w__1)
 )
def Zpq (n:Int) (u:Int) (t2:Bool) (t2_1:(List Int)):Option ZnE:=
 chk (decide (0≤(32:Int))) <|
 (ZnM (decide (n < 0)) ([(IntKind.wrap .u32 u),(IntKind.wrap .u32 (shrK .u64 u 32))]:(List Int))).bind fun q=>
 some q
def Zoe (n:Int):Option ZnE:=
 bif (decide (n < 0))then (
  Zpq n (IntKind.wrap .u64 (0 - (IntKind.wrap .u64 n))) false ([]:(List Int))
 )else (
  Zpq n (IntKind.wrap .u64 n) false ([]:(List Int))
 )
def ZnW (t2:Bool):Option Bool:=
 some t2
def Zn8 (a:ZnE):Option Bool:=
 bif (decide ((a.Words.length:Int)≤256))then (
  bif ((a.Words.length:Int) == 0)then (
   bif (!a.Neg)then (
    ZnW true
   )else (
    bif (decide ((a.Words.length:Int) > 0))then (
     chk (inK .i64 ((a.Words.length:Int) - 1)) <|
     (idx a.Words ((a.Words.length:Int) - 1)).bind fun Word=>
     ZnW (Word != 0)
    )else (
     ZnW false
    )
   )
  )else (
   bif (decide ((a.Words.length:Int) > 0))then (
    chk (inK .i64 ((a.Words.length:Int) - 1)) <|
    (idx a.Words ((a.Words.length:Int) - 1)).bind fun Word_1=>
    ZnW (Word_1 != 0)
   )else (
    ZnW false
   )
  )
 )else (
  ZnW false
 )
def Zrs (out:(List Int)):Option (List Int):=
 (ZnS out).bind fun q=>
 some q
def Zo4 (rec_:(List Int)→Int→Int→(List Int)→Option (List Int)) (a:(List Int)) (t9:Int) (i:Int) (out:(List Int)):Option (List Int):=
 chk (inK .i64 (i+1)) <|
 rec_ a t9 (i+1) out
def ZpB (rec_:(List Int)→Int→Int→(List Int)→Option (List Int)) (a:(List Int)) (t9:Int) (i:Int) (out:(List Int)):Option (List Int):=
 bif (decide (i < t9))then (
  chk (inR i (out.length:Int)) <|
  (out[(i).toNat]?).bind fun out_e=>
  chk (decide (0≤(1:Int))) <|
  chk (inR i (out.length:Int)) <|
  chk (inK .i64 (i+1)) <|
  bif (decide ((i+1) < (a.length:Int)))then (
   chk (inR i ((out.set ((i).toNat) (shrK .u32 out_e 1)).length:Int)) <|
   ((out.set ((i).toNat) (shrK .u32 out_e 1))[(i).toNat]?).bind fun e_e=>
   chk (inK .i64 (i+1)) <|
   (idx a (i+1)).bind fun a_e=>
   chk (decide (0≤(31:Int))) <|
   chk (inR i ((out.set ((i).toNat) (shrK .u32 out_e 1)).length:Int)) <|
   Zo4 rec_ a t9 i ((out.set ((i).toNat) (shrK .u32 out_e 1)).set ((i).toNat) (orK .u32 e_e (shlK .u32 a_e 31)))
  )else (
   Zo4 rec_ a t9 i (out.set ((i).toNat) (shrK .u32 out_e 1))
  )
 )else (
  some out
 )
def Zo3:Nat→(List Int)→Int→Int→(List Int)→Option (List Int)
 |0,_,_,_,_=>none
 |n_+1,a,t9,i,out=>ZpB (Zo3 n_) a t9 i out
def ZsI (n:Nat) (s:((List Int)×Int×Int×(List Int))):Option (List Int):=Zo3 n s.1 s.2.1 s.2.2.1 s.2.2.2
def ZqS (rec_:((List Int)×Int×Int×(List Int))→Option (List Int)) (s:((List Int)×Int×Int×(List Int))):Option (List Int):=ZpB (fun a t9 i out=>rec_ (a,t9,i,out)) s.1 s.2.1 s.2.2.1 s.2.2.2
theorem Zug:∀n s,ZsI (n+1) s=ZqS (ZsI n) s:=fun _ _=>rfl
def Zoh (a:(List Int)):Option (List Int):=
 chk (ZiZ (([]:(List Int)).length+a.length) 4) <|
 (Zo3 big a ((([]:(List Int))++a).length:Int) (0:Int) (([]:(List Int))++a)).bind fun x0=>Zrs x0
def ZrT:Option Int:=
 some (0:Int)
def ZpK (rec_:(List Int)→(List Int)→Int→Option (Out Unit Int)) (a:(List Int)) (b:(List Int)) (i:Int):Option (Out Unit Int):=
 bif (decide (i≥0))then (
  (idx a i).bind fun a_e=>
  (idx b i).bind fun b_e=>
  bif (decide (a_e < b_e))then (
   some (.ret (-1:Int))
  )else (
   (idx a i).bind fun a_e_1=>
   (idx b i).bind fun b_e_1=>
   bif (decide (a_e_1 > b_e_1))then (
    some (.ret (1:Int))
   )else (
    chk (inK .i64 (i - 1)) <|
    rec_ a b (i - 1)
   )
  )
 )else (
  some (.brk ())
 )
def Zqq:Nat→(List Int)→(List Int)→Int→Option (Out Unit Int)
 |0,_,_,_=>none
 |n_+1,a,b,i=>ZpK (Zqq n_) a b i
def ZsT (n:Nat) (s:((List Int)×(List Int)×Int)):Option (Out Unit Int):=Zqq n s.1 s.2.1 s.2.2
def Zq9 (rec_:((List Int)×(List Int)×Int)→Option (Out Unit Int)) (s:((List Int)×(List Int)×Int)):Option (Out Unit Int):=ZpK (fun a b i=>rec_ (a,b,i)) s.1 s.2.1 s.2.2
theorem Zuu:∀n s,ZsT (n+1) s=Zq9 (ZsT n) s:=fun _ _=>rfl
def Zn1 (a:(List Int)) (b:(List Int)):Option Int:=
 bif ((a.length:Int) != (b.length:Int))then (
  bif (decide ((a.length:Int) < (b.length:Int)))then (
   some (-1:Int)
  )else (
   some (1:Int)
  )
 )else (
  chk (inK .i64 ((a.length:Int) - 1)) <|
  (Zqq big a b ((a.length:Int) - 1)).bind fun
   | .ret q_=>some q_
   | .brk ()=>ZrT
 )
def ZrK (out:(List Int)):Option (List Int):=
 (ZnS out).bind fun q=>
 some q
def Zpf (rec_:(List Int)→(List Int)→Int→Int→(List Int)→Option (List Int)) (a:(List Int)) (b:(List Int)) (c:Int) (i:Int) (out:(List Int)):Option (List Int):=
 chk (ZiZ (out.length+([(IntKind.wrap .u32 c)]:(List Int)).length) 4) <|
 chk (decide (0≤(32:Int))) <|
 chk (inK .i64 (i+1)) <|
 rec_ a b (shrK .i64 c 32) (i+1) (out++([(IntKind.wrap .u32 c)]:(List Int)))
def ZpG (rec_:(List Int)→(List Int)→Int→Int→(List Int)→Option (List Int)) (a:(List Int)) (b:(List Int)) (c:Int) (i:Int) (out:(List Int)):Option (List Int):=
 bif (decide (i < (a.length:Int)))then (
  (idx a i).bind fun a_e=>
  chk (inK .i64 (c+(IntKind.wrap .i64 a_e))) <|
  bif (decide (i < (b.length:Int)))then (
   (idx b i).bind fun b_e=>
   chk (inK .i64 ((c+(IntKind.wrap .i64 a_e)) - (IntKind.wrap .i64 b_e))) <|
   Zpf rec_ a b ((c+(IntKind.wrap .i64 a_e)) - (IntKind.wrap .i64 b_e)) i out
  )else (
   Zpf rec_ a b (c+(IntKind.wrap .i64 a_e)) i out
  )
 )else (
  some out
 )
def Zpe:Nat→(List Int)→(List Int)→Int→Int→(List Int)→Option (List Int)
 |0,_,_,_,_,_=>none
 |n_+1,a,b,c,i,out=>ZpG (Zpe n_) a b c i out
def ZsP (n:Nat) (s:((List Int)×(List Int)×Int×Int×(List Int))):Option (List Int):=Zpe n s.1 s.2.1 s.2.2.1 s.2.2.2.1 s.2.2.2.2
def Zq3 (rec_:((List Int)×(List Int)×Int×Int×(List Int))→Option (List Int)) (s:((List Int)×(List Int)×Int×Int×(List Int))):Option (List Int):=ZpG (fun a b c i out=>rec_ (a,b,c,i,out)) s.1 s.2.1 s.2.2.1 s.2.2.2.1 s.2.2.2.2
theorem Zuq:∀n s,ZsP (n+1) s=Zq3 (ZsP n) s:=fun _ _=>rfl
def Zol (a:(List Int)) (b:(List Int)):Option (List Int):=
 (Zpe big a b (0:Int) (0:Int) ([]:(List Int))).bind fun x0=>ZrK x0
def Zq2 (d:Int) (out:(List Int)):Option (List Int):=
 chk (ZiZ (out.length+([d]:(List Int)).length) 4) <|
 (ZnS (out++([d]:(List Int)))).bind fun q=>
 some q
def Zpp (rec_:(List Int)→Int→Int→(List Int)→Option (Int×(List Int))) (a:(List Int)) (d:Int) (i:Int) (out:(List Int)):Option (Int×(List Int)):=
 bif (decide (i < (a.length:Int)))then (
  (idx a i).bind fun a_e=>
  chk (decide (0≤(1:Int))) <|
  chk (ZiZ (out.length+([(orK .u32 (shlK .u32 a_e 1) d)]:(List Int)).length) 4) <|
  (idx a i).bind fun a_e_1=>
  chk (decide (0≤(31:Int))) <|
  chk (inK .i64 (i+1)) <|
  rec_ a (shrK .u32 a_e_1 31) (i+1) (out++([(orK .u32 (shlK .u32 a_e 1) d)]:(List Int)))
 )else (
  some (d,out)
 )
def ZpF:Nat→(List Int)→Int→Int→(List Int)→Option (Int×(List Int))
 |0,_,_,_,_=>none
 |n_+1,a,d,i,out=>Zpp (ZpF n_) a d i out
def Zsw (n:Nat) (s:((List Int)×Int×Int×(List Int))):Option (Int×(List Int)):=ZpF n s.1 s.2.1 s.2.2.1 s.2.2.2
def ZqJ (rec_:((List Int)×Int×Int×(List Int))→Option (Int×(List Int))) (s:((List Int)×Int×Int×(List Int))):Option (Int×(List Int)):=Zpp (fun a d i out=>rec_ (a,d,i,out)) s.1 s.2.1 s.2.2.1 s.2.2.2
theorem Zt4:∀n s,Zsw (n+1) s=ZqJ (Zsw n) s:=fun _ _=>rfl
def ZoO (a:(List Int)) (d:Int):Option (List Int):=
 (ZpF big a d (0:Int) ([]:(List Int))).bind fun(x0,x1)=>Zq2 x0 x1
def ZrN (a:(List Int)):Option (List Int):=
 some a
def ZoS (rec_:(List Int)→Int→Option (List Int)) (a:(List Int)) (k:Int):Option (List Int):=
 bif (decide (k > 0))then (
  (ZoO a 0).bind fun a_1=>
  chk (inK .i64 (k - 1)) <|
  rec_ a_1 (k - 1)
 )else (
  some a
 )
def ZoE:Nat→(List Int)→Int→Option (List Int)
 |0,_,_=>none
 |n_+1,a,k=>ZoS (ZoE n_) a k
def ZrO (a:(List Int)) (k:Int):Option (List Int):=
 (ZoE big a k).bind fun x0=>ZrN x0
def Zqo (rec_:(List Int)→(List Int)→Int→Option ((List Int)×Int)) (a:(List Int)) (b:(List Int)) (k:Int):Option ((List Int)×Int):=
 (Zol b a).bind fun b_1=>
 rec_ a b_1 k
def ZrP (rec_:(List Int)→(List Int)→Int→Option ((List Int)×Int)) (a:(List Int)) (b:(List Int)) (k:Int):Option ((List Int)×Int):=
 (Zn1 a b).bind fun q=>
 bif (decide (q > 0))then (
  Zqo rec_ b a k
 )else (
  Zqo rec_ a b k
 )
def Zq6 (rec_:(List Int)→(List Int)→Int→Option ((List Int)×(List Int)×Int)) (a:(List Int)) (b:(List Int)) (k:Int):Option ((List Int)×(List Int)×Int):=
 (idx b 0).bind fun b_e=>
 bif ((andK .u32 b_e 1) == 0)then (
  (Zoh b).bind fun b_1=>
  rec_ a b_1 k
 )else (
  some (a,b,k)
 )
def Zn3:Nat→(List Int)→(List Int)→Int→Option ((List Int)×(List Int)×Int)
 |0,_,_,_=>none
 |n_+1,a,b,k=>Zq6 (Zn3 n_) a b k
def ZrQ (rec_:(List Int)→(List Int)→Int→Option ((List Int)×Int)) (a:(List Int)) (b:(List Int)) (k:Int):Option ((List Int)×Int):=
 (Zn3 big a b k).bind fun(x0,x1,x2)=>ZrP rec_ x0 x1 x2
def ZoT (rec_:(List Int)→(List Int)→Int→Option ((List Int)×(List Int)×Int)) (a:(List Int)) (b:(List Int)) (k:Int):Option ((List Int)×(List Int)×Int):=
 (idx a 0).bind fun a_e=>
 bif ((andK .u32 a_e 1) == 0)then (
  (Zoh a).bind fun a_1=>
  rec_ a_1 b k
 )else (
  some (a,b,k)
 )
def Zn4:Nat→(List Int)→(List Int)→Int→Option ((List Int)×(List Int)×Int)
 |0,_,_,_=>none
 |n_+1,a,b,k=>ZoT (Zn4 n_) a b k
def ZoU (rec_:(List Int)→(List Int)→Int→Option ((List Int)×Int)) (a:(List Int)) (b:(List Int)) (k:Int):Option ((List Int)×Int):=
 bif (decide ((b.length:Int) > 0))then (
  (Zn4 big a b k).bind fun(x0,x1,x2)=>ZrQ rec_ x0 x1 x2
 )else (
  some (a,k)
 )
def ZnN:Nat→(List Int)→(List Int)→Int→Option ((List Int)×Int)
 |0,_,_,_=>none
 |n_+1,a,b,k=>ZoU (ZnN n_) a b k
def ZrR (a:(List Int)) (b:(List Int)) (k:Int):Option (List Int):=
 (ZnN big a b k).bind fun(x0,x1)=>ZrO x0 x1
def Zqp (rec_:(List Int)→(List Int)→Int→Option ((List Int)×(List Int)×Int)) (a:(List Int)) (b:(List Int)) (k:Int) (t17:Bool):Option ((List Int)×(List Int)×Int):=
 bif t17 then (
  (Zoh a).bind fun a_1=>
  (Zoh b).bind fun b_1=>
  chk (inK .i64 (k+1)) <|
  rec_ a_1 b_1 (k+1)
 )else (
  some (a,b,k)
 )
def Zq7 (rec_:(List Int)→(List Int)→Int→Option ((List Int)×(List Int)×Int)) (a:(List Int)) (b:(List Int)) (k:Int):Option ((List Int)×(List Int)×Int):=
 (idx a 0).bind fun a_e=>
 bif ((andK .u32 a_e 1) == 0)then (
  (idx b 0).bind fun b_e=>
  Zqp rec_ a b k ((andK .u32 b_e 1) == 0)
 )else (
  Zqp rec_ a b k false
 )
def ZoF:Nat→(List Int)→(List Int)→Int→Option ((List Int)×(List Int)×Int)
 |0,_,_,_=>none
 |n_+1,a,b,k=>Zq7 (ZoF n_) a b k
def Zo9 (a:(List Int)) (b:(List Int)):Option (List Int):=
 (ZoF big a b (0:Int)).bind fun(x0,x1,x2)=>ZrR x0 x1 x2
def Zqa (a:(List Int)) (i:Int):Option Int:=
 chk (decide ((32:Int)≠0)) <|
 chk (inK .i64 (Int.tdiv i 32)) <|
 (idx a (Int.tdiv i 32)).bind fun a_e=>
 chk (decide ((32:Int)≠0)) <|
 chk (decide (0≤(IntKind.wrap .u64 (Int.tmod i 32)))) <|
 some (andK .u32 (shrK .u32 a_e (IntKind.wrap .u64 (Int.tmod i 32))) 1)
def ZrS (r_:(List Int)) (q:(List Int)):Option ((List Int)×(List Int)):=
 (ZnS q).bind fun q_1=>
 some (q_1,r_)
def Zpj (rec_:(List Int)→(List Int)→(List Int)→Int→(List Int)→Option ((List Int)×(List Int))) (a:(List Int)) (b:(List Int)) (r_:(List Int)) (i:Int) (q:(List Int)):Option ((List Int)×(List Int)):=
 chk (inK .i64 (i - 1)) <|
 rec_ a b r_ (i - 1) q
def ZpJ (rec_:(List Int)→(List Int)→(List Int)→Int→(List Int)→Option ((List Int)×(List Int))) (a:(List Int)) (b:(List Int)) (r_:(List Int)) (i:Int) (q:(List Int)):Option ((List Int)×(List Int)):=
 bif (decide (i≥0))then (
  (Zqa a i).bind fun q_1=>
  (ZoO r_ q_1).bind fun r__1=>
  (Zn1 r__1 b).bind fun q_2=>
  bif (decide (q_2≥0))then (
   (Zol r__1 b).bind fun r__2=>
   chk (decide ((32:Int)≠0)) <|
   chk (inK .i64 (Int.tdiv i 32)) <|
   chk (inR (Int.tdiv i 32) (q.length:Int)) <|
   (q[((Int.tdiv i 32)).toNat]?).bind fun q_e=>
   chk (decide ((32:Int)≠0)) <|
   chk (decide (0≤(IntKind.wrap .u64 (Int.tmod i 32)))) <|
   chk (inR (Int.tdiv i 32) (q.length:Int)) <|
   Zpj rec_ a b r__2 i (q.set (((Int.tdiv i 32)).toNat) (orK .u32 q_e (shlK .u32 1 (IntKind.wrap .u64 (Int.tmod i 32)))))
  )else (
   Zpj rec_ a b r__1 i q
  )
 )else (
  some (r_,q)
 )
def Zpi:Nat→(List Int)→(List Int)→(List Int)→Int→(List Int)→Option ((List Int)×(List Int))
 |0,_,_,_,_,_=>none
 |n_+1,a,b,r_,i,q=>ZpJ (Zpi n_) a b r_ i q
def ZsS (n:Nat) (s:((List Int)×(List Int)×(List Int)×Int×(List Int))):Option ((List Int)×(List Int)):=Zpi n s.1 s.2.1 s.2.2.1 s.2.2.2.1 s.2.2.2.2
def Zq8 (rec_:((List Int)×(List Int)×(List Int)×Int×(List Int))→Option ((List Int)×(List Int))) (s:((List Int)×(List Int)×(List Int)×Int×(List Int))):Option ((List Int)×(List Int)):=ZpJ (fun a b r_ i q=>rec_ (a,b,r_,i,q)) s.1 s.2.1 s.2.2.1 s.2.2.2.1 s.2.2.2.2
theorem Zut:∀n s,ZsS (n+1) s=Zq8 (ZsS n) s:=fun _ _=>rfl
def Zpa (a:(List Int)) (b:(List Int)):Option ((List Int)×(List Int)):=
 chk (mkOk (a.length:Int) (a.length:Int) 4) <|
 chk (inK .i64 (32*(a.length:Int))) <|
 chk (inK .i64 ((32*(a.length:Int)) - 1)) <|
 (Zpi big a b ([]:(List Int)) ((32*(a.length:Int)) - 1) (List.replicate ((a.length:Int)).toNat (0:Int))).bind fun(x0,x1)=>ZrS x0 x1
def Zph (num:ZnE) (den:ZnE):Option ZnA:=
 bif ((num.Words.length:Int) == 0)then (
  (Zoe 1).bind fun q=>
  some (ZnA.mk (ZnE.mk false ([]:(List Int))) q)
 )else (
  (Zo9 num.Words den.Words).bind fun g=>
  (Zpa num.Words g).bind fun(x_,q_1)=>
  (Zpa den.Words g).bind fun(y,q_2)=>
  (ZnM (!(num.Neg == den.Neg)) x_).bind fun q_3=>
  (ZnM false y).bind fun q_4=>
  some (ZnA.mk q_3 q_4)
 )
def Zp5 (t13:Bool) (num:ZnE) (den:ZnE) (t4:Bool) (t4_1:Bool) (t4_2:(List Int)) (t4_3:(List Int)):Option (ZnA×Int):=
 bif t13 then (
  some ((ZnA.mk (ZnE.mk false ([]:(List Int))) (ZnE.mk false ([]:(List Int)))),1)
 )else (
  bif ((den.Words.length:Int) == 0)then (
   some ((ZnA.mk (ZnE.mk false ([]:(List Int))) (ZnE.mk false ([]:(List Int)))),8)
  )else (
   (Zph num den).bind fun q=>
   some (q,0)
  )
 )
def ZpN (num:ZnE) (den:ZnE):Option (ZnA×Int):=
 (Zn8 num).bind fun q=>
 bif (!q)then (
  Zp5 true num den false false ([]:(List Int)) ([]:(List Int))
 )else (
  (Zn8 den).bind fun q_1=>
  Zp5 (!q_1) num den false false ([]:(List Int)) ([]:(List Int))
 )
def Zqw (num:Int) (den:Int):Option (ZnA×Int):=
 (Zoe num).bind fun q=>
 (Zoe den).bind fun q_1=>
 (ZpN q q_1).bind fun(q_2,q_3)=>
 some (q_2,q_3)
def Zsm (n:Int) (d:Int):Option ZnA:=
 (Zqw n d).bind fun(f,q)=>
 some f
def ZnV (n:Int) (d:Int):Option ZnA:=ZwR (Zsm n d)
def ZsC (n:Int):Option ZnA:=
 (ZnV n 1).bind fun q=>
 some q
def Zoa (n:Int):Option ZnA:=ZwR (ZsC n)
def ZqI:Option Bool:=
 some true
def ZoX (rec_:(List Int)→Int→Int→ZnE→Option (Out Unit Bool)) (t22:(List Int)) (t23:Int) (i:Int) (b:ZnE):Option (Out Unit Bool):=
 bif (decide (i < t23))then (
  (idx t22 i).bind fun w_=>
  (idx b.Words i).bind fun Word=>
  bif (Word != w_)then (
   some (.ret false)
  )else (
   chk (inK .i64 (i+1)) <|
   rec_ t22 t23 (i+1) b
  )
 )else (
  some (.brk ())
 )
def Zpn:Nat→(List Int)→Int→Int→ZnE→Option (Out Unit Bool)
 |0,_,_,_,_=>none
 |n_+1,t22,t23,i,b=>ZoX (Zpn n_) t22 t23 i b
def Zsb (n:Nat) (s:((List Int)×Int×Int×ZnE)):Option (Out Unit Bool):=Zpn n s.1 s.2.1 s.2.2.1 s.2.2.2
def Zqe (rec_:((List Int)×Int×Int×ZnE)→Option (Out Unit Bool)) (s:((List Int)×Int×Int×ZnE)):Option (Out Unit Bool):=ZoX (fun t22 t23 i b=>rec_ (t22,t23,i,b)) s.1 s.2.1 s.2.2.1 s.2.2.2
theorem ZtQ:∀n s,Zsb (n+1) s=Zqe (Zsb n) s:=fun _ _=>rfl
def Zpo (t20:Bool) (a:ZnE) (b:ZnE):Option Bool:=
 bif t20 then (
  some false
 )else (
  (Zpn big a.Words (a.Words.length:Int) (0:Int) b).bind fun
   | .ret q_=>some q_
   | .brk ()=>ZqI
 )
def ZoB (a:ZnE) (b:ZnE):Option Bool:=
 bif (!(a.Neg == b.Neg))then (
  Zpo true a b
 )else (
  Zpo ((a.Words.length:Int) != (b.Words.length:Int)) a b
 )
def Zp4 (t4:Bool):Option Bool:=
 some t4
def ZnQ (a:ZnA) (b:ZnA):Option Bool:=
 (ZoB a.Num b.Num).bind fun q=>
 bif q then (
  (ZoB a.Den b.Den).bind fun q_1=>
  Zp4 q_1
 )else (
  Zp4 false
 )
def ZoV (t0:Bool):Option Bool:=
 some t0
def ZnZ:Option Bool:=
 (Zoz ([85,110,105,116,32,80,114,105,99,101,95,50]:Str)).bind fun q=>
 (ZoJ q ([([50]:Str),([112,114,105,99,101]:Str),([117,110,105,116]:Str)]:(List Str))).bind fun q_1=>
 bif q_1 then (
  (ZpP (ZnG.mk ([85,110,105,116,32,80,114,105,99,101,95,50]:Str) ([(ZnC.mk false ([49]:Str)),(ZnC.mk false ([120]:Str))]:(List ZnC))) (ZnG.mk ([85,110,105,116,32,80,114,105,99,101,95,50]:Str) ([(ZnC.mk false ([49]:Str)),(ZnC.mk false ([120]:Str))]:(List ZnC)))).bind fun q_2=>
  (Zoa 1).bind fun q_3=>
  (ZnQ q_2 q_3).bind fun q_4=>
  bif q_4 then (
   (Zo7 (ZnG.mk ([85,110,105,116,32,80,114,105,99,101,95,50]:Str) ([(ZnC.mk false ([49]:Str)),(ZnC.mk false ([120]:Str))]:(List ZnC)))).bind fun q_5=>
   (ZnV 1 2).bind fun q_6=>
   (ZnQ q_5 q_6).bind fun q_7=>
   ZoV q_7
  )else (
   ZoV false
  )
 )else (
  ZoV false
 )
def ZrA (t:(List Int)):Option ZnB:=
 some (ZnB.mk t 0)
def ZqN (n:Int) (m:Int):Option Int:=
 bif (decide (m < 1))then (
  some (0:Int)
 )else (
  chk (decide (m≠0)) <|
  chk (inK .i64 ((Int.tmod n m)+m)) <|
  chk (decide (m≠0)) <|
  some (Int.tmod ((Int.tmod n m)+m) m)
 )
def ZnL (d:ZnB) (n:Int):Option (Int×ZnB):=
 bif (decide (d.at_≥(d.l.length:Int)))then (
  some (0,d)
 )else (
  chk (inK .i64 (d.at_+1)) <|
  chk (inK .i64 ((d.at_+1) - 1)) <|
  (idx d.l ((d.at_+1) - 1)).bind fun l_e=>
  (ZqN l_e n).bind fun q=>
  some (q,(ZnB.mk d.l (d.at_+1)))
 )
def Zn2 (d:ZnB) (l:(List Str)):Option (Str×ZnB):=
 (ZnL d (l.length:Int)).bind fun(q,t6)=>
 (idx l q).bind fun l_e=>
 some (l_e,t6)
def Zqx (d:ZnB):Option (ZnC×ZnB):=
 (ZnL d 7).bind fun(q,t3)=>
 bif (q == 1)then (
  some ((ZnC.mk true ([]:Str)),t3)
 )else (
  (Zn2 t3 ([([97]:Str),([98]:Str),([99]:Str),([49]:Str),([50]:Str),([51]:Str),([49,48]:Str),([120]:Str),([45,49,46,53]:Str),([50]:Str)]:(List Str))).bind fun(q_1,t7)=>
  some ((ZnC.mk false q_1),t7)
 )
def Zsz (n:Int):Option Str:=
 some (Lib.itoa n)
def ZpO (d:ZnB):Option (ZnC×ZnB):=
 (ZnL d 9).bind fun(q,t3)=>
 bif (q == 1)then (
  some ((ZnC.mk true ([]:Str)),t3)
 )else (
  bif (q == 2)then (
   (Zn2 t3 ([([120]:Str),([]:Str),([49,46,50,46,51]:Str),([49,46,53,48]:Str)]:(List Str))).bind fun(q_1,t10)=>
   some ((ZnC.mk false q_1),t10)
  )else (
   (ZnL t3 12).bind fun(q_2,t14)=>
   chk (inK .i64 (q_2 - 3)) <|
   (Zsz (q_2 - 3)).bind fun q_3=>
   some ((ZnC.mk false q_3),t14)
  )
 )
def Zrt (d:ZnB) (t4:Str) (c:Str) (t4_1:(List ZnC)) (c_1:(List ZnC)):Option (ZnG×ZnB):=
 some ((ZnG.mk c c_1),d)
def Zof (rec_:Int→Int→Int→ZnB→Str→Str→(List ZnC)→(List ZnC)→Option (ZnB×Str×Str×(List ZnC)×(List ZnC))) (kind:Int) (t15:Int) (i:Int) (d:ZnB) (t4:Str) (c:Str) (x_:ZnC) (t4_1:(List ZnC)) (c_1:(List ZnC)):Option (ZnB×Str×Str×(List ZnC)×(List ZnC)):=
 chk (ZiZ (c_1.length+([x_]:(List ZnC)).length) 24) <|
 chk (inK .i64 (i+1)) <|
 rec_ kind t15 (i+1) d t4 c t4_1 (c_1++([x_]:(List ZnC)))
def ZpC (rec_:Int→Int→Int→ZnB→Str→Str→(List ZnC)→(List ZnC)→Option (ZnB×Str×Str×(List ZnC)×(List ZnC))) (kind:Int) (t15:Int) (i:Int) (d:ZnB) (t4:Str) (c:Str) (t4_1:(List ZnC)) (c_1:(List ZnC)):Option (ZnB×Str×Str×(List ZnC)×(List ZnC)):=
 bif (decide (i < t15))then (
  (Zqx d).bind fun(x_,t19)=>
  bif (kind == 0)then (
   (ZpO t19).bind fun(x__1,t24)=>
   Zof rec_ kind t15 i t24 t4 c x__1 t4_1 c_1
  )else (
   bif (kind == 1)then (
    (Zsz i).bind fun q=>
    chk (decide (([107]:Str).length+q.length≤Zq)) <|
    Zof rec_ kind t15 i t19 t4 c (ZnC.mk false (([107]:Str)++q)) t4_1 c_1
   )else (
    bif (kind == 2)then (
     (Zn2 t19 ([([97]:Str),([98]:Str),([99]:Str),([100]:Str)]:(List Str))).bind fun(q_1,t34)=>
     Zof rec_ kind t15 i t34 t4 c (ZnC.mk false q_1) t4_1 c_1
    )else (
     Zof rec_ kind t15 i t19 t4 c x_ t4_1 c_1
    )
   )
  )
 )else (
  some (d,t4,c,t4_1,c_1)
 )
def Zo5:Nat→Int→Int→Int→ZnB→Str→Str→(List ZnC)→(List ZnC)→Option (ZnB×Str×Str×(List ZnC)×(List ZnC))
 |0,_,_,_,_,_,_,_,_=>none
 |n_+1,kind,t15,i,d,t4,c,t4_1,c_1=>ZpC (Zo5 n_) kind t15 i d t4 c t4_1 c_1
def ZsJ (n:Nat) (s:(Int×Int×Int×ZnB×Str×Str×(List ZnC)×(List ZnC))):Option (ZnB×Str×Str×(List ZnC)×(List ZnC)):=Zo5 n s.1 s.2.1 s.2.2.1 s.2.2.2.1 s.2.2.2.2.1 s.2.2.2.2.2.1 s.2.2.2.2.2.2.1 s.2.2.2.2.2.2.2
def ZqT (rec_:(Int×Int×Int×ZnB×Str×Str×(List ZnC)×(List ZnC))→Option (ZnB×Str×Str×(List ZnC)×(List ZnC))) (s:(Int×Int×Int×ZnB×Str×Str×(List ZnC)×(List ZnC))):Option (ZnB×Str×Str×(List ZnC)×(List ZnC)):=ZpC (fun kind t15 i d t4 c t4_1 c_1=>rec_ (kind,t15,i,d,t4,c,t4_1,c_1)) s.1 s.2.1 s.2.2.1 s.2.2.2.1 s.2.2.2.2.1 s.2.2.2.2.2.1 s.2.2.2.2.2.2.1 s.2.2.2.2.2.2.2
theorem Zuh:∀n s,ZsJ (n+1) s=ZqT (ZsJ n) s:=fun _ _=>rfl
def Zo0 (d:ZnB) (rows:Int):Option (ZnG×ZnB):=
 (Zn2 d ([([105,100]:Str),([110,97,109,101]:Str),([85,110,105,116,32,80,114,105,99,101]:Str),([99,105,116,121]:Str),([117,110,105,116]:Str),([112,114,105,99,101]:Str),([105,100,50]:Str),([]:Str)]:(List Str))).bind fun(q,t9)=>
 (ZnL t9 5).bind fun(kind,t13)=>
 (Zo5 big kind rows (0:Int) t13 ([]:Str) q ([]:(List ZnC)) ([]:(List ZnC))).bind fun(x0,x1,x2,x3,x4)=>Zrt x0 x1 x2 x3 x4
def ZoY:Option ZnA:=
 (Zoa 0).bind fun q=>
 some q
def Zop (t24:Bool) (f:ZnA):Option Bool:=
 bif t24 then (
  some false
 )else (
  bif ((f.Num.Words.length:Int) == 0)then (
   (Zn1 f.Den.Words ([1]:(List Int))).bind fun q=>
   some (q == 0)
  )else (
   (Zo9 f.Num.Words f.Den.Words).bind fun q_1=>
   (Zn1 q_1 ([1]:(List Int))).bind fun q_2=>
   some (q_2 == 0)
  )
 )
def ZoP (f:ZnA):Option Bool:=
 (Zn8 f.Num).bind fun q=>
 bif (!q)then (
  Zop true f
 )else (
  (Zn8 f.Den).bind fun q_1=>
  bif (!q_1)then (
   Zop true f
  )else (
   bif f.Den.Neg then (
    Zop true f
   )else (
    Zop ((f.Den.Words.length:Int) == 0) f
   )
  )
 )
def ZrL (out:(List Int)):Option (List Int):=
 (ZnS out).bind fun q=>
 some q
def ZrM (rec_:(List Int)→(List Int)→Int→(List Int)→Option (List Int)) (a:(List Int)) (b:(List Int)) (i:Int) (c:Int) (out:(List Int)):Option (List Int):=
 chk (inK .i64 (i+(b.length:Int))) <|
 chk (inR (i+(b.length:Int)) (out.length:Int)) <|
 chk (inK .i64 (i+1)) <|
 rec_ a b (i+1) (out.set (((i+(b.length:Int))).toNat) (IntKind.wrap .u32 c))
def ZpH (rec_:(List Int)→(List Int)→Int→Int→Int→(List Int)→Option ((List Int)×(List Int)×Int×Int×(List Int))) (a:(List Int)) (b:(List Int)) (i:Int) (c:Int) (j:Int) (out:(List Int)):Option ((List Int)×(List Int)×Int×Int×(List Int)):=
 bif (decide (j < (b.length:Int)))then (
  (idx a i).bind fun a_e=>
  (idx b j).bind fun b_e=>
  chk (inK .i64 (i+j)) <|
  chk (inR (i+j) (out.length:Int)) <|
  (out[((i+j)).toNat]?).bind fun out_e=>
  chk (inK .i64 (i+j)) <|
  chk (inR (i+j) (out.length:Int)) <|
  chk (decide (0≤(32:Int))) <|
  chk (inK .i64 (j+1)) <|
  rec_ a b i (shrK .u64 (IntKind.wrap .u64 (c+(IntKind.wrap .u64 ((IntKind.wrap .u64 ((IntKind.wrap .u64 a_e)*(IntKind.wrap .u64 b_e)))+(IntKind.wrap .u64 out_e))))) 32) (j+1) (out.set (((i+j)).toNat) (IntKind.wrap .u32 (IntKind.wrap .u64 (c+(IntKind.wrap .u64 ((IntKind.wrap .u64 ((IntKind.wrap .u64 a_e)*(IntKind.wrap .u64 b_e)))+(IntKind.wrap .u64 out_e)))))))
 )else (
  some (a,b,i,c,out)
 )
def Zqn:Nat→(List Int)→(List Int)→Int→Int→Int→(List Int)→Option ((List Int)×(List Int)×Int×Int×(List Int))
 |0,_,_,_,_,_,_=>none
 |n_+1,a,b,i,c,j,out=>ZpH (Zqn n_) a b i c j out
def ZsQ (n:Nat) (s:((List Int)×(List Int)×Int×Int×Int×(List Int))):Option ((List Int)×(List Int)×Int×Int×(List Int)):=Zqn n s.1 s.2.1 s.2.2.1 s.2.2.2.1 s.2.2.2.2.1 s.2.2.2.2.2
def Zq4 (rec_:((List Int)×(List Int)×Int×Int×Int×(List Int))→Option ((List Int)×(List Int)×Int×Int×(List Int))) (s:((List Int)×(List Int)×Int×Int×Int×(List Int))):Option ((List Int)×(List Int)×Int×Int×(List Int)):=ZpH (fun a b i c j out=>rec_ (a,b,i,c,j,out)) s.1 s.2.1 s.2.2.1 s.2.2.2.1 s.2.2.2.2.1 s.2.2.2.2.2
theorem Zur:∀n s,ZsQ (n+1) s=Zq4 (ZsQ n) s:=fun _ _=>rfl
def ZpI (rec_:(List Int)→(List Int)→Int→(List Int)→Option (List Int)) (a:(List Int)) (b:(List Int)) (i:Int) (out:(List Int)):Option (List Int):=
 bif (decide (i < (a.length:Int)))then (
  (Zqn big a b i (0:Int) (0:Int) out).bind fun(x0,x1,x2,x3,x4)=>ZrM rec_ x0 x1 x2 x3 x4
 )else (
  some out
 )
def Zpg:Nat→(List Int)→(List Int)→Int→(List Int)→Option (List Int)
 |0,_,_,_,_=>none
 |n_+1,a,b,i,out=>ZpI (Zpg n_) a b i out
def ZsR (n:Nat) (s:((List Int)×(List Int)×Int×(List Int))):Option (List Int):=Zpg n s.1 s.2.1 s.2.2.1 s.2.2.2
def Zq5 (rec_:((List Int)×(List Int)×Int×(List Int))→Option (List Int)) (s:((List Int)×(List Int)×Int×(List Int))):Option (List Int):=ZpI (fun a b i out=>rec_ (a,b,i,out)) s.1 s.2.1 s.2.2.1 s.2.2.2
theorem Zus:∀n s,ZsR (n+1) s=Zq5 (ZsR n) s:=fun _ _=>rfl
def Zp9 (a:(List Int)) (b:(List Int)):Option (List Int):=
 chk (inK .i64 ((a.length:Int)+(b.length:Int))) <|
 chk (mkOk ((a.length:Int)+(b.length:Int)) ((a.length:Int)+(b.length:Int)) 4) <|
 (Zpg big a b (0:Int) (List.replicate (((a.length:Int)+(b.length:Int))).toNat (0:Int))).bind fun x0=>ZrL x0
def Zob (a:ZnE) (b:ZnE):Option ZnE:=
 (Zp9 a.Words b.Words).bind fun q=>
 (ZnM (!(a.Neg == b.Neg)) q).bind fun q_1=>
 some q_1
def Zpx (a:ZnE):Option ZnE:=
 (ZnM (!a.Neg) a.Words).bind fun q=>
 some q
def ZrU (c:Int) (out:(List Int)):Option (List Int):=
 chk (ZiZ (out.length+([(IntKind.wrap .u32 c)]:(List Int)).length) 4) <|
 some (out++([(IntKind.wrap .u32 c)]:(List Int)))
def Zpk (rec_:(List Int)→(List Int)→Int→Int→(List Int)→Option (Int×(List Int))) (a:(List Int)) (b:(List Int)) (c:Int) (i:Int) (out:(List Int)):Option (Int×(List Int)):=
 chk (ZiZ (out.length+([(IntKind.wrap .u32 c)]:(List Int)).length) 4) <|
 chk (decide (0≤(32:Int))) <|
 chk (inK .i64 (i+1)) <|
 rec_ a b (shrK .u64 c 32) (i+1) (out++([(IntKind.wrap .u32 c)]:(List Int)))
def Zpl (rec_:(List Int)→(List Int)→Int→Int→(List Int)→Option (Int×(List Int))) (a:(List Int)) (b:(List Int)) (c:Int) (i:Int) (out:(List Int)):Option (Int×(List Int)):=
 bif (decide (i < (b.length:Int)))then (
  (idx b i).bind fun b_e=>
  Zpk rec_ a b (IntKind.wrap .u64 (c+(IntKind.wrap .u64 b_e))) i out
 )else (
  Zpk rec_ a b c i out
 )
def ZoG (rec_:(List Int)→(List Int)→Int→Int→(List Int)→Option (Int×(List Int))) (a:(List Int)) (b:(List Int)) (c:Int) (i:Int) (t17:Bool) (out:(List Int)):Option (Int×(List Int)):=
 bif t17 then (
  bif (decide (i < (a.length:Int)))then (
   (idx a i).bind fun a_e=>
   Zpl rec_ a b (IntKind.wrap .u64 (c+(IntKind.wrap .u64 a_e))) i out
  )else (
   Zpl rec_ a b c i out
  )
 )else (
  some (c,out)
 )
def ZpL (rec_:(List Int)→(List Int)→Int→Int→(List Int)→Option (Int×(List Int))) (a:(List Int)) (b:(List Int)) (c:Int) (i:Int) (out:(List Int)):Option (Int×(List Int)):=
 bif (decide (i < (a.length:Int)))then (
  ZoG rec_ a b c i true out
 )else (
  ZoG rec_ a b c i (decide (i < (b.length:Int))) out
 )
def Zoi:Nat→(List Int)→(List Int)→Int→Int→(List Int)→Option (Int×(List Int))
 |0,_,_,_,_,_=>none
 |n_+1,a,b,c,i,out=>ZpL (Zoi n_) a b c i out
def ZsU (n:Nat) (s:((List Int)×(List Int)×Int×Int×(List Int))):Option (Int×(List Int)):=Zoi n s.1 s.2.1 s.2.2.1 s.2.2.2.1 s.2.2.2.2
def Zra (rec_:((List Int)×(List Int)×Int×Int×(List Int))→Option (Int×(List Int))) (s:((List Int)×(List Int)×Int×Int×(List Int))):Option (Int×(List Int)):=ZpL (fun a b c i out=>rec_ (a,b,c,i,out)) s.1 s.2.1 s.2.2.1 s.2.2.2.1 s.2.2.2.2
theorem Zuv:∀n s,ZsU (n+1) s=Zra (ZsU n) s:=fun _ _=>rfl
def Zpb (a:(List Int)) (b:(List Int)):Option (List Int):=
 (Zoi big a b (0:Int) (0:Int) ([]:(List Int))).bind fun(x0,x1)=>ZrU x0 x1
def ZpM (a:ZnE) (b:ZnE):Option ZnE:=
 bif (a.Neg == b.Neg)then (
  (Zpb a.Words b.Words).bind fun q=>
  (ZnM a.Neg q).bind fun q_1=>
  some q_1
 )else (
  (Zn1 a.Words b.Words).bind fun q_2=>
  bif (decide (q_2≥0))then (
   (Zol a.Words b.Words).bind fun q_3=>
   (ZnM a.Neg q_3).bind fun q_4=>
   some q_4
  )else (
   (Zol b.Words a.Words).bind fun q_5=>
   (ZnM b.Neg q_5).bind fun q_6=>
   some q_6
  )
 )
def Zqs (t13:Bool) (a:ZnA) (b:ZnA):Option Int:=
 bif t13 then (
  some (0:Int)
 )else (
  (Zob a.Num b.Den).bind fun q=>
  (Zob b.Num a.Den).bind fun q_1=>
  (Zpx q_1).bind fun q_2=>
  (ZpM q q_2).bind fun x_=>
  bif ((x_.Words.length:Int) == 0)then (
   some (0:Int)
  )else (
   bif x_.Neg then (
    some (-1:Int)
   )else (
    some (1:Int)
   )
  )
 )
def Zpc (a:ZnA) (b:ZnA):Option Int:=
 (ZoP a).bind fun q=>
 bif (!q)then (
  Zqs true a b
 )else (
  (ZoP b).bind fun q_1=>
  Zqs (!q_1) a b
 )
def ZpE (a:ZnA) (b:ZnA):Option Bool:=
 (Zpc a b).bind fun q=>
 some (decide (q < 0))
def Zot (t2:Bool):Option Bool:=
 some t2
def Zou (t2:Bool):Option Bool:=
 some t2
def Zov (t2:Bool):Option Bool:=
 some t2
def Zow (t2:Bool):Option Bool:=
 some t2
def Zox (full:Bool) (words:Bool) (t84:Bool) (z:ZnA):Option Bool:=
 bif t84 then (
  (Zoa 1).bind fun q=>
  (ZnQ z q).bind fun q_1=>
  bif q_1 then (
   (ZnZ).bind fun q_2=>
   Zow q_2
  )else (
   Zow false
  )
 )else (
  bif words then (
   (ZnV 1 2).bind fun q_3=>
   (ZnQ z q_3).bind fun q_4=>
   bif q_4 then (
    (ZnZ).bind fun q_5=>
    Zov q_5
   )else (
    Zov false
   )
  )else (
   bif full then (
    (ZnV 3 4).bind fun q_6=>
    (ZnQ z q_6).bind fun q_7=>
    bif q_7 then (
     (ZnZ).bind fun q_8=>
     Zou q_8
    )else (
     Zou false
    )
   )else (
    (ZoY).bind fun q_9=>
    (ZnQ z q_9).bind fun q_10=>
    bif q_10 then (
     (ZnZ).bind fun q_11=>
     Zot q_11
    )else (
     Zot false
    )
   )
  )
 )
def Zos (full:Bool) (a:ZnG):Option Bool:=
 (ZpP a a).bind fun z=>
 (Zoz a.Name).bind fun q=>
 bif (decide ((q.length:Int) > 0))then (
  Zox full (decide ((q.length:Int) > 0)) full z
 )else (
  Zox full (decide ((q.length:Int) > 0)) false z
 )
def Zoy (rec_:Bool→(List ZnC)→Int→Int→ZnG→Option (Bool×ZnG)) (full:Bool) (t63:(List ZnC)) (t64:Int) (t65:Int) (a:ZnG):Option (Bool×ZnG):=
 chk (inK .i64 (t65+1)) <|
 rec_ full t63 t64 (t65+1) a
def Zoj (rec_:Bool→(List ZnC)→Int→Int→ZnG→Option (Bool×ZnG)) (full:Bool) (t63:(List ZnC)) (t64:Int) (t65:Int) (a:ZnG):Option (Bool×ZnG):=
 bif (decide (t65 < t64))then (
  (idx t63 t65).bind fun c=>
  bif full then (
   Zoy rec_ true t63 t64 t65 a
  )else (
   Zoy rec_ (!c.Null) t63 t64 t65 a
  )
 )else (
  some (full,a)
 )
def Zn5:Nat→Bool→(List ZnC)→Int→Int→ZnG→Option (Bool×ZnG)
 |0,_,_,_,_,_=>none
 |n_+1,full,t63,t64,t65,a=>Zoj (Zn5 n_) full t63 t64 t65 a
def ZqB (n:Nat) (s:(Bool×(List ZnC)×Int×Int×ZnG)):Option (Bool×ZnG):=Zn5 n s.1 s.2.1 s.2.2.1 s.2.2.2.1 s.2.2.2.2
def ZoZ (rec_:(Bool×(List ZnC)×Int×Int×ZnG)→Option (Bool×ZnG)) (s:(Bool×(List ZnC)×Int×Int×ZnG)):Option (Bool×ZnG):=Zoj (fun full t63 t64 t65 a=>rec_ (full,t63,t64,t65,a)) s.1 s.2.1 s.2.2.1 s.2.2.2.1 s.2.2.2.2
theorem ZsV:∀n s,ZqB (n+1) s=ZoZ (ZqB n) s:=fun _ _=>rfl
def ZnO (t61:Bool) (a:ZnG):Option Bool:=
 bif t61 then (
  some false
 )else (
  (Zn5 big false a.Cells (a.Cells.length:Int) (0:Int) a).bind fun(x0,x1)=>Zos x0 x1
 )
def ZoK (t:(List Int)):Option Bool:=
 (Zrm t).bind fun q=>
 bif (!q)then (
  (ZnZ).bind fun q_1=>
  some q_1
 )else (
  (ZrA t).bind fun d=>
  (ZnL d 7).bind fun(q_2,t20)=>
  (Zo0 t20 q_2).bind fun(a,t19)=>
  (ZnL t19 7).bind fun(q_3,t24)=>
  (Zo0 t24 q_3).bind fun(b,t23)=>
  (ZpP a b).bind fun x_=>
  (ZpP b a).bind fun y=>
  (ZnQ x_ y).bind fun q_4=>
  bif (!q_4)then (
   ZnO true a
  )else (
   (ZoY).bind fun q_5=>
   (ZpE x_ q_5).bind fun q_6=>
   bif q_6 then (
    ZnO true a
   )else (
    (Zoa 1).bind fun q_7=>
    (Zpc x_ q_7).bind fun q_8=>
    bif (decide (q_8 > 0))then (
     ZnO true a
    )else (
     (ZpQ a.Name b.Name).bind fun q_9=>
     (ZpQ b.Name a.Name).bind fun q_10=>
     (ZnQ q_9 q_10).bind fun q_11=>
     ZnO (!q_11) a
    )
   )
  )
 )
end
end Go.Proofs
