/- Printed by wip/tools/tgen.py: specs. -/
import Derived.Test.YthefajbigloihaaGreatDoorE4
import Derived.Lib.Bytealg
import Derived.Lib.SlTrimSet
import Derived.Test.YthefajbigloihaaGreatDoorSnWD
set_option linter.unusedVariables false
set_option linter.unusedSimpArgs false
set_option linter.unusedSectionVars false
namespace Go.Proofs
open Go Eng
set_option maxRecDepth 100000
noncomputable section
structure ZnG where
 Null:Bool
 Text:Str
 deriving DecidableEq,Inhabited
structure ZnJ where
 Name:Str
 Cells:(List ZnG)
 deriving DecidableEq,Inhabited
structure ZnC where
 Neg:Bool
 Words:(List Int)
 deriving DecidableEq,Inhabited
structure ZnA where
 Num:ZnC
 Den:ZnC
 deriving DecidableEq,Inhabited
structure Zog where
 word:Str
 canonical:(Option Nat)
 value:(Option Nat)
 deriving DecidableEq,Inhabited
structure ZnD where
 l:(List Int)
 at_:Int
 deriving DecidableEq,Inhabited
structure ZnS where
 e0:Str
 e1:Str
 deriving DecidableEq,Inhabited
def Zvf:Nat→Type
 |0=>ZnG
 |1=>ZnJ
 |2=>ZnC
 |3=>ZnA
 |4=>Zog
 |5=>ZnD
 |6=>ZnS
 |_=>Unit
def ZCV:Nat→Nat
 |0=>2
 |1=>2
 |2=>2
 |3=>4
 |4=>3
 |5=>2
 |6=>2
 |_=>0
def Zv1:List (Lf Zvf):=[⟨.sl (.int .u32),([1]:List Int)⟩]
def Zre (t:(List Int)):Option Bool:=
 some (decide ((t.length:Int)≤500))
def Zoo (name:Str):Option (List Str):=
 Zwv (chk (decide (name.length≤1099511627776)) <| some (Zsn (ZuT (name++[32]) [])))
def Zr0:Option Bool:=
 some true
def ZoA (rec_:(List Str)→(List Str)→Int→Int→Option (Out Unit Bool)) (b:(List Str)) (t12:(List Str)) (t13:Int) (i:Int):Option (Out Unit Bool):=
 bif (decide (i < t13))then (
  (idx t12 i).bind fun s=>
  (idx b i).bind fun b_e=>
  bif (!(b_e == s))then (
   some (.ret false)
  )else (
   chk (inK .i64 (i+1)) <|
   rec_ b t12 t13 (i+1)
  )
 )else (
  some (.brk ())
 )
def Zol:Nat→(List Str)→(List Str)→Int→Int→Option (Out Unit Bool)
 |0,_,_,_,_=>none
 |n_+1,b,t12,t13,i=>ZoA (Zol n_) b t12 t13 i
def Zrs (n:Nat) (s:((List Str)×(List Str)×Int×Int)):Option (Out Unit Bool):=Zol n s.1 s.2.1 s.2.2.1 s.2.2.2
def ZpA (rec_:((List Str)×(List Str)×Int×Int)→Option (Out Unit Bool)) (s:((List Str)×(List Str)×Int×Int)):Option (Out Unit Bool):=ZoA (fun b t12 t13 i=>rec_ (b,t12,t13,i)) s.1 s.2.1 s.2.2.1 s.2.2.2
theorem Ztv:∀n s,Zrs (n+1) s=ZpA (Zrs n) s:=fun _ _=>rfl
def Zoc (a:(List Str)) (b:(List Str)):Option Bool:=
 bif ((a.length:Int) != (b.length:Int))then (
  some false
 )else (
  (Zol big b a (a.length:Int) (0:Int)).bind fun
   | .ret q_=>some q_
   | .brk ()=>Zr0
 )
def ZqG (c:ZnJ):Option (List Str):=
 Zwv (chk (decide (c.Cells.length≤1099511627776)) <| some (Zsn ((c.Cells.filter fun x=> !x.Null).map fun x=>x.Text)))
def ZrA (x_:Str):Option Bool:=
 some (!(x_ == x_))
def ZqL (t4:Bool):Option Bool:=
 some t4
def Zsc (x_:Str) (y:Str):Option Bool:=
 (ZrA x_).bind fun q=>
 bif q then (
  (ZrA y).bind fun q_1=>
  bif (!q_1)then (
   ZqL true
  )else (
   ZqL (Op.bytesLess x_ y)
  )
 )else (
  ZqL (Op.bytesLess x_ y)
 )
def Zqq (x_:Str):Option Bool:=
 some (!(x_ == x_))
def ZnM (t4:Int) (t5:Bool):Option (Int×Bool):=
 some (t4,t5)
def ZoW (x_:(List Str)) (target:Str) (n:Int) (i:Int):Option (Int×Bool):=
 bif (decide (i < n))then (
  (idx x_ i).bind fun x__e=>
  bif (x__e == target)then (
   ZnM i true
  )else (
   (idx x_ i).bind fun x__e_1=>
   (Zqq x__e_1).bind fun q=>
   bif q then (
    (Zqq target).bind fun q_1=>
    ZnM i q_1
   )else (
    ZnM i false
   )
  )
 )else (
  ZnM i false
 )
def ZoE (rec_:(List Str)→Str→Int→Int→Int→Option ((List Str)×Str×Int×Int)) (x_:(List Str)) (target:Str) (n:Int) (i:Int) (j:Int):Option ((List Str)×Str×Int×Int):=
 bif (decide (i < j))then (
  chk (inK .i64 (i+j)) <|
  chk (decide (0≤(1:Int))) <|
  (idx x_ (IntKind.wrap .i64 (shrK .u64 (IntKind.wrap .u64 (i+j)) 1))).bind fun x__e=>
  (Zsc x__e target).bind fun q=>
  bif q then (
   chk (inK .i64 ((IntKind.wrap .i64 (shrK .u64 (IntKind.wrap .u64 (i+j)) 1))+1)) <|
   rec_ x_ target n ((IntKind.wrap .i64 (shrK .u64 (IntKind.wrap .u64 (i+j)) 1))+1) j
  )else (
   rec_ x_ target n i (IntKind.wrap .i64 (shrK .u64 (IntKind.wrap .u64 (i+j)) 1))
  )
 )else (
  some (x_,target,n,i)
 )
def Zod:Nat→(List Str)→Str→Int→Int→Int→Option ((List Str)×Str×Int×Int)
 |0,_,_,_,_,_=>none
 |n_+1,x_,target,n,i,j=>ZoE (Zod n_) x_ target n i j
def Zqc (n:Nat) (s:((List Str)×Str×Int×Int×Int)):Option ((List Str)×Str×Int×Int):=Zod n s.1 s.2.1 s.2.2.1 s.2.2.2.1 s.2.2.2.2
def Zqd (rec_:((List Str)×Str×Int×Int×Int)→Option ((List Str)×Str×Int×Int)) (s:((List Str)×Str×Int×Int×Int)):Option ((List Str)×Str×Int×Int):=ZoE (fun x_ target n i j=>rec_ (x_,target,n,i,j)) s.1 s.2.1 s.2.2.1 s.2.2.2.1 s.2.2.2.2
theorem Zsy:∀n s,Zqc (n+1) s=Zqd (Zqc n) s:=fun _ _=>rfl
def Zn0 (x_:(List Str)) (target:Str):Option (Int×Bool):=
 (Zod big x_ target (x_.length:Int) (0:Int) (x_.length:Int)).bind fun(x0,x1,x2,x3)=>ZoW x0 x1 x2 x3
def Zsz (n:Int):Option Int:=
 some n
def Zrf (rec_:(List Str)→Int→(List Str)→Int→Int→Option Int) (b:(List Str)) (n:Int) (t10:(List Str)) (t11:Int) (t12:Int):Option Int:=
 chk (inK .i64 (t12+1)) <|
 rec_ b n t10 t11 (t12+1)
def Zqt (rec_:(List Str)→Int→(List Str)→Int→Int→Option Int) (b:(List Str)) (n:Int) (t10:(List Str)) (t11:Int) (t12:Int):Option Int:=
 bif (decide (t12 < t11))then (
  (idx t10 t12).bind fun s=>
  (Zn0 b s).bind fun(q,ok)=>
  bif ok then (
   chk (inK .i64 (n+1)) <|
   Zrf rec_ b (n+1) t10 t11 t12
  )else (
   Zrf rec_ b n t10 t11 t12
  )
 )else (
  some n
 )
def Zp2:Nat→(List Str)→Int→(List Str)→Int→Int→Option Int
 |0,_,_,_,_,_=>none
 |n_+1,b,n,t10,t11,t12=>Zqt (Zp2 n_) b n t10 t11 t12
def Ztu (n:Nat) (s:((List Str)×Int×(List Str)×Int×Int)):Option Int:=Zp2 n s.1 s.2.1 s.2.2.1 s.2.2.2.1 s.2.2.2.2
def Zr4 (rec_:((List Str)×Int×(List Str)×Int×Int)→Option Int) (s:((List Str)×Int×(List Str)×Int×Int)):Option Int:=Zqt (fun b n t10 t11 t12=>rec_ (b,n,t10,t11,t12)) s.1 s.2.1 s.2.2.1 s.2.2.2.1 s.2.2.2.2
theorem ZuR:∀n s,Ztu (n+1) s=Zr4 (Ztu n) s:=fun _ _=>rfl
def Zq3 (a:(List Str)) (b:(List Str)):Option Int:=
 (Zp2 big b (0:Int) a (a.length:Int) (0:Int)).bind fun x0=>Zsz x0
def ZsW (w_:(List Int)):Option (List Int):=
 some w_
def Zrv (rec_:(List Int)→Option (List Int)) (w_:(List Int)) (t14:Bool):Option (List Int):=
 bif t14 then (
  chk (inK .i64 ((w_.length:Int) - 1)) <|
  chk (Zb9 0 ((w_.length:Int) - 1) (w_.length:Int)) <|
  rec_ (w_.take (((w_.length:Int) - 1)).toNat)
 )else (
  some w_
 )
def ZqS (rec_:(List Int)→Option (List Int)) (w_:(List Int)):Option (List Int):=
 bif (decide ((w_.length:Int) > 0))then (
  chk (inK .i64 ((w_.length:Int) - 1)) <|
  (idx w_ ((w_.length:Int) - 1)).bind fun w__e=>
  Zrv rec_ w_ (w__e == 0)
 )else (
  Zrv rec_ w_ false
 )
def Zop:Nat→(List Int)→Option (List Int)
 |0,_=>none
 |n_+1,w_=>ZqS (Zop n_) w_
def ZtE (n:Nat) (s:(List Int)):Option (List Int):=Zop n s
def ZtF (rec_:(List Int)→Option (List Int)) (s:(List Int)):Option (List Int):=ZqS (fun w_=>rec_ w_) s
theorem ZuW:∀n s,ZtE (n+1) s=ZtF (ZtE n) s:=fun _ _=>rfl
def ZnQ (w_:(List Int)):Option (List Int):=
 (Zop big w_).bind fun x0=>ZsW x0
def ZpP (n:Int):Option (List Int):=
 chk (decide (0≤(32:Int))) <|
 (ZnQ ([(IntKind.wrap .u32 n),(IntKind.wrap .u32 (shrK .u64 n 32))]:(List Int))).bind fun q=>
 some q
def ZrU (t4:Bool) (t4_1:(List Int)):Option ZnC:=
 some (ZnC.mk t4 t4_1)
def ZnU (neg:Bool) (w_:(List Int)):Option ZnC:=
 bif neg then (
  chk (ZiZ w_.length 4) <|
  ZrU (decide ((w_.length:Int) > 0)) w_
 )else (
  chk (ZiZ w_.length 4) <|
  ZrU false w_
 )
def Zqy (n:Int):Option ZnC:=
 bif (decide (n < 0))then (
  (ZpP (IntKind.wrap .u64 (0 - (IntKind.wrap .u64 n)))).bind fun q=>
  (ZnU true q).bind fun q_1=>
  some q_1
 )else (
  (ZpP (IntKind.wrap .u64 n)).bind fun q_2=>
  (ZnU false q_2).bind fun q_3=>
  some q_3
 )
def Zof (t2:Bool):Option Bool:=
 some t2
def Zqb (a:ZnC):Option Bool:=
 bif (decide ((a.Words.length:Int)≤256))then (
  bif ((a.Words.length:Int) == 0)then (
   bif (!a.Neg)then (
    Zof true
   )else (
    bif (decide ((a.Words.length:Int) > 0))then (
     chk (inK .i64 ((a.Words.length:Int) - 1)) <|
     (idx a.Words ((a.Words.length:Int) - 1)).bind fun Word=>
     Zof (Word != 0)
    )else (
     Zof false
    )
   )
  )else (
   bif (decide ((a.Words.length:Int) > 0))then (
    chk (inK .i64 ((a.Words.length:Int) - 1)) <|
    (idx a.Words ((a.Words.length:Int) - 1)).bind fun Word_1=>
    Zof (Word_1 != 0)
   )else (
    Zof false
   )
  )
 )else (
  Zof false
 )
def ZuK:Option Bool:=
 some true
def ZrW (rec_:(List ZnC)→Int→Int→Option (Out Unit Bool)) (t5:(List ZnC)) (t6:Int) (t7:Int):Option (Out Unit Bool):=
 bif (decide (t7 < t6))then (
  (idx t5 t7).bind fun a=>
  (Zqb a).bind fun q=>
  bif (!q)then (
   some (.ret false)
  )else (
   chk (inK .i64 (t7+1)) <|
   rec_ t5 t6 (t7+1)
  )
 )else (
  some (.brk ())
 )
def ZsD:Nat→(List ZnC)→Int→Int→Option (Out Unit Bool)
 |0,_,_,_=>none
 |n_+1,t5,t6,t7=>ZrW (ZsD n_) t5 t6 t7
def Zue (n:Nat) (s:((List ZnC)×Int×Int)):Option (Out Unit Bool):=ZsD n s.1 s.2.1 s.2.2
def Zth (rec_:((List ZnC)×Int×Int)→Option (Out Unit Bool)) (s:((List ZnC)×Int×Int)):Option (Out Unit Bool):=ZrW (fun t5 t6 t7=>rec_ (t5,t6,t7)) s.1 s.2.1 s.2.2
theorem Zvp:∀n s,Zue (n+1) s=Zth (Zue n) s:=fun _ _=>rfl
def Zsb (l:(List ZnC)):Option Bool:=
 (ZsD big l (l.length:Int) (0:Int)).bind fun
  | .ret q_=>some q_
  | .brk ()=>ZuK
def Zs4 (x_:Int):Option Bool:=
 some (x_ != x_)
def Zsd (x_:Int) (y:Int):Option Int:=
 (Zs4 x_).bind fun xNaN=>
 (Zs4 y).bind fun yNaN=>
 bif xNaN then (
  bif yNaN then (
   some (0:Int)
  )else (
   some (-1:Int)
  )
 )else (
  bif yNaN then (
   some (1:Int)
  )else (
   bif (decide (x_ < y))then (
    some (-1:Int)
   )else (
    bif (decide (x_ > y))then (
     some (1:Int)
    )else (
     some (0:Int)
    )
   )
  )
 )
def ZsE (x_:Int):Option Bool:=
 some (x_ != x_)
def ZrX (x_:Int) (y:Int):Option Int:=
 (ZsE x_).bind fun xNaN=>
 (ZsE y).bind fun yNaN=>
 bif xNaN then (
  bif yNaN then (
   some (0:Int)
  )else (
   some (-1:Int)
  )
 )else (
  bif yNaN then (
   some (1:Int)
  )else (
   bif (decide (x_ < y))then (
    some (-1:Int)
   )else (
    bif (decide (x_ > y))then (
     some (1:Int)
    )else (
     some (0:Int)
    )
   )
  )
 )
def Zra:Option Int:=
 some (0:Int)
def Zpo (rec_:(List Int)→(List Int)→Int→Option (Out Unit Int)) (w_:(List Int)) (v_:(List Int)) (i:Int):Option (Out Unit Int):=
 bif (decide (i≥0))then (
  (idx w_ i).bind fun w__e=>
  (idx v_ i).bind fun v__e=>
  (ZrX w__e v__e).bind fun c=>
  bif (c != 0)then (
   some (.ret c)
  )else (
   chk (inK .i64 (i - 1)) <|
   rec_ w_ v_ (i - 1)
  )
 )else (
  some (.brk ())
 )
def ZpN:Nat→(List Int)→(List Int)→Int→Option (Out Unit Int)
 |0,_,_,_=>none
 |n_+1,w_,v_,i=>Zpo (ZpN n_) w_ v_ i
def Zst (n:Nat) (s:((List Int)×(List Int)×Int)):Option (Out Unit Int):=ZpN n s.1 s.2.1 s.2.2
def ZqI (rec_:((List Int)×(List Int)×Int)→Option (Out Unit Int)) (s:((List Int)×(List Int)×Int)):Option (Out Unit Int):=Zpo (fun w_ v_ i=>rec_ (w_,v_,i)) s.1 s.2.1 s.2.2
theorem ZtZ:∀n s,Zst (n+1) s=ZqI (Zst n) s:=fun _ _=>rfl
def Zn2 (w_:(List Int)) (v_:(List Int)):Option Int:=
 (Zsd (w_.length:Int) (v_.length:Int)).bind fun c=>
 bif (c != 0)then (
  some c
 )else (
  chk (inK .i64 ((w_.length:Int) - 1)) <|
  (ZpN big w_ v_ ((w_.length:Int) - 1)).bind fun
   | .ret q_=>some q_
   | .brk ()=>Zra
 )
def ZnH (s:(List Int)) (t4:Bool):Option (List Int):=
 bif t4 then (
  some ([]:(List Int))
 )else (
  chk (ZiZ (([]:(List Int)).length+s.length) 4) <|
  some (([]:(List Int))++s)
 )
def ZnZ (s:(List Int)):Option (List Int):=
 bif (List.isEmpty s)then agree (
  ZnH s true
 ) (
  ZnH s false
 )else (
  ZnH s false
 )
def ZqK (hi:Int) (lo:Int) (y:Int) (t15:Bool):Option (Int×Int):=
 bif t15 then (
  none
 )else (
  chk (decide (0≤(32:Int))) <|
  chk (decide ((IntKind.wrap .u64 y)≠0)) <|
  chk (decide ((IntKind.wrap .u64 y)≠0)) <|
  some ((IntKind.wrap .u32 (IntKind.wrap .u64 (Int.tdiv (orK .u64 (shlK .u64 (IntKind.wrap .u64 hi) 32) (IntKind.wrap .u64 lo)) (IntKind.wrap .u64 y)))),(IntKind.wrap .u32 (Int.tmod (orK .u64 (shlK .u64 (IntKind.wrap .u64 hi) 32) (IntKind.wrap .u64 lo)) (IntKind.wrap .u64 y))))
 )
def Zr7 (hi:Int) (lo:Int) (y:Int):Option (Int×Int):=
 bif (y != 0)then (
  ZqK hi lo y (decide (y≤hi))
 )else (
  ZqK hi lo y false
 )
def ZrN (rest:Int) (out:(List Int)):Option ((List Int)×Int):=
 (ZnQ out).bind fun q=>
 some (q,rest)
def ZpK (rec_:(List Int)→Int→Int→Int→(List Int)→Option (Int×(List Int))) (w_:(List Int)) (d:Int) (rest:Int) (i:Int) (out:(List Int)):Option (Int×(List Int)):=
 bif (decide (i≥0))then (
  (idx w_ i).bind fun w__e=>
  (Zr7 rest w__e d).bind fun(q,rest_1)=>
  chk (inR i (out.length:Int)) <|
  chk (inK .i64 (i - 1)) <|
  rec_ w_ d rest_1 (i - 1) (out.set ((i).toNat) q)
 )else (
  some (rest,out)
 )
def Zql:Nat→(List Int)→Int→Int→Int→(List Int)→Option (Int×(List Int))
 |0,_,_,_,_,_=>none
 |n_+1,w_,d,rest,i,out=>ZpK (Zql n_) w_ d rest i out
def ZsT (n:Nat) (s:((List Int)×Int×Int×Int×(List Int))):Option (Int×(List Int)):=Zql n s.1 s.2.1 s.2.2.1 s.2.2.2.1 s.2.2.2.2
def Zq7 (rec_:((List Int)×Int×Int×Int×(List Int))→Option (Int×(List Int))) (s:((List Int)×Int×Int×Int×(List Int))):Option (Int×(List Int)):=ZpK (fun w_ d rest i out=>rec_ (w_,d,rest,i,out)) s.1 s.2.1 s.2.2.1 s.2.2.2.1 s.2.2.2.2
theorem Zus:∀n s,ZsT (n+1) s=Zq7 (ZsT n) s:=fun _ _=>rfl
def Zp3 (w_:(List Int)) (d:Int):Option ((List Int)×Int):=
 chk (mkOk (w_.length:Int) (w_.length:Int) 4) <|
 chk (inK .i64 ((w_.length:Int) - 1)) <|
 (Zql big w_ d (0:Int) ((w_.length:Int) - 1) (List.replicate ((w_.length:Int)).toNat (0:Int))).bind fun(x0,x1)=>ZrN x0 x1
def ZpQ (x_:Int) (n:Int):Option Int:=
 (idx ([0,1,2,2,3,3,3,3,4,4,4,4,4,4,4,4,5,5,5,5,5,5,5,5,5,5,5,5,5,5,5,5,6,6,6,6,6,6,6,6,6,6,6,6,6,6,6,6,6,6,6,6,6,6,6,6,6,6,6,6,6,6,6,6,7,7,7,7,7,7,7,7,7,7,7,7,7,7,7,7,7,7,7,7,7,7,7,7,7,7,7,7,7,7,7,7,7,7,7,7,7,7,7,7,7,7,7,7,7,7,7,7,7,7,7,7,7,7,7,7,7,7,7,7,7,7,7,7,8,8,8,8,8,8,8,8,8,8,8,8,8,8,8,8,8,8,8,8,8,8,8,8,8,8,8,8,8,8,8,8,8,8,8,8,8,8,8,8,8,8,8,8,8,8,8,8,8,8,8,8,8,8,8,8,8,8,8,8,8,8,8,8,8,8,8,8,8,8,8,8,8,8,8,8,8,8,8,8,8,8,8,8,8,8,8,8,8,8,8,8,8,8,8,8,8,8,8,8,8,8,8,8,8,8,8,8,8,8,8,8,8,8,8,8,8,8,8,8,8,8,8,8,8,8,8,8]:Str) (IntKind.wrap .u8 x_)).bind fun c=>
 chk (inK .i64 (n+(IntKind.wrap .i64 ((c.toNat:Nat):Int)))) <|
 some (n+(IntKind.wrap .i64 ((c.toNat:Nat):Int)))
def ZrS (x_:Int) (n:Int):Option Int:=
 bif (decide (x_≥256))then (
  chk (decide (0≤(8:Int))) <|
  chk (inK .i64 (n+8)) <|
  ZpQ (shrK .u32 x_ 8) (n+8)
 )else (
  ZpQ x_ n
 )
def Zr6 (x_:Int):Option Int:=
 bif (decide (x_≥65536))then (
  chk (decide (0≤(16:Int))) <|
  ZrS (shrK .u32 x_ 16) (16:Int)
 )else (
  ZrS x_ (0:Int)
 )
def Zo2 (x_:Int):Option Int:=
 (Zr6 x_).bind fun q=>
 chk (inK .i64 (32 - q)) <|
 some (32 - q)
def Zq8 (out:(List Int)):Option (List Int):=
 some out
def Zpn (rec_:Int→(List Int)→Int→Int→(List Int)→Option (List Int)) (n:Int) (t13:(List Int)) (t14:Int) (i:Int) (out:(List Int)):Option (List Int):=
 bif (decide (i < t14))then (
  (idx t13 i).bind fun d=>
  chk (decide (0≤n)) <|
  chk (inR i (out.length:Int)) <|
  (out[(i).toNat]?).bind fun out_e=>
  chk (inR i (out.length:Int)) <|
  chk (inK .i64 (i+1)) <|
  chk (decide (0≤(32:Int))) <|
  chk (inR (i+1) ((out.set ((i).toNat) (orK .u32 out_e (IntKind.wrap .u32 (shlK .u64 (IntKind.wrap .u64 d) n)))).length:Int)) <|
  chk (inK .i64 (i+1)) <|
  rec_ n t13 t14 (i+1) ((out.set ((i).toNat) (orK .u32 out_e (IntKind.wrap .u32 (shlK .u64 (IntKind.wrap .u64 d) n)))).set (((i+1)).toNat) (IntKind.wrap .u32 (shrK .u64 (shlK .u64 (IntKind.wrap .u64 d) n) 32)))
 )else (
  some out
 )
def ZpL:Nat→Int→(List Int)→Int→Int→(List Int)→Option (List Int)
 |0,_,_,_,_,_=>none
 |n_+1,n,t13,t14,i,out=>Zpn (ZpL n_) n t13 t14 i out
def Zss (n:Nat) (s:(Int×(List Int)×Int×Int×(List Int))):Option (List Int):=ZpL n s.1 s.2.1 s.2.2.1 s.2.2.2.1 s.2.2.2.2
def ZqH (rec_:(Int×(List Int)×Int×Int×(List Int))→Option (List Int)) (s:(Int×(List Int)×Int×Int×(List Int))):Option (List Int):=Zpn (fun n t13 t14 i out=>rec_ (n,t13,t14,i,out)) s.1 s.2.1 s.2.2.1 s.2.2.2.1 s.2.2.2.2
theorem ZtY:∀n s,Zss (n+1) s=ZqH (Zss n) s:=fun _ _=>rfl
def Zom (w_:(List Int)) (n:Int):Option (List Int):=
 chk (inK .i64 ((w_.length:Int)+1)) <|
 chk (mkOk ((w_.length:Int)+1) ((w_.length:Int)+1) 4) <|
 (ZpL big n w_ (w_.length:Int) (0:Int) (List.replicate (((w_.length:Int)+1)).toNat (0:Int))).bind fun x0=>Zq8 x0
def Zp7 (x_:Int) (y:Int) (borrow:Int):Option (Int×Int):=
 chk (decide (0≤(31:Int))) <|
 some ((IntKind.wrap .u32 ((IntKind.wrap .u32 (x_ - y)) - borrow)),(shrK .u32 (orK .u32 (andK .u32 (xorK .u32 (if IntKind.signed .u32 then -1 else IntKind.max .u32) x_) y) (andK .u32 (xorK .u32 (if IntKind.signed .u32 then -1 else IntKind.max .u32) (xorK .u32 x_ y)) (IntKind.wrap .u32 ((IntKind.wrap .u32 (x_ - y)) - borrow)))) 31))
def ZqU (x_:Int) (y:Int) (carry:Int):Option (Int×Int):=
 chk (decide (0≤(32:Int))) <|
 some ((IntKind.wrap .u32 (IntKind.wrap .u64 ((IntKind.wrap .u64 ((IntKind.wrap .u64 x_)+(IntKind.wrap .u64 y)))+(IntKind.wrap .u64 carry)))),(IntKind.wrap .u32 (shrK .u64 (IntKind.wrap .u64 ((IntKind.wrap .u64 ((IntKind.wrap .u64 x_)+(IntKind.wrap .u64 y)))+(IntKind.wrap .u64 carry))) 32)))
def Zsk (u_off:Nat) (u_len:Nat) (n:Int) (guess:Int) (add:Int) (u:(List Int)):Option (Int×(List Int)):=
 chk (inR n (u_len:Int)) <|
 (u[(u_off+(n).toNat)]?).bind fun u_e=>
 chk (inR n (u_len:Int)) <|
 some ((IntKind.wrap .u32 (IntKind.wrap .u64 (guess - 1))),(u.set (u_off+(n).toNat) (IntKind.wrap .u32 (u_e+add))))
def Zrw (rec_:Nat→Nat→Int→Int→Int→(List Int)→Int→Int→(List Int)→Option (Nat×Nat×Int×Int×Int×(List Int))) (u_off:Nat) (u_len:Nat) (n:Int) (guess:Int) (add:Int) (t130:(List Int)) (t131:Int) (i:Int) (u:(List Int)):Option (Nat×Nat×Int×Int×Int×(List Int)):=
 bif (decide (i < t131))then (
  (idx t130 i).bind fun x_=>
  chk (inR i (u_len:Int)) <|
  (u[(u_off+(i).toNat)]?).bind fun u_e=>
  (ZqU u_e x_ add).bind fun(q,add_1)=>
  chk (inR i (u_len:Int)) <|
  chk (inK .i64 (i+1)) <|
  rec_ u_off u_len n guess add_1 t130 t131 (i+1) (u.set (u_off+(i).toNat) q)
 )else (
  some (u_off,u_len,n,guess,add,u)
 )
def Zrb:Nat→Nat→Nat→Int→Int→Int→(List Int)→Int→Int→(List Int)→Option (Nat×Nat×Int×Int×Int×(List Int))
 |0,_,_,_,_,_,_,_,_,_=>none
 |n_+1,u_off,u_len,n,guess,add,t130,t131,i,u=>Zrw (Zrb n_) u_off u_len n guess add t130 t131 i u
def Zt0 (n:Nat) (s:(Nat×Nat×Int×Int×Int×(List Int)×Int×Int×(List Int))):Option (Nat×Nat×Int×Int×Int×(List Int)):=Zrb n s.1 s.2.1 s.2.2.1 s.2.2.2.1 s.2.2.2.2.1 s.2.2.2.2.2.1 s.2.2.2.2.2.2.1 s.2.2.2.2.2.2.2.1 s.2.2.2.2.2.2.2.2
def ZsX (rec_:(Nat×Nat×Int×Int×Int×(List Int)×Int×Int×(List Int))→Option (Nat×Nat×Int×Int×Int×(List Int))) (s:(Nat×Nat×Int×Int×Int×(List Int)×Int×Int×(List Int))):Option (Nat×Nat×Int×Int×Int×(List Int)):=Zrw (fun u_off u_len n guess add t130 t131 i u=>rec_ (u_off,u_len,n,guess,add,t130,t131,i,u)) s.1 s.2.1 s.2.2.1 s.2.2.2.1 s.2.2.2.2.1 s.2.2.2.2.2.1 s.2.2.2.2.2.2.1 s.2.2.2.2.2.2.2.1 s.2.2.2.2.2.2.2.2
theorem Zvh:∀n s,Zt0 (n+1) s=ZsX (Zt0 n) s:=fun _ _=>rfl
def Ztt (u_off:Nat) (u_len:Nat) (d:(List Int)) (n:Int) (guess:Int) (borrow:Int) (carry:Int) (u:(List Int)):Option (Int×(List Int)):=
 chk (inR n (u_len:Int)) <|
 (u[(u_off+(n).toNat)]?).bind fun u_e=>
 (Zp7 u_e (IntKind.wrap .u32 carry) borrow).bind fun(q,borrow_1)=>
 chk (inR n (u_len:Int)) <|
 bif (borrow_1 == 0)then (
  some ((IntKind.wrap .u32 guess),(u.set (u_off+(n).toNat) q))
 )else (
  (Zrb big u_off u_len n guess (0:Int) d (d.length:Int) (0:Int) (u.set (u_off+(n).toNat) q)).bind fun(x0,x1,x2,x3,x4,x5)=>Zsk x0 x1 x2 x3 x4 x5
 )
def Zrx (rec_:Nat→Nat→(List Int)→Int→Int→Int→Int→(List Int)→Int→Int→(List Int)→Option (Nat×Nat×(List Int)×Int×Int×Int×Int×(List Int))) (u_off:Nat) (u_len:Nat) (d:(List Int)) (n:Int) (guess:Int) (borrow:Int) (carry:Int) (t82:(List Int)) (t83:Int) (i:Int) (u:(List Int)):Option (Nat×Nat×(List Int)×Int×Int×Int×Int×(List Int)):=
 bif (decide (i < t83))then (
  (idx t82 i).bind fun x_=>
  chk (inR i (u_len:Int)) <|
  (u[(u_off+(i).toNat)]?).bind fun u_e=>
  (Zp7 u_e (IntKind.wrap .u32 (IntKind.wrap .u64 (carry+(IntKind.wrap .u64 (guess*(IntKind.wrap .u64 x_)))))) borrow).bind fun(q,borrow_1)=>
  chk (inR i (u_len:Int)) <|
  chk (decide (0≤(32:Int))) <|
  chk (inK .i64 (i+1)) <|
  rec_ u_off u_len d n guess borrow_1 (shrK .u64 (IntKind.wrap .u64 (carry+(IntKind.wrap .u64 (guess*(IntKind.wrap .u64 x_))))) 32) t82 t83 (i+1) (u.set (u_off+(i).toNat) q)
 )else (
  some (u_off,u_len,d,n,guess,borrow,carry,u)
 )
def Zsj:Nat→Nat→Nat→(List Int)→Int→Int→Int→Int→(List Int)→Int→Int→(List Int)→Option (Nat×Nat×(List Int)×Int×Int×Int×Int×(List Int))
 |0,_,_,_,_,_,_,_,_,_,_,_=>none
 |n_+1,u_off,u_len,d,n,guess,borrow,carry,t82,t83,i,u=>Zrx (Zsj n_) u_off u_len d n guess borrow carry t82 t83 i u
def Zt1 (n:Nat) (s:(Nat×Nat×(List Int)×Int×Int×Int×Int×(List Int)×Int×Int×(List Int))):Option (Nat×Nat×(List Int)×Int×Int×Int×Int×(List Int)):=Zsj n s.1 s.2.1 s.2.2.1 s.2.2.2.1 s.2.2.2.2.1 s.2.2.2.2.2.1 s.2.2.2.2.2.2.1 s.2.2.2.2.2.2.2.1 s.2.2.2.2.2.2.2.2.1 s.2.2.2.2.2.2.2.2.2.1 s.2.2.2.2.2.2.2.2.2.2
def ZsY (rec_:(Nat×Nat×(List Int)×Int×Int×Int×Int×(List Int)×Int×Int×(List Int))→Option (Nat×Nat×(List Int)×Int×Int×Int×Int×(List Int))) (s:(Nat×Nat×(List Int)×Int×Int×Int×Int×(List Int)×Int×Int×(List Int))):Option (Nat×Nat×(List Int)×Int×Int×Int×Int×(List Int)):=Zrx (fun u_off u_len d n guess borrow carry t82 t83 i u=>rec_ (u_off,u_len,d,n,guess,borrow,carry,t82,t83,i,u)) s.1 s.2.1 s.2.2.1 s.2.2.2.1 s.2.2.2.2.1 s.2.2.2.2.2.1 s.2.2.2.2.2.2.1 s.2.2.2.2.2.2.2.1 s.2.2.2.2.2.2.2.2.1 s.2.2.2.2.2.2.2.2.2.1 s.2.2.2.2.2.2.2.2.2.2
theorem Zvi:∀n s,Zt1 (n+1) s=ZsY (Zt1 n) s:=fun _ _=>rfl
def Zsl (u_off:Nat) (u_len:Nat) (d:(List Int)) (n:Int) (guess:Int) (u:(List Int)):Option (Int×(List Int)):=
 (Zsj big u_off u_len d n guess (0:Int) (0:Int) d (d.length:Int) (0:Int) u).bind fun(x0,x1,x2,x3,x4,x5,x6,x7)=>Ztt x0 x1 x2 x3 x4 x5 x6 x7
def Zrc (rec_:Nat→Nat→(List Int)→Int→Int→Int→(List Int)→Option (Nat×Nat×(List Int)×Int×Int×(List Int))) (u_off:Nat) (u_len:Nat) (d:(List Int)) (n:Int) (guess:Int) (rest:Int) (t71:Bool) (u:(List Int)):Option (Nat×Nat×(List Int)×Int×Int×(List Int)):=
 bif t71 then (
  chk (inK .i64 (n - 1)) <|
  (idx d (n - 1)).bind fun d_e=>
  rec_ u_off u_len d n (IntKind.wrap .u64 (guess - 1)) (IntKind.wrap .u64 (rest+(IntKind.wrap .u64 d_e))) u
 )else (
  some (u_off,u_len,d,n,guess,u)
 )
def ZsZ (rec_:Nat→Nat→(List Int)→Int→Int→Int→(List Int)→Option (Nat×Nat×(List Int)×Int×Int×(List Int))) (u_off:Nat) (u_len:Nat) (d:(List Int)) (n:Int) (guess:Int) (rest:Int) (u:(List Int)):Option (Nat×Nat×(List Int)×Int×Int×(List Int)):=
 bif (decide (rest < 4294967296))then (
  chk (inK .i64 (n - 2)) <|
  (idx d (n - 2)).bind fun d_e=>
  chk (decide (0≤(32:Int))) <|
  chk (inK .i64 (n - 2)) <|
  chk (inR (n - 2) (u_len:Int)) <|
  (u[(u_off+((n - 2)).toNat)]?).bind fun u_e=>
  Zrc rec_ u_off u_len d n guess rest (decide ((IntKind.wrap .u64 (guess*(IntKind.wrap .u64 d_e))) > (orK .u64 (shlK .u64 rest 32) (IntKind.wrap .u64 u_e)))) u
 )else (
  Zrc rec_ u_off u_len d n guess rest false u
 )
def Zp9:Nat→Nat→Nat→(List Int)→Int→Int→Int→(List Int)→Option (Nat×Nat×(List Int)×Int×Int×(List Int))
 |0,_,_,_,_,_,_,_=>none
 |n_+1,u_off,u_len,d,n,guess,rest,u=>ZsZ (Zp9 n_) u_off u_len d n guess rest u
def Zt2 (n:Nat) (s:(Nat×Nat×(List Int)×Int×Int×Int×(List Int))):Option (Nat×Nat×(List Int)×Int×Int×(List Int)):=Zp9 n s.1 s.2.1 s.2.2.1 s.2.2.2.1 s.2.2.2.2.1 s.2.2.2.2.2.1 s.2.2.2.2.2.2
def Zt3 (rec_:(Nat×Nat×(List Int)×Int×Int×Int×(List Int))→Option (Nat×Nat×(List Int)×Int×Int×(List Int))) (s:(Nat×Nat×(List Int)×Int×Int×Int×(List Int))):Option (Nat×Nat×(List Int)×Int×Int×(List Int)):=ZsZ (fun u_off u_len d n guess rest u=>rec_ (u_off,u_len,d,n,guess,rest,u)) s.1 s.2.1 s.2.2.1 s.2.2.2.1 s.2.2.2.2.1 s.2.2.2.2.2.1 s.2.2.2.2.2.2
theorem Zvj:∀n s,Zt2 (n+1) s=Zt3 (Zt2 n) s:=fun _ _=>rfl
def Ztr (u:(List Int)) (u_off:Nat) (u_len:Nat) (d:(List Int)):Option (Int×(List Int)):=
 chk (inR (d.length:Int) (u_len:Int)) <|
 (u[(u_off+((d.length:Int)).toNat)]?).bind fun u_e=>
 chk (decide (0≤(32:Int))) <|
 chk (inK .i64 ((d.length:Int) - 1)) <|
 chk (inR ((d.length:Int) - 1) (u_len:Int)) <|
 (u[(u_off+(((d.length:Int) - 1)).toNat)]?).bind fun u_e_1=>
 chk (inK .i64 ((d.length:Int) - 1)) <|
 (idx d ((d.length:Int) - 1)).bind fun d_e=>
 chk (decide ((IntKind.wrap .u64 d_e)≠0)) <|
 chk (inK .i64 ((d.length:Int) - 1)) <|
 (idx d ((d.length:Int) - 1)).bind fun d_e_1=>
 (Zp9 big u_off u_len d (d.length:Int) (if (4294967295:Int) < (IntKind.wrap .u64 (Int.tdiv (orK .u64 (shlK .u64 (IntKind.wrap .u64 u_e) 32) (IntKind.wrap .u64 u_e_1)) (IntKind.wrap .u64 d_e)))then (4294967295:Int)else (IntKind.wrap .u64 (Int.tdiv (orK .u64 (shlK .u64 (IntKind.wrap .u64 u_e) 32) (IntKind.wrap .u64 u_e_1)) (IntKind.wrap .u64 d_e)))) (IntKind.wrap .u64 ((orK .u64 (shlK .u64 (IntKind.wrap .u64 u_e) 32) (IntKind.wrap .u64 u_e_1)) - (IntKind.wrap .u64 ((if (4294967295:Int) < (IntKind.wrap .u64 (Int.tdiv (orK .u64 (shlK .u64 (IntKind.wrap .u64 u_e) 32) (IntKind.wrap .u64 u_e_1)) (IntKind.wrap .u64 d_e)))then (4294967295:Int)else (IntKind.wrap .u64 (Int.tdiv (orK .u64 (shlK .u64 (IntKind.wrap .u64 u_e) 32) (IntKind.wrap .u64 u_e_1)) (IntKind.wrap .u64 d_e))))*(IntKind.wrap .u64 d_e_1))))) u).bind fun(x0,x1,x2,x3,x4,x5)=>Zsl x0 x1 x2 x3 x4 x5
def ZsC (u:(List Int)) (u_off:Nat) (u_len:Nat) (d:(List Int)):Option (Int×(List Int)):=
 (Ztr u u_off u_len d).bind fun r=>chk (decide (r.2.length=u.length)&&true) (some r)
def Zsi (w_off:Nat) (w_len:Nat) (w_:(List Int)):Option (Nat×Nat×(List Int)):=
 some (w_off,w_len,w_)
def ZqT (rec_:Nat→Nat→(List Int)→Option (Nat×Nat×(List Int))) (w_off:Nat) (w_len:Nat) (t14:Bool) (w_:(List Int)):Option (Nat×Nat×(List Int)):=
 bif t14 then (
  chk (inK .i64 (((w_len:Nat):Int) - 1)) <|
  chk (Zb9 0 (((w_len:Nat):Int) - 1) (w_len:Int)) <|
  rec_ (w_off+0) (((((w_len:Nat):Int) - 1)).toNat - 0) w_
 )else (
  some (w_off,w_len,w_)
 )
def ZrP (rec_:Nat→Nat→(List Int)→Option (Nat×Nat×(List Int))) (w_off:Nat) (w_len:Nat) (w_:(List Int)):Option (Nat×Nat×(List Int)):=
 bif (decide (((w_len:Nat):Int) > 0))then (
  chk (inK .i64 (((w_len:Nat):Int) - 1)) <|
  chk (inR (((w_len:Nat):Int) - 1) (w_len:Int)) <|
  (w_[(w_off+((((w_len:Nat):Int) - 1)).toNat)]?).bind fun w__e=>
  ZqT rec_ w_off w_len (w__e == 0) w_
 )else (
  ZqT rec_ w_off w_len false w_
 )
def ZpO:Nat→Nat→Nat→(List Int)→Option (Nat×Nat×(List Int))
 |0,_,_,_=>none
 |n_+1,w_off,w_len,w_=>ZrP (ZpO n_) w_off w_len w_
def Ztl (n:Nat) (s:(Nat×Nat×(List Int))):Option (Nat×Nat×(List Int)):=ZpO n s.1 s.2.1 s.2.2
def Ztm (rec_:(Nat×Nat×(List Int))→Option (Nat×Nat×(List Int))) (s:(Nat×Nat×(List Int))):Option (Nat×Nat×(List Int)):=ZrP (fun w_off w_len w_=>rec_ (w_off,w_len,w_)) s.1 s.2.1 s.2.2
theorem ZuJ:∀n s,Ztl (n+1) s=Ztm (Ztl n) s:=fun _ _=>rfl
def ZrT (w_:(List Int)) (w_off:Nat) (w_len:Nat):Option (Nat×Nat×(List Int)):=
 (ZpO big w_off w_len w_).bind fun(x0,x1,x2)=>Zsi x0 x1 x2
def Zrg (w_:(List Int)) (w_off:Nat) (w_len:Nat):Option (Nat×Nat×(List Int)):=
 (ZrT w_ w_off w_len).bind fun r=>chk (decide (r.2.2.length=w_.length)&&true) (some r)
def Zpr (w_:(List Int)) (i:Int):Option Int:=
 bif (decide (i < (w_.length:Int)))then (
  (idx w_ i).bind fun w__e=>
  some w__e
 )else (
  some (0:Int)
 )
def ZsV (w_:(List Int)) (w_off:Nat) (w_len:Nat) (i:Int):Option (Int×(List Int)):=
 bif (decide (i < ((w_len:Nat):Int)))then (
  chk (inR i (w_len:Int)) <|
  (w_[(w_off+(i).toNat)]?).bind fun w__e=>
  some (w__e,w_)
 )else (
  some (0,w_)
 )
def ZqR (w_:(List Int)) (w_off:Nat) (w_len:Nat) (i:Int):Option (Int×(List Int)):=
 (ZsV w_ w_off w_len i).bind fun r=>chk (decide (r.2.length=w_.length)&&true) (some r)
def Zr9 (rest_off:Nat) (rest_len:Nat) (q:(List Int)) (rest:(List Int)):Option ((List Int)×(List Int)):=
 (ZnQ q).bind fun q_1=>
 (ZnQ ((rest.drop rest_off).take rest_len)).bind fun q_2=>
 some (q_1,q_2)
def ZpW (rec_:Int→Nat→Nat→Int→Int→(List Int)→(List Int)→Option (Nat×Nat×(List Int)×(List Int))) (shift:Int) (rest_off:Nat) (rest_len:Nat) (t86:Int) (i:Int) (q:(List Int)) (rest:(List Int)):Option (Nat×Nat×(List Int)×(List Int)):=
 bif (decide (i < t86))then (
  chk (inK .i64 (i+1)) <|
  (ZqR rest rest_off rest_len (i+1)).bind fun(q_1,t90)=>
  chk (decide (0≤(32:Int))) <|
  chk (inR i (rest_len:Int)) <|
  (t90[(rest_off+(i).toNat)]?).bind fun t90_e=>
  chk (decide (0≤shift)) <|
  chk (inR i (rest_len:Int)) <|
  chk (inK .i64 (i+1)) <|
  rec_ shift rest_off rest_len t86 (i+1) q (t90.set (rest_off+(i).toNat) (IntKind.wrap .u32 (shrK .u64 (orK .u64 (shlK .u64 (IntKind.wrap .u64 q_1) 32) (IntKind.wrap .u64 t90_e)) shift)))
 )else (
  some (rest_off,rest_len,q,rest)
 )
def Zpv:Nat→Int→Nat→Nat→Int→Int→(List Int)→(List Int)→Option (Nat×Nat×(List Int)×(List Int))
 |0,_,_,_,_,_,_,_=>none
 |n_+1,shift,rest_off,rest_len,t86,i,q,rest=>ZpW (Zpv n_) shift rest_off rest_len t86 i q rest
def Zte (n:Nat) (s:(Int×Nat×Nat×Int×Int×(List Int)×(List Int))):Option (Nat×Nat×(List Int)×(List Int)):=Zpv n s.1 s.2.1 s.2.2.1 s.2.2.2.1 s.2.2.2.2.1 s.2.2.2.2.2.1 s.2.2.2.2.2.2
def Zrn (rec_:(Int×Nat×Nat×Int×Int×(List Int)×(List Int))→Option (Nat×Nat×(List Int)×(List Int))) (s:(Int×Nat×Nat×Int×Int×(List Int)×(List Int))):Option (Nat×Nat×(List Int)×(List Int)):=ZpW (fun shift rest_off rest_len t86 i q rest=>rec_ (shift,rest_off,rest_len,t86,i,q,rest)) s.1 s.2.1 s.2.2.1 s.2.2.2.1 s.2.2.2.2.1 s.2.2.2.2.2.1 s.2.2.2.2.2.2
theorem ZuB:∀n s,Zte (n+1) s=Zrn (Zte n) s:=fun _ _=>rfl
def Zsa (n:Int) (shift:Int) (u:(List Int)) (q:(List Int)):Option ((List Int)×(List Int)):=
 chk (Zb9 0 n (u.length:Int)) <|
 (Zrg u 0 ((n).toNat - 0)).bind fun(rest_off,rest_len,t83)=>
 (Zpv big shift rest_off rest_len ((rest_len:Nat):Int) (0:Int) q t83).bind fun(x0,x1,x2,x3)=>Zr9 x0 x1 x2 x3
def ZpX (rec_:Int→Int→(List Int)→Int→(List Int)→(List Int)→Option (Int×Int×(List Int)×(List Int))) (n:Int) (shift:Int) (d:(List Int)) (j:Int) (u:(List Int)) (q:(List Int)):Option (Int×Int×(List Int)×(List Int)):=
 bif (decide (j≥0))then (
  chk (inK .i64 (j+n)) <|
  chk (inK .i64 ((j+n)+1)) <|
  chk (Zb9 j ((j+n)+1) (u.length:Int)) <|
  (ZsC u ((j).toNat) ((((j+n)+1)).toNat - (j).toNat) d).bind fun(q_1,t77)=>
  chk (inR j (q.length:Int)) <|
  chk (inK .i64 (j - 1)) <|
  rec_ n shift d (j - 1) t77 (q.set ((j).toNat) q_1)
 )else (
  some (n,shift,u,q)
 )
def Zpw:Nat→Int→Int→(List Int)→Int→(List Int)→(List Int)→Option (Int×Int×(List Int)×(List Int))
 |0,_,_,_,_,_,_=>none
 |n_+1,n,shift,d,j,u,q=>ZpX (Zpw n_) n shift d j u q
def Ztf (n:Nat) (s:(Int×Int×(List Int)×Int×(List Int)×(List Int))):Option (Int×Int×(List Int)×(List Int)):=Zpw n s.1 s.2.1 s.2.2.1 s.2.2.2.1 s.2.2.2.2.1 s.2.2.2.2.2
def Zro (rec_:(Int×Int×(List Int)×Int×(List Int)×(List Int))→Option (Int×Int×(List Int)×(List Int))) (s:(Int×Int×(List Int)×Int×(List Int)×(List Int))):Option (Int×Int×(List Int)×(List Int)):=ZpX (fun n shift d j u q=>rec_ (n,shift,d,j,u,q)) s.1 s.2.1 s.2.2.1 s.2.2.2.1 s.2.2.2.2.1 s.2.2.2.2.2
theorem ZuC:∀n s,Ztf (n+1) s=Zro (Ztf n) s:=fun _ _=>rfl
def ZoS (w_:(List Int)) (v_:(List Int)):Option ((List Int)×(List Int)):=
 (Zn2 w_ v_).bind fun q=>
 bif (decide (q < 0))then (
  (ZnZ w_).bind fun q_1=>
  some (([]:(List Int)),q_1)
 )else (
  bif ((v_.length:Int) == 1)then (
   (idx v_ 0).bind fun v__e=>
   (Zp3 w_ v__e).bind fun(q_2,r_)=>
   (ZnQ ([r_]:(List Int))).bind fun q_3=>
   some (q_2,q_3)
  )else (
   chk (inK .i64 ((v_.length:Int) - 1)) <|
   (idx v_ ((v_.length:Int) - 1)).bind fun v__e_1=>
   (Zo2 v__e_1).bind fun shift=>
   (Zom w_ shift).bind fun u=>
   (Zom v_ shift).bind fun q_4=>
   chk (Zb9 0 (v_.length:Int) (q_4.length:Int)) <|
   chk (inK .i64 ((w_.length:Int) - (v_.length:Int))) <|
   chk (inK .i64 (((w_.length:Int) - (v_.length:Int))+1)) <|
   chk (mkOk (((w_.length:Int) - (v_.length:Int))+1) (((w_.length:Int) - (v_.length:Int))+1) 4) <|
   chk (inK .i64 (((List.replicate ((((w_.length:Int) - (v_.length:Int))+1)).toNat (0:Int)).length:Int) - 1)) <|
   (Zpw big (v_.length:Int) shift ((q_4.drop 0).take (((v_.length:Int)).toNat - 0)) (((List.replicate ((((w_.length:Int) - (v_.length:Int))+1)).toNat (0:Int)).length:Int) - 1) u (List.replicate ((((w_.length:Int) - (v_.length:Int))+1)).toNat (0:Int))).bind fun(x0,x1,x2,x3)=>Zsa x0 x1 x2 x3
  )
 )
def Zrp (w_:(List Int)):Option (List Int):=
 some w_
def ZoB (rec_:(List Int)→(List Int)→Option (List Int)) (w_:(List Int)) (v_:(List Int)):Option (List Int):=
 bif (decide ((v_.length:Int) > 0))then (
  (ZoS w_ v_).bind fun(q,r_)=>
  rec_ v_ r_
 )else (
  some w_
 )
def Zn6:Nat→(List Int)→(List Int)→Option (List Int)
 |0,_,_=>none
 |n_+1,w_,v_=>ZoB (Zn6 n_) w_ v_
def ZoX (w_:(List Int)) (v_:(List Int)):Option (List Int):=
 (Zn6 big w_ v_).bind fun x0=>Zrp x0
def ZoC (num:ZnC) (den:ZnC):Option ZnA:=
 (ZoX num.Words den.Words).bind fun g=>
 (ZoS num.Words g).bind fun(x_,q)=>
 (ZoS den.Words g).bind fun(y,q_1)=>
 (ZnU (!(num.Neg == den.Neg)) x_).bind fun q_2=>
 (ZnU false y).bind fun q_3=>
 some (ZnA.mk q_2 q_3)
def Zs0 (num:ZnC) (den:ZnC):Option (ZnA×Int):=
 (Zsb ([num,den]:(List ZnC))).bind fun q=>
 bif (!q)then (
  some ((ZnA.mk (ZnC.mk false ([]:(List Int))) (ZnC.mk false ([]:(List Int)))),1)
 )else (
  bif ((den.Words.length:Int) == 0)then (
   some ((ZnA.mk (ZnC.mk false ([]:(List Int))) (ZnC.mk false ([]:(List Int)))),8)
  )else (
   (ZoC num den).bind fun q_1=>
   some (q_1,0)
  )
 )
def Zs9 (num:Int) (den:Int):Option (ZnA×Int):=
 (Zqy num).bind fun q=>
 (Zqy den).bind fun q_1=>
 (Zs0 q q_1).bind fun(q_2,q_3)=>
 some (q_2,q_3)
def Zs7:Option ZnA:=
 (Zs9 0 1).bind fun(f,q)=>
 some f
def ZtV (a:Int) (b:Int):Option ZnA:=
 (Zs9 a b).bind fun(f,e)=>
 bif (e != 0)then (
  (Zs7).bind fun q=>
  some q
 )else (
  some f
 )
def Zqu (a:(List Str)) (b:(List Str)):Option ZnA:=
 (Zq3 a b).bind fun n=>
 chk (inK .i64 ((a.length:Int)+(b.length:Int))) <|
 chk (inK .i64 (((a.length:Int)+(b.length:Int)) - n)) <|
 (ZtV n (if (1:Int) > (((a.length:Int)+(b.length:Int)) - n)then (1:Int)else (((a.length:Int)+(b.length:Int)) - n))).bind fun q=>
 some q
def Zq4 (a:ZnJ) (b:ZnJ):Option ZnA:=
 (ZqG a).bind fun q=>
 (ZqG b).bind fun q_1=>
 (Zqu q q_1).bind fun q_2=>
 some q_2
def Zqw (a:Str) (b:Str):Option ZnA:=
 (Zoo a).bind fun q=>
 (Zoo b).bind fun q_1=>
 (Zqu q q_1).bind fun q_2=>
 some q_2
def Zqa (t2:Bool):Option Bool:=
 some t2
def Zov (f:ZnA):Option Bool:=
 (Zsb ([f.Num,f.Den]:(List ZnC))).bind fun q=>
 bif q then (
  bif (decide ((f.Den.Words.length:Int) > 0))then (
   bif (!f.Den.Neg)then (
    (ZoX f.Num.Words f.Den.Words).bind fun q_1=>
    (Zn2 q_1 ([1]:List Int)).bind fun q_2=>
    Zqa (q_2 == 0)
   )else (
    Zqa false
   )
  )else (
   Zqa false
  )
 )else (
  Zqa false
 )
def ZrL (out:(List Int)):Option (List Int):=
 (ZnQ out).bind fun q=>
 some q
def ZrM (rec_:(List Int)→(List Int)→Int→Int→(List Int)→Option (List Int)) (v_:(List Int)) (i:Int) (carry:Int) (t17:(List Int)) (t18:Int) (i_1:Int) (out:(List Int)):Option (List Int):=
 chk (inK .i64 (i+(v_.length:Int))) <|
 chk (inR (i+(v_.length:Int)) (out.length:Int)) <|
 chk (inK .i64 (i_1+1)) <|
 rec_ v_ t17 t18 (i_1+1) (out.set (((i+(v_.length:Int))).toNat) (IntKind.wrap .u32 carry))
def ZpI (rec_:(List Int)→Int→Int→Int→(List Int)→Int→Int→(List Int)→Int→Int→(List Int)→Option ((List Int)×Int×Int×(List Int)×Int×Int×(List Int))) (v_:(List Int)) (i:Int) (x_:Int) (carry:Int) (t17:(List Int)) (t18:Int) (i_1:Int) (t24:(List Int)) (t25:Int) (j:Int) (out:(List Int)):Option ((List Int)×Int×Int×(List Int)×Int×Int×(List Int)):=
 bif (decide (j < t25))then (
  (idx t24 j).bind fun y=>
  chk (inK .i64 (i+j)) <|
  chk (inR (i+j) (out.length:Int)) <|
  (out[((i+j)).toNat]?).bind fun out_e=>
  chk (inK .i64 (i+j)) <|
  chk (inR (i+j) (out.length:Int)) <|
  chk (decide (0≤(32:Int))) <|
  chk (inK .i64 (j+1)) <|
  rec_ v_ i x_ (shrK .u64 (IntKind.wrap .u64 (carry+(IntKind.wrap .u64 ((IntKind.wrap .u64 ((IntKind.wrap .u64 x_)*(IntKind.wrap .u64 y)))+(IntKind.wrap .u64 out_e))))) 32) t17 t18 i_1 t24 t25 (j+1) (out.set (((i+j)).toNat) (IntKind.wrap .u32 (IntKind.wrap .u64 (carry+(IntKind.wrap .u64 ((IntKind.wrap .u64 ((IntKind.wrap .u64 x_)*(IntKind.wrap .u64 y)))+(IntKind.wrap .u64 out_e)))))))
 )else (
  some (v_,i,carry,t17,t18,i_1,out)
 )
def Zqk:Nat→(List Int)→Int→Int→Int→(List Int)→Int→Int→(List Int)→Int→Int→(List Int)→Option ((List Int)×Int×Int×(List Int)×Int×Int×(List Int))
 |0,_,_,_,_,_,_,_,_,_,_,_=>none
 |n_+1,v_,i,x_,carry,t17,t18,i_1,t24,t25,j,out=>ZpI (Zqk n_) v_ i x_ carry t17 t18 i_1 t24 t25 j out
def ZsR (n:Nat) (s:((List Int)×Int×Int×Int×(List Int)×Int×Int×(List Int)×Int×Int×(List Int))):Option ((List Int)×Int×Int×(List Int)×Int×Int×(List Int)):=Zqk n s.1 s.2.1 s.2.2.1 s.2.2.2.1 s.2.2.2.2.1 s.2.2.2.2.2.1 s.2.2.2.2.2.2.1 s.2.2.2.2.2.2.2.1 s.2.2.2.2.2.2.2.2.1 s.2.2.2.2.2.2.2.2.2.1 s.2.2.2.2.2.2.2.2.2.2
def Zq5 (rec_:((List Int)×Int×Int×Int×(List Int)×Int×Int×(List Int)×Int×Int×(List Int))→Option ((List Int)×Int×Int×(List Int)×Int×Int×(List Int))) (s:((List Int)×Int×Int×Int×(List Int)×Int×Int×(List Int)×Int×Int×(List Int))):Option ((List Int)×Int×Int×(List Int)×Int×Int×(List Int)):=ZpI (fun v_ i x_ carry t17 t18 i_1 t24 t25 j out=>rec_ (v_,i,x_,carry,t17,t18,i_1,t24,t25,j,out)) s.1 s.2.1 s.2.2.1 s.2.2.2.1 s.2.2.2.2.1 s.2.2.2.2.2.1 s.2.2.2.2.2.2.1 s.2.2.2.2.2.2.2.1 s.2.2.2.2.2.2.2.2.1 s.2.2.2.2.2.2.2.2.2.1 s.2.2.2.2.2.2.2.2.2.2
theorem Zuq:∀n s,ZsR (n+1) s=Zq5 (ZsR n) s:=fun _ _=>rfl
def ZpJ (rec_:(List Int)→(List Int)→Int→Int→(List Int)→Option (List Int)) (v_:(List Int)) (t17:(List Int)) (t18:Int) (i:Int) (out:(List Int)):Option (List Int):=
 bif (decide (i < t18))then (
  (idx t17 i).bind fun x_=>
  (Zqk big v_ i x_ (0:Int) t17 t18 i v_ (v_.length:Int) (0:Int) out).bind fun(x0,x1,x2,x3,x4,x5,x6)=>ZrM rec_ x0 x1 x2 x3 x4 x5 x6
 )else (
  some out
 )
def Zph:Nat→(List Int)→(List Int)→Int→Int→(List Int)→Option (List Int)
 |0,_,_,_,_,_=>none
 |n_+1,v_,t17,t18,i,out=>ZpJ (Zph n_) v_ t17 t18 i out
def ZsS (n:Nat) (s:((List Int)×(List Int)×Int×Int×(List Int))):Option (List Int):=Zph n s.1 s.2.1 s.2.2.1 s.2.2.2.1 s.2.2.2.2
def Zq6 (rec_:((List Int)×(List Int)×Int×Int×(List Int))→Option (List Int)) (s:((List Int)×(List Int)×Int×Int×(List Int))):Option (List Int):=ZpJ (fun v_ t17 t18 i out=>rec_ (v_,t17,t18,i,out)) s.1 s.2.1 s.2.2.1 s.2.2.2.1 s.2.2.2.2
theorem Zur:∀n s,ZsS (n+1) s=Zq6 (ZsS n) s:=fun _ _=>rfl
def Zoz (w_:(List Int)) (v_:(List Int)):Option (List Int):=
 chk (inK .i64 ((w_.length:Int)+(v_.length:Int))) <|
 chk (mkOk ((w_.length:Int)+(v_.length:Int)) ((w_.length:Int)+(v_.length:Int)) 4) <|
 (Zph big v_ w_ (w_.length:Int) (0:Int) (List.replicate (((w_.length:Int)+(v_.length:Int))).toNat (0:Int))).bind fun x0=>ZrL x0
def ZnK (a:ZnC) (b:ZnC):Option ZnC:=
 (Zoz a.Words b.Words).bind fun q=>
 (ZnU (!(a.Neg == b.Neg)) q).bind fun q_1=>
 some q_1
def Zrh (t2:ZnC):Option ZnC:=
 some t2
def Zps (a:ZnC):Option ZnC:=
 bif (!a.Neg)then (
  Zrh (ZnC.mk (decide ((a.Words.length:Int) > 0)) a.Words)
 )else (
  Zrh (ZnC.mk false a.Words)
 )
def Zr8 (carry:Int) (out:(List Int)):Option (List Int):=
 chk (ZiZ (out.length+([carry]:(List Int)).length) 4) <|
 (ZnQ (out++([carry]:(List Int)))).bind fun q=>
 some q
def ZpV (rec_:(List Int)→(List Int)→Int→Int→Int→(List Int)→Option (Int×(List Int))) (w_:(List Int)) (v_:(List Int)) (carry:Int) (t20:Int) (i:Int) (out:(List Int)):Option (Int×(List Int)):=
 bif (decide (i < t20))then (
  (Zpr w_ i).bind fun q=>
  (Zpr v_ i).bind fun q_1=>
  (ZqU q q_1 carry).bind fun(d,carry_1)=>
  chk (ZiZ (out.length+([d]:(List Int)).length) 4) <|
  chk (inK .i64 (i+1)) <|
  rec_ w_ v_ carry_1 t20 (i+1) (out++([d]:(List Int)))
 )else (
  some (carry,out)
 )
def Zqx:Nat→(List Int)→(List Int)→Int→Int→Int→(List Int)→Option (Int×(List Int))
 |0,_,_,_,_,_,_=>none
 |n_+1,w_,v_,carry,t20,i,out=>ZpV (Zqx n_) w_ v_ carry t20 i out
def Ztd (n:Nat) (s:((List Int)×(List Int)×Int×Int×Int×(List Int))):Option (Int×(List Int)):=Zqx n s.1 s.2.1 s.2.2.1 s.2.2.2.1 s.2.2.2.2.1 s.2.2.2.2.2
def Zrm (rec_:((List Int)×(List Int)×Int×Int×Int×(List Int))→Option (Int×(List Int))) (s:((List Int)×(List Int)×Int×Int×Int×(List Int))):Option (Int×(List Int)):=ZpV (fun w_ v_ carry t20 i out=>rec_ (w_,v_,carry,t20,i,out)) s.1 s.2.1 s.2.2.1 s.2.2.2.1 s.2.2.2.2.1 s.2.2.2.2.2
theorem ZuA:∀n s,Ztd (n+1) s=Zrm (Ztd n) s:=fun _ _=>rfl
def Zpu (w_:(List Int)) (v_:(List Int)):Option (List Int):=
 chk (inK .i64 ((if (v_.length:Int) > (w_.length:Int)then (v_.length:Int)else (w_.length:Int))+1)) <|
 chk (mkOk 0 ((if (v_.length:Int) > (w_.length:Int)then (v_.length:Int)else (w_.length:Int))+1) 4) <|
 (Zqx big w_ v_ (0:Int) (if (v_.length:Int) > (w_.length:Int)then (v_.length:Int)else (w_.length:Int)) (0:Int) (List.replicate ((0:Int)).toNat (0:Int))).bind fun(x0,x1)=>Zr8 x0 x1
def ZrO (out:(List Int)):Option (List Int):=
 (ZnQ out).bind fun q=>
 some q
def ZpM (rec_:(List Int)→(List Int)→Int→Int→Int→(List Int)→Option (List Int)) (w_:(List Int)) (v_:(List Int)) (borrow:Int) (t12:Int) (i:Int) (out:(List Int)):Option (List Int):=
 bif (decide (i < t12))then (
  (idx w_ i).bind fun w__e=>
  (Zpr v_ i).bind fun q=>
  (Zp7 w__e q borrow).bind fun(q_1,borrow_1)=>
  chk (inR i (out.length:Int)) <|
  chk (inK .i64 (i+1)) <|
  rec_ w_ v_ borrow_1 t12 (i+1) (out.set ((i).toNat) q_1)
 )else (
  some out
 )
def Zqm:Nat→(List Int)→(List Int)→Int→Int→Int→(List Int)→Option (List Int)
 |0,_,_,_,_,_,_=>none
 |n_+1,w_,v_,borrow,t12,i,out=>ZpM (Zqm n_) w_ v_ borrow t12 i out
def ZsU (n:Nat) (s:((List Int)×(List Int)×Int×Int×Int×(List Int))):Option (List Int):=Zqm n s.1 s.2.1 s.2.2.1 s.2.2.2.1 s.2.2.2.2.1 s.2.2.2.2.2
def Zq9 (rec_:((List Int)×(List Int)×Int×Int×Int×(List Int))→Option (List Int)) (s:((List Int)×(List Int)×Int×Int×Int×(List Int))):Option (List Int):=ZpM (fun w_ v_ borrow t12 i out=>rec_ (w_,v_,borrow,t12,i,out)) s.1 s.2.1 s.2.2.1 s.2.2.2.1 s.2.2.2.2.1 s.2.2.2.2.2
theorem Zut:∀n s,ZsU (n+1) s=Zq9 (ZsU n) s:=fun _ _=>rfl
def Zo9 (w_:(List Int)) (v_:(List Int)):Option (List Int):=
 chk (mkOk (w_.length:Int) (w_.length:Int) 4) <|
 (Zqm big w_ v_ (0:Int) (w_.length:Int) (0:Int) (List.replicate ((w_.length:Int)).toNat (0:Int))).bind fun x0=>ZrO x0
def ZrQ (a:ZnC) (b:ZnC):Option ZnC:=
 bif (a.Neg == b.Neg)then (
  (Zpu a.Words b.Words).bind fun q=>
  (ZnU a.Neg q).bind fun q_1=>
  some q_1
 )else (
  (Zn2 a.Words b.Words).bind fun q_2=>
  bif (decide (q_2≥0))then (
   (Zo9 a.Words b.Words).bind fun q_3=>
   (ZnU a.Neg q_3).bind fun q_4=>
   some q_4
  )else (
   (Zo9 b.Words a.Words).bind fun q_5=>
   (ZnU b.Neg q_5).bind fun q_6=>
   some q_6
  )
 )
def Zta (t13:Bool) (a:ZnA) (b:ZnA):Option Int:=
 bif t13 then (
  some (0:Int)
 )else (
  (ZnK a.Num b.Den).bind fun q=>
  (ZnK b.Num a.Den).bind fun q_1=>
  (Zps q_1).bind fun q_2=>
  (ZrQ q q_2).bind fun d=>
  bif d.Neg then (
   some (-1:Int)
  )else (
   bif (decide ((d.Words.length:Int) > 0))then (
    some (1:Int)
   )else (
    some (0:Int)
   )
  )
 )
def Ztp (a:ZnA) (b:ZnA):Option Int:=
 (Zov a).bind fun q=>
 bif (!q)then (
  Zta true a b
 )else (
  (Zov b).bind fun q_1=>
  Zta (!q_1) a b
 )
def ZtQ (a:ZnA):Option Int:=
 (Zs7).bind fun q=>
 (Ztp a q).bind fun q_1=>
 some q_1
def Zuj:Option (List (Int×Zog)):=
 some (setB (k:=(.int .i64)) (v:=(.st 4)) (car:=Zvf) (setB (k:=(.int .i64)) (v:=(.st 4)) (car:=Zvf) (setB (k:=(.int .i64)) (v:=(.st 4)) (car:=Zvf) (setB (k:=(.int .i64)) (v:=(.st 4)) (car:=Zvf) (setB (k:=(.int .i64)) (v:=(.st 4)) (car:=Zvf) ([]:(List (Int×Zog))) 1 (Zog.mk ([116,101,120,116]:Str) (none:Option Nat) (some 237:Option Nat))) 2 (Zog.mk ([98,111,111,108]:Str) (some 238:Option Nat) (some 239:Option Nat))) 3 (Zog.mk ([105,110,116,101,103,101,114]:Str) (some 240:Option Nat) (some 241:Option Nat))) 4 (Zog.mk ([100,101,99,105,109,97,108]:Str) (some 242:Option Nat) (some 241:Option Nat))) 5 (Zog.mk ([100,97,116,101]:Str) (some 243:Option Nat) (some 244:Option Nat)))
def ZuQ (s cs:Str):Option Str:=
 chk (cs.all fun b=>decide (b.toNat < 128)) <| chk (decide (cs.length < 4294967281)) <| some (Lib.trimS s cs)
def ZvI (s:Str):Option Str:=
 (ZuQ s ([32]:Str)).bind fun q=>
 some q
def Zpq (t4:Bool):Option Bool:=
 some t4
def ZoI (s:Str) (prefix_:Str):Option Bool:=
 bif (decide ((s.length:Int)≥(prefix_.length:Int)))then (
  chk (Zb9 0 (prefix_.length:Int) (s.length:Int)) <|
  Zpq ((s.take ((prefix_.length:Int)).toNat) == prefix_)
 )else (
  Zpq false
 )
def ZpS (s:Str) (prefix_:Str):Option (Str×Bool):=
 (ZoI s prefix_).bind fun q=>
 bif (!q)then (
  some (s,false)
 )else (
  chk (Zb9 (prefix_.length:Int) (s.length:Int) (s.length:Int)) <|
  some ((s.drop ((prefix_.length:Int)).toNat),true)
 )
def Zts (s:Str) (prefix_:Str):Option (Str×Bool):=
 (ZpS s prefix_).bind fun(after,found)=>
 some (after,found)
def ZpH (s:Str) (prefix_:Str):Option Str:=
 (ZoI s prefix_).bind fun q=>
 bif q then (
  chk (Zb9 (prefix_.length:Int) (s.length:Int) (s.length:Int)) <|
  some (s.drop ((prefix_.length:Int)).toNat)
 )else (
  some s
 )
def Ztg (s:Str) (prefix_:Str):Option Str:=
 (ZpH s prefix_).bind fun q=>
 some q
def ZpR (s:Str) (c:Int):Option Int:=
 some (Lib.indexByte s c.toNat.toUInt8)
def Zp8 (s:Str) (substr:Str) (n:Int) (t16:Bool):Option Int:=
 bif t16 then (
  some (0:Int)
 )else (
  bif (n == 1)then (
   (idx substr 0).bind fun c=>
   (ZpR s ((c.toNat:Nat):Int)).bind fun q=>
   some q
  )else (
   bif (decide (n≥(s.length:Int)))then (
    some (-1:Int)
   )else (
    none
   )
  )
 )
def ZqQ (s:Str) (substr:Str):Option Int:=
 bif ((substr.length:Int) == 0)then (
  Zp8 s substr (substr.length:Int) true
 )else (
  Zp8 s substr (substr.length:Int) (substr == s)
 )
def Zrl (s:Str) (sep:Str):Option (Str×Str×Bool):=
 (ZqQ s sep).bind fun i=>
 bif (decide (i≥0))then (
  chk (Zb9 0 i (s.length:Int)) <|
  chk (inK .i64 (i+(sep.length:Int))) <|
  chk (Zb9 (i+(sep.length:Int)) (s.length:Int) (s.length:Int)) <|
  some ((s.take (i).toNat),(s.drop ((i+(sep.length:Int))).toNat),true)
 )else (
  some (s,([]:Str),false)
 )
def Zup (s:Str) (sep:Str):Option (Str×Str×Bool):=
 (Zrl s sep).bind fun(before,after,found)=>
 some (before,after,found)
def ZrV (t4:Bool):Option Bool:=
 some t4
def Zs8 (s:Str) (most:Int):Option Bool:=
 bif (decide ((s.length:Int)≥1))then (
  bif (decide ((s.length:Int)≤most))then (
   (ZuQ s ([48,49,50,51,52,53,54,55,56,57]:Str)).bind fun q=>
   ZrV (q == ([]:Str))
  )else (
   ZrV false
  )
 )else (
  ZrV false
 )
def Zry (neg:Bool) (num:(List Int)) (den:(List Int)) (t2:Bool) (t2_1:Bool) (t2_2:(List Int)) (t2_3:(List Int)):Option (ZnA×Bool):=
 (ZnU neg num).bind fun q=>
 (ZnU false den).bind fun q_1=>
 (ZoC q q_1).bind fun q_2=>
 some (q_2,true)
def Zu5 (rec_:Bool→(List Int)→(List Int)→(List Int)→Int→Int→Bool→Bool→(List Int)→(List Int)→Option (Bool×(List Int)×(List Int)×Bool×Bool×(List Int)×(List Int))) (neg:Bool) (num:(List Int)) (ten:(List Int)) (den:(List Int)) (t63:Int) (t64:Int) (t2:Bool) (t2_1:Bool) (t2_2:(List Int)) (t2_3:(List Int)):Option (Bool×(List Int)×(List Int)×Bool×Bool×(List Int)×(List Int)):=
 bif (decide (t64 < t63))then (
  (Zoz den ten).bind fun den_1=>
  chk (inK .i64 (t64+1)) <|
  rec_ neg num ten den_1 t63 (t64+1) t2 t2_1 t2_2 t2_3
 )else (
  some (neg,num,den,t2,t2_1,t2_2,t2_3)
 )
def Zs1:Nat→Bool→(List Int)→(List Int)→(List Int)→Int→Int→Bool→Bool→(List Int)→(List Int)→Option (Bool×(List Int)×(List Int)×Bool×Bool×(List Int)×(List Int))
 |0,_,_,_,_,_,_,_,_,_,_=>none
 |n_+1,neg,num,ten,den,t63,t64,t2,t2_1,t2_2,t2_3=>Zu5 (Zs1 n_) neg num ten den t63 t64 t2 t2_1 t2_2 t2_3
def Zt4 (neg:Bool) (back:Str) (num:(List Int)) (ten:(List Int)) (t2:Bool) (t2_1:Bool) (den:(List Int)) (t2_2:(List Int)) (t2_3:(List Int)):Option (ZnA×Bool):=
 (Zs1 big neg num ten den (back.length:Int) (0:Int) t2 t2_1 t2_2 t2_3).bind fun(x0,x1,x2,x3,x4,x5,x6)=>Zry x0 x1 x2 x3 x4 x5 x6
def Zu6 (rec_:Bool→Str→(List Int)→(List Int)→Int→Int→Bool→Bool→(List Int)→(List Int)→(List Int)→(List Int)→Option (Bool×Str×(List Int)×(List Int)×Bool×Bool×(List Int)×(List Int)×(List Int))) (neg:Bool) (back:Str) (num:(List Int)) (ten:(List Int)) (t48:Int) (t49:Int) (t2:Bool) (t2_1:Bool) (den:(List Int)) (t47:(List Int)) (t2_2:(List Int)) (t2_3:(List Int)):Option (Bool×Str×(List Int)×(List Int)×Bool×Bool×(List Int)×(List Int)×(List Int)):=
 bif (decide (t49 < t48))then (
  chk (inR t49 (t47.length:Int)) <|
  (t47[(t49).toNat]?).bind fun d=>
  (Zoz num ten).bind fun q=>
  (ZpP (IntKind.wrap .u64 (IntKind.wrap .u8 (d - 48)))).bind fun q_1=>
  (Zpu q q_1).bind fun num_1=>
  chk (inK .i64 (t49+1)) <|
  rec_ neg back num_1 ten t48 (t49+1) t2 t2_1 den t47 t2_2 t2_3
 )else (
  some (neg,back,num,ten,t2,t2_1,den,t2_2,t2_3)
 )
def Zs2:Nat→Bool→Str→(List Int)→(List Int)→Int→Int→Bool→Bool→(List Int)→(List Int)→(List Int)→(List Int)→Option (Bool×Str×(List Int)×(List Int)×Bool×Bool×(List Int)×(List Int)×(List Int))
 |0,_,_,_,_,_,_,_,_,_,_,_,_=>none
 |n_+1,neg,back,num,ten,t48,t49,t2,t2_1,den,t47,t2_2,t2_3=>Zu6 (Zs2 n_) neg back num ten t48 t49 t2 t2_1 den t47 t2_2 t2_3
def Zrz (neg:Bool) (front:Str) (back:Str) (t39:Bool) (t2:Bool) (t2_1:Bool) (t2_2:(List Int)) (t2_3:(List Int)):Option (ZnA×Bool):=
 bif t39 then (
  some ((ZnA.mk (ZnC.mk false ([]:(List Int))) (ZnC.mk false ([]:(List Int)))),false)
 )else (
  (ZnZ ([1]:List Int)).bind fun den=>
  chk (decide (front.length+back.length≤Zq)) <|
  chk (decide ((front++back).length≤281474976710656)) <|
  (Zs2 big neg back ([]:(List Int)) ([10]:(List Int)) (((front++back).map fun b=>((b.toNat:Nat):Int)).length:Int) (0:Int) t2 t2_1 den ((front++back).map fun b=>((b.toNat:Nat):Int)) t2_2 t2_3).bind fun(x0,x1,x2,x3,x4,x5,x6,x7,x8)=>Zt4 x0 x1 x2 x3 x4 x5 x6 x7 x8
 )
def Zs3 (body:Str) (neg:Bool) (t2:Bool) (t2_1:Bool) (t2_2:(List Int)) (t2_3:(List Int)):Option (ZnA×Bool):=
 (Zup body ([46]:Str)).bind fun(front,back,point)=>
 (Zs8 front 15).bind fun q=>
 bif (!q)then (
  Zrz neg front back true t2 t2_1 t2_2 t2_3
 )else (
  bif point then (
   (Zs8 back 9).bind fun q_1=>
   Zrz neg front back (!q_1) t2 t2_1 t2_2 t2_3
  )else (
   Zrz neg front back false t2 t2_1 t2_2 t2_3
  )
 )
def Zqz (text:Str):Option (ZnA×Bool):=
 (Zts text ([45]:Str)).bind fun(body,neg)=>
 bif (!neg)then (
  (Ztg text ([43]:Str)).bind fun body_1=>
  Zs3 body_1 neg false false ([]:(List Int)) ([]:(List Int))
 )else (
  Zs3 body neg false false ([]:(List Int)) ([]:(List Int))
 )
def ZtB (s cs:Str):Option Str:=
 chk (cs.all fun b=>decide (b.toNat < 128)) <| chk (decide (cs.length < 4294967281)) <| some (Lib.trimLeftS s cs)
def Zux (s cs:Str):Option Str:=
 chk (cs.all fun b=>decide (b.toNat < 128)) <| chk (decide (cs.length < 4294967281)) <| some (Lib.trimRightS s cs)
def ZuL (zero:Str):Option Str:=
 some zero
def ZvA (rec_:Str→(List Str)→Int→Int→Option (Out Str Str)) (zero:Str) (t6:(List Str)) (t7:Int) (t8:Int):Option (Out Str Str):=
 bif (decide (t8 < t7))then (
  (idx t6 t8).bind fun val=>
  bif (!(val == zero))then (
   some (.ret val)
  )else (
   chk (inK .i64 (t8+1)) <|
   rec_ zero t6 t7 (t8+1)
  )
 )else (
  some (.brk zero)
 )
def ZtI:Nat→Str→(List Str)→Int→Int→Option (Out Str Str)
 |0,_,_,_,_=>none
 |n_+1,zero,t6,t7,t8=>ZvA (ZtI n_) zero t6 t7 t8
def ZuD (vals:(List Str)):Option Str:=
 (ZtI big ([]:Str) vals (vals.length:Int) (0:Int)).bind fun
  | .ret q_=>some q_
  | .brk x0=>ZuL x0
def Zty (out:Str):Option (Str×Bool):=
 some (out,true)
def Ztz (out:Str) (t43:Bool):Option (Str×Bool):=
 bif t43 then (
  chk (decide (([45]:Str).length+out.length≤Zq)) <|
  Zty (([45]:Str)++out)
 )else (
  Zty out
 )
def ZtA (t:Str) (out:Str):Option (Str×Bool):=
 (idx t 0).bind fun c=>
 bif (((c.toNat:Nat):Int) == 45)then (
  Ztz out (!(out == ([48]:Str)))
 )else (
  Ztz out false
 )
def ZsJ (t:Str):Option (Str×Bool):=
 (Zqz t).bind fun(q,ok)=>
 bif (!ok)then (
  some (([]:Str),false)
 )else (
  (ZtB t ([43,45]:Str)).bind fun q_1=>
  (Zup q_1 ([46]:Str)).bind fun(front,back,q_2)=>
  (ZtB front ([48]:Str)).bind fun front_1=>
  (Zux back ([48]:Str)).bind fun back_1=>
  (ZuD ([front_1,([48]:Str)]:(List Str))).bind fun out=>
  bif (!(back_1 == ([]:Str)))then (
   chk (decide (([46]:Str).length+back_1.length≤Zq)) <|
   chk (decide (out.length+(([46]:Str)++back_1).length≤Zq)) <|
   ZtA t (out++(([46]:Str)++back_1))
  )else (
   ZtA t out
  )
 )
def ZrZ (n:Int) (s:Str):Option (Str×Bool):=
 (Zuj).bind fun q=>
 bif (!(Zg3 (k:=(.int .i64)) (v:=(.st 4)) (car:=Zvf) q n).isSome)then (
  some (([]:Str),false)
 )else (
  bif (Option.isNone (((Zg3 (k:=(.int .i64)) (v:=(.st 4)) (car:=Zvf) q n).getD (Zog.mk ([]:Str) (none:Option Nat) (none:Option Nat))).canonical))then (
   some (s,true)
  )else (
   (ZvI s).bind fun q_1=>
   chk (decide (((Zg3 (k:=(.int .i64)) (v:=(.st 4)) (car:=Zvf) q n).getD (Zog.mk ([]:Str) (none:Option Nat) (none:Option Nat))).canonical=some 242)) <|
   (ZsJ q_1).bind fun(q_2,q_3)=>
   some (q_2,q_3)
  )
 )
def Zuk (n:Int) (s:Str):Option (ZnA×Bool):=
 (ZrZ n s).bind fun(t,ok)=>
 bif (!ok)then (
  some ((ZnA.mk (ZnC.mk false ([]:(List Int))) (ZnC.mk false ([]:(List Int)))),false)
 )else (
  (Zuj).bind fun q=>
  chk (decide (((Zg3 (k:=(.int .i64)) (v:=(.st 4)) (car:=Zvf) q n).getD (Zog.mk ([]:Str) (none:Option Nat) (none:Option Nat))).value=some 241)) <|
  (Zqz t).bind fun(q_1,q_2)=>
  some (q_1,q_2)
 )
def ZpG (c:ZnG):Option (ZnA×Bool):=
 bif c.Null then (
  (Zs7).bind fun q=>
  some (q,false)
 )else (
  (Zuk 4 c.Text).bind fun(q_1,q_2)=>
  some (q_1,q_2)
 )
def ZsP (full:Int) (n:Int) (t2:Bool) (t2_1:Bool) (t2_2:(List Int)) (t2_3:(List Int)):Option ZnA:=
 (ZtV n (if (1:Int) > full then (1:Int)else full)).bind fun q=>
 some q
def Zqs (rec_:Int→Int→(List ZnG)→Int→Int→Bool→Bool→(List Int)→(List Int)→Option (Int×Int×Bool×Bool×(List Int)×(List Int))) (full:Int) (n:Int) (t10:(List ZnG)) (t11:Int) (t12:Int) (t2:Bool) (t2_1:Bool) (t2_2:(List Int)) (t2_3:(List Int)):Option (Int×Int×Bool×Bool×(List Int)×(List Int)):=
 chk (inK .i64 (t12+1)) <|
 rec_ full n t10 t11 (t12+1) t2 t2_1 t2_2 t2_3
def ZqP (rec_:Int→Int→(List ZnG)→Int→Int→Bool→Bool→(List Int)→(List Int)→Option (Int×Int×Bool×Bool×(List Int)×(List Int))) (full:Int) (n:Int) (t10:(List ZnG)) (t11:Int) (t12:Int) (t2:Bool) (t2_1:Bool) (t2_2:(List Int)) (t2_3:(List Int)):Option (Int×Int×Bool×Bool×(List Int)×(List Int)):=
 bif (decide (t12 < t11))then (
  (idx t10 t12).bind fun x_=>
  bif x_.Null then (
   Zqs rec_ full n t10 t11 t12 t2 t2_1 t2_2 t2_3
  )else (
   chk (inK .i64 (full+1)) <|
   (ZpG x_).bind fun(q,ok)=>
   bif ok then (
    chk (inK .i64 (n+1)) <|
    Zqs rec_ (full+1) (n+1) t10 t11 t12 t2 t2_1 t2_2 t2_3
   )else (
    Zqs rec_ (full+1) n t10 t11 t12 t2 t2_1 t2_2 t2_3
   )
  )
 )else (
  some (full,n,t2,t2_1,t2_2,t2_3)
 )
def Zqr:Nat→Int→Int→(List ZnG)→Int→Int→Bool→Bool→(List Int)→(List Int)→Option (Int×Int×Bool×Bool×(List Int)×(List Int))
 |0,_,_,_,_,_,_,_,_,_=>none
 |n_+1,full,n,t10,t11,t12,t2,t2_1,t2_2,t2_3=>ZqP (Zqr n_) full n t10 t11 t12 t2 t2_1 t2_2 t2_3
def ZtC (n:Nat) (s:(Int×Int×(List ZnG)×Int×Int×Bool×Bool×(List Int)×(List Int))):Option (Int×Int×Bool×Bool×(List Int)×(List Int)):=Zqr n s.1 s.2.1 s.2.2.1 s.2.2.2.1 s.2.2.2.2.1 s.2.2.2.2.2.1 s.2.2.2.2.2.2.1 s.2.2.2.2.2.2.2.1 s.2.2.2.2.2.2.2.2
def Zsh (rec_:(Int×Int×(List ZnG)×Int×Int×Bool×Bool×(List Int)×(List Int))→Option (Int×Int×Bool×Bool×(List Int)×(List Int))) (s:(Int×Int×(List ZnG)×Int×Int×Bool×Bool×(List Int)×(List Int))):Option (Int×Int×Bool×Bool×(List Int)×(List Int)):=ZqP (fun full n t10 t11 t12 t2 t2_1 t2_2 t2_3=>rec_ (full,n,t10,t11,t12,t2,t2_1,t2_2,t2_3)) s.1 s.2.1 s.2.2.1 s.2.2.2.1 s.2.2.2.2.1 s.2.2.2.2.2.1 s.2.2.2.2.2.2.1 s.2.2.2.2.2.2.2.1 s.2.2.2.2.2.2.2.2
theorem ZuV:∀n s,ZtC (n+1) s=Zsh (ZtC n) s:=fun _ _=>rfl
def ZtD (c:ZnJ):Option ZnA:=
 (Zqr big (0:Int) (0:Int) c.Cells (c.Cells.length:Int) (0:Int) false false ([]:(List Int)) ([]:(List Int))).bind fun(x0,x1,x2,x3,x4,x5)=>ZsP x0 x1 x2 x3 x4 x5
def Zo4 (c:ZnJ):Option ZnA:=Zwv (ZtD c)
def ZtG (a:ZnA) (b:ZnA):Option (ZnC×ZnC):=
 (ZnK a.Num b.Den).bind fun q=>
 (ZnK b.Num a.Den).bind fun q_1=>
 (ZrQ q q_1).bind fun num=>
 (ZnK a.Den b.Den).bind fun den=>
 some (num,den)
def Zo5 (t18:Bool) (a:ZnA) (b:ZnA) (t6:Bool) (t6_1:Bool) (t6_2:(List Int)) (t6_3:(List Int)):Option (ZnA×Int):=
 bif t18 then (
  some ((ZnA.mk (ZnC.mk false ([]:(List Int))) (ZnC.mk false ([]:(List Int)))),1)
 )else (
  (ZtG a b).bind fun(num,den)=>
  bif ((den.Words.length:Int) == 0)then (
   some ((ZnA.mk (ZnC.mk false ([]:(List Int))) (ZnC.mk false ([]:(List Int)))),8)
  )else (
   (ZoC num den).bind fun f=>
   bif (decide ((if (f.Den.Words.length:Int) > (f.Num.Words.length:Int)then (f.Den.Words.length:Int)else (f.Num.Words.length:Int)) > 256))then (
    some ((ZnA.mk (ZnC.mk false ([]:(List Int))) (ZnC.mk false ([]:(List Int)))),3)
   )else (
    some (f,0)
   )
  )
 )
def Zon (a:ZnA) (b:ZnA):Option (ZnA×Int):=
 (Zov a).bind fun q=>
 bif (!q)then (
  Zo5 true a b false false ([]:(List Int)) ([]:(List Int))
 )else (
  (Zov b).bind fun q_1=>
  Zo5 (!q_1) a b false false ([]:(List Int)) ([]:(List Int))
 )
def Ztn (a:ZnA) (b:ZnA):Option (ZnA×Int):=
 (Zov b).bind fun q=>
 bif (!q)then (
  some ((ZnA.mk (ZnC.mk false ([]:(List Int))) (ZnC.mk false ([]:(List Int)))),1)
 )else (
  (Zps b.Num).bind fun q_1=>
  (Zon a (ZnA.mk q_1 b.Den)).bind fun(q_2,q_3)=>
  some (q_2,q_3)
 )
def ZsQ (f:ZnA) (a1:Int):Option ZnA:=
 some f
def Zuy (a:ZnA) (b:ZnA):Option ZnA:=
 (Ztn a b).bind fun(q,q_1)=>
 (ZsQ q q_1).bind fun q_2=>
 some q_2
def Zsv (a:ZnA) (b:ZnA):Option (ZnA×Int):=
 (Zon a b).bind fun(q,q_1)=>
 some (q,q_1)
def Zuz (a:ZnA) (b:ZnA):Option ZnA:=
 (Zsv a b).bind fun(q,q_1)=>
 (ZsQ q q_1).bind fun q_2=>
 some q_2
def ZtH (a:ZnA) (b:ZnA):Option (ZnC×ZnC):=
 (ZnK a.Num b.Den).bind fun num=>
 (ZnK a.Den b.Num).bind fun den=>
 some (num,den)
def ZoJ (t18:Bool) (a:ZnA) (b:ZnA) (t6:Bool) (t6_1:Bool) (t6_2:(List Int)) (t6_3:(List Int)):Option (ZnA×Int):=
 bif t18 then (
  some ((ZnA.mk (ZnC.mk false ([]:(List Int))) (ZnC.mk false ([]:(List Int)))),1)
 )else (
  (ZtH a b).bind fun(num,den)=>
  bif ((den.Words.length:Int) == 0)then (
   some ((ZnA.mk (ZnC.mk false ([]:(List Int))) (ZnC.mk false ([]:(List Int)))),8)
  )else (
   (ZoC num den).bind fun f=>
   bif (decide ((if (f.Den.Words.length:Int) > (f.Num.Words.length:Int)then (f.Den.Words.length:Int)else (f.Num.Words.length:Int)) > 256))then (
    some ((ZnA.mk (ZnC.mk false ([]:(List Int))) (ZnC.mk false ([]:(List Int)))),3)
   )else (
    some (f,0)
   )
  )
 )
def Zpp (a:ZnA) (b:ZnA):Option (ZnA×Int):=
 (Zov a).bind fun q=>
 bif (!q)then (
  ZoJ true a b false false ([]:(List Int)) ([]:(List Int))
 )else (
  (Zov b).bind fun q_1=>
  ZoJ (!q_1) a b false false ([]:(List Int)) ([]:(List Int))
 )
def Zto (a:ZnA) (b:ZnA):Option (ZnA×Int):=
 (Zpp a b).bind fun(q,q_1)=>
 some (q,q_1)
def Zvo (a:ZnA) (b:ZnA):Option ZnA:=
 (Zto a b).bind fun(q,q_1)=>
 (ZsQ q q_1).bind fun q_2=>
 some q_2
def Zru (t4:Bool) (t4_1:Bool) (values:ZnA) (Zky:ZnA) (apart:ZnA) (t4_2:(List Int)) (t4_3:(List Int)):Option ZnA:=
 (Zuz values values).bind fun q=>
 (Zuz q Zky).bind fun q_1=>
 (ZtV 1 1).bind fun q_2=>
 (Zuy q_2 apart).bind fun q_3=>
 (Zuz q_1 q_3).bind fun sum=>
 (ZtV 4 1).bind fun q_4=>
 (Zvo sum q_4).bind fun q_5=>
 some q_5
def Zqv (t24:Bool) (a:ZnJ) (b:ZnJ) (t4:Bool) (t4_1:Bool) (values:ZnA) (Zky:ZnA) (t4_2:(List Int)) (t4_3:(List Int)):Option ZnA:=
 bif t24 then (
  (Zs7).bind fun q=>
  some q
 )else (
  (Zo4 a).bind fun q_1=>
  (Zo4 b).bind fun q_2=>
  (Zuy q_1 q_2).bind fun apart=>
  (ZtQ apart).bind fun q_3=>
  bif (decide (q_3 < 0))then (
   (Zs7).bind fun q_4=>
   (Zuy q_4 apart).bind fun apart_1=>
   Zru t4 t4_1 values Zky apart_1 t4_2 t4_3
  )else (
   Zru t4 t4_1 values Zky apart t4_2 t4_3
  )
 )
def Zr5 (a:ZnJ) (b:ZnJ):Option ZnA:=
 (Zq4 a b).bind fun values=>
 (Zqw a.Name b.Name).bind fun Zky=>
 (ZtQ values).bind fun q=>
 bif (q == 0)then (
  (ZtQ Zky).bind fun q_1=>
  Zqv (q_1 == 0) a b false false values Zky ([]:(List Int)) ([]:(List Int))
 )else (
  Zqv false a b false false values Zky ([]:(List Int)) ([]:(List Int))
 )
def Ztc (w_:(List Int)):Option (List Int):=
 some w_
def Zrj (rec_:(List Int)→Option (List Int)) (w_:(List Int)) (t14:Bool):Option (List Int):=
 bif t14 then (
  chk (inK .i64 ((w_.length:Int) - 1)) <|
  chk (Zb9 0 ((w_.length:Int) - 1) (w_.length:Int)) <|
  rec_ (w_.take (((w_.length:Int) - 1)).toNat)
 )else (
  some w_
 )
def ZsA (rec_:(List Int)→Option (List Int)) (w_:(List Int)):Option (List Int):=
 bif (decide ((w_.length:Int) > 0))then (
  chk (inK .i64 ((w_.length:Int) - 1)) <|
  (idx w_ ((w_.length:Int) - 1)).bind fun w__e=>
  Zrj rec_ w_ (w__e == 0)
 )else (
  Zrj rec_ w_ false
 )
def Zn4:Nat→(List Int)→Option (List Int)
 |0,_=>none
 |n_+1,w_=>ZsA (Zn4 n_) w_
def ZnR (w_:(List Int)):Option (List Int):=
 (Zn4 big w_).bind fun x0=>Ztc x0
def Zqj (t4:ZnC):Option ZnC:=
 some t4
def Zoe (neg:Bool) (w_:(List Int)):Option ZnC:=
 (ZnR w_).bind fun w__1=>
 bif neg then (
  Zqj (ZnC.mk (decide ((w__1.length:Int) > 0)) w__1)
 )else (
  Zqj (ZnC.mk false w__1)
 )
def Zpm (n:Int) (u:Int) (t2:Bool) (t2_1:(List Int)):Option ZnC:=
 chk (decide (0≤(32:Int))) <|
 (Zoe (decide (n < 0)) ([(IntKind.wrap .u32 u),(IntKind.wrap .u32 (shrK .u64 u 32))]:(List Int))).bind fun q=>
 some q
def Zn5 (n:Int):Option ZnC:=
 bif (decide (n < 0))then (
  Zpm n (IntKind.wrap .u64 (0 - (IntKind.wrap .u64 n))) false ([]:(List Int))
 )else (
  Zpm n (IntKind.wrap .u64 n) false ([]:(List Int))
 )
def ZnT (t2:Bool):Option Bool:=
 some t2
def ZoO (a:ZnC):Option Bool:=
 bif (decide ((a.Words.length:Int)≤256))then (
  bif ((a.Words.length:Int) == 0)then (
   bif (!a.Neg)then (
    ZnT true
   )else (
    bif (decide ((a.Words.length:Int) > 0))then (
     chk (inK .i64 ((a.Words.length:Int) - 1)) <|
     (idx a.Words ((a.Words.length:Int) - 1)).bind fun Word=>
     ZnT (Word != 0)
    )else (
     ZnT false
    )
   )
  )else (
   bif (decide ((a.Words.length:Int) > 0))then (
    chk (inK .i64 ((a.Words.length:Int) - 1)) <|
    (idx a.Words ((a.Words.length:Int) - 1)).bind fun Word_1=>
    ZnT (Word_1 != 0)
   )else (
    ZnT false
   )
  )
 )else (
  ZnT false
 )
def Zrk (out:(List Int)):Option (List Int):=
 (ZnR out).bind fun q=>
 some q
def Zo0 (rec_:(List Int)→Int→Int→(List Int)→Option (List Int)) (a:(List Int)) (t9:Int) (i:Int) (out:(List Int)):Option (List Int):=
 chk (inK .i64 (i+1)) <|
 rec_ a t9 (i+1) out
def Zpx (rec_:(List Int)→Int→Int→(List Int)→Option (List Int)) (a:(List Int)) (t9:Int) (i:Int) (out:(List Int)):Option (List Int):=
 bif (decide (i < t9))then (
  chk (inR i (out.length:Int)) <|
  (out[(i).toNat]?).bind fun out_e=>
  chk (decide (0≤(1:Int))) <|
  chk (inR i (out.length:Int)) <|
  chk (inK .i64 (i+1)) <|
  bif (decide ((i+1) < (a.length:Int)))then (
   chk (inR i ((out.set ((i).toNat) (shrK .u32 out_e 1)).length:Int)) <|
   ((out.set ((i).toNat) (shrK .u32 out_e 1))[(i).toNat]?).bind fun e_e=>
   chk (inK .i64 (i+1)) <|
   (idx a (i+1)).bind fun a_e=>
   chk (decide (0≤(31:Int))) <|
   chk (inR i ((out.set ((i).toNat) (shrK .u32 out_e 1)).length:Int)) <|
   Zo0 rec_ a t9 i ((out.set ((i).toNat) (shrK .u32 out_e 1)).set ((i).toNat) (orK .u32 e_e (shlK .u32 a_e 31)))
  )else (
   Zo0 rec_ a t9 i (out.set ((i).toNat) (shrK .u32 out_e 1))
  )
 )else (
  some out
 )
def ZoZ:Nat→(List Int)→Int→Int→(List Int)→Option (List Int)
 |0,_,_,_,_=>none
 |n_+1,a,t9,i,out=>Zpx (ZoZ n_) a t9 i out
def ZsB (n:Nat) (s:((List Int)×Int×Int×(List Int))):Option (List Int):=ZoZ n s.1 s.2.1 s.2.2.1 s.2.2.2
def ZqO (rec_:((List Int)×Int×Int×(List Int))→Option (List Int)) (s:((List Int)×Int×Int×(List Int))):Option (List Int):=Zpx (fun a t9 i out=>rec_ (a,t9,i,out)) s.1 s.2.1 s.2.2.1 s.2.2.2
theorem Zt8:∀n s,ZsB (n+1) s=ZqO (ZsB n) s:=fun _ _=>rfl
def Zn7 (a:(List Int)):Option (List Int):=
 chk (ZiZ (([]:(List Int)).length+a.length) 4) <|
 (ZoZ big a ((([]:(List Int))++a).length:Int) (0:Int) (([]:(List Int))++a)).bind fun x0=>Zrk x0
def ZrK:Option Int:=
 some (0:Int)
def ZpE (rec_:(List Int)→(List Int)→Int→Option (Out Unit Int)) (a:(List Int)) (b:(List Int)) (i:Int):Option (Out Unit Int):=
 bif (decide (i≥0))then (
  (idx a i).bind fun a_e=>
  (idx b i).bind fun b_e=>
  bif (decide (a_e < b_e))then (
   some (.ret (-1:Int))
  )else (
   (idx a i).bind fun a_e_1=>
   (idx b i).bind fun b_e_1=>
   bif (decide (a_e_1 > b_e_1))then (
    some (.ret (1:Int))
   )else (
    chk (inK .i64 (i - 1)) <|
    rec_ a b (i - 1)
   )
  )
 )else (
  some (.brk ())
 )
def Zqi:Nat→(List Int)→(List Int)→Int→Option (Out Unit Int)
 |0,_,_,_=>none
 |n_+1,a,b,i=>ZpE (Zqi n_) a b i
def ZsO (n:Nat) (s:((List Int)×(List Int)×Int)):Option (Out Unit Int):=Zqi n s.1 s.2.1 s.2.2
def Zq2 (rec_:((List Int)×(List Int)×Int)→Option (Out Unit Int)) (s:((List Int)×(List Int)×Int)):Option (Out Unit Int):=ZpE (fun a b i=>rec_ (a,b,i)) s.1 s.2.1 s.2.2
theorem Zuo:∀n s,ZsO (n+1) s=Zq2 (ZsO n) s:=fun _ _=>rfl
def Zo8 (a:(List Int)) (b:(List Int)):Option Int:=
 bif ((a.length:Int) != (b.length:Int))then (
  bif (decide ((a.length:Int) < (b.length:Int)))then (
   some (-1:Int)
  )else (
   some (1:Int)
  )
 )else (
  chk (inK .i64 ((a.length:Int) - 1)) <|
  (Zqi big a b ((a.length:Int) - 1)).bind fun
   | .ret q_=>some q_
   | .brk ()=>ZrK
 )
def ZrD (out:(List Int)):Option (List Int):=
 (ZnR out).bind fun q=>
 some q
def Zpd (rec_:(List Int)→(List Int)→Int→Int→(List Int)→Option (List Int)) (a:(List Int)) (b:(List Int)) (c:Int) (i:Int) (out:(List Int)):Option (List Int):=
 chk (ZiZ (out.length+([(IntKind.wrap .u32 c)]:(List Int)).length) 4) <|
 chk (decide (0≤(32:Int))) <|
 chk (inK .i64 (i+1)) <|
 rec_ a b (shrK .i64 c 32) (i+1) (out++([(IntKind.wrap .u32 c)]:(List Int)))
def ZpC (rec_:(List Int)→(List Int)→Int→Int→(List Int)→Option (List Int)) (a:(List Int)) (b:(List Int)) (c:Int) (i:Int) (out:(List Int)):Option (List Int):=
 bif (decide (i < (a.length:Int)))then (
  (idx a i).bind fun a_e=>
  chk (inK .i64 (c+(IntKind.wrap .i64 a_e))) <|
  bif (decide (i < (b.length:Int)))then (
   (idx b i).bind fun b_e=>
   chk (inK .i64 ((c+(IntKind.wrap .i64 a_e)) - (IntKind.wrap .i64 b_e))) <|
   Zpd rec_ a b ((c+(IntKind.wrap .i64 a_e)) - (IntKind.wrap .i64 b_e)) i out
  )else (
   Zpd rec_ a b (c+(IntKind.wrap .i64 a_e)) i out
  )
 )else (
  some out
 )
def Zpc:Nat→(List Int)→(List Int)→Int→Int→(List Int)→Option (List Int)
 |0,_,_,_,_,_=>none
 |n_+1,a,b,c,i,out=>ZpC (Zpc n_) a b c i out
def ZsM (n:Nat) (s:((List Int)×(List Int)×Int×Int×(List Int))):Option (List Int):=Zpc n s.1 s.2.1 s.2.2.1 s.2.2.2.1 s.2.2.2.2
def ZqY (rec_:((List Int)×(List Int)×Int×Int×(List Int))→Option (List Int)) (s:((List Int)×(List Int)×Int×Int×(List Int))):Option (List Int):=ZpC (fun a b c i out=>rec_ (a,b,c,i,out)) s.1 s.2.1 s.2.2.1 s.2.2.2.1 s.2.2.2.2
theorem Zum:∀n s,ZsM (n+1) s=ZqY (ZsM n) s:=fun _ _=>rfl
def Zo6 (a:(List Int)) (b:(List Int)):Option (List Int):=
 (Zpc big a b (0:Int) (0:Int) ([]:(List Int))).bind fun x0=>ZrD x0
def ZqX (d:Int) (out:(List Int)):Option (List Int):=
 chk (ZiZ (out.length+([d]:(List Int)).length) 4) <|
 (ZnR (out++([d]:(List Int)))).bind fun q=>
 some q
def Zpl (rec_:(List Int)→Int→Int→(List Int)→Option (Int×(List Int))) (a:(List Int)) (d:Int) (i:Int) (out:(List Int)):Option (Int×(List Int)):=
 bif (decide (i < (a.length:Int)))then (
  (idx a i).bind fun a_e=>
  chk (decide (0≤(1:Int))) <|
  chk (ZiZ (out.length+([(orK .u32 (shlK .u32 a_e 1) d)]:(List Int)).length) 4) <|
  (idx a i).bind fun a_e_1=>
  chk (decide (0≤(31:Int))) <|
  chk (inK .i64 (i+1)) <|
  rec_ a (shrK .u32 a_e_1 31) (i+1) (out++([(orK .u32 (shlK .u32 a_e 1) d)]:(List Int)))
 )else (
  some (d,out)
 )
def ZpB:Nat→(List Int)→Int→Int→(List Int)→Option (Int×(List Int))
 |0,_,_,_,_=>none
 |n_+1,a,d,i,out=>Zpl (ZpB n_) a d i out
def Zsr (n:Nat) (s:((List Int)×Int×Int×(List Int))):Option (Int×(List Int)):=ZpB n s.1 s.2.1 s.2.2.1 s.2.2.2
def ZqF (rec_:((List Int)×Int×Int×(List Int))→Option (Int×(List Int))) (s:((List Int)×Int×Int×(List Int))):Option (Int×(List Int)):=Zpl (fun a d i out=>rec_ (a,d,i,out)) s.1 s.2.1 s.2.2.1 s.2.2.2
theorem ZtX:∀n s,Zsr (n+1) s=ZqF (Zsr n) s:=fun _ _=>rfl
def ZoG (a:(List Int)) (d:Int):Option (List Int):=
 (ZpB big a d (0:Int) ([]:(List Int))).bind fun(x0,x1)=>ZqX x0 x1
def ZrE (a:(List Int)):Option (List Int):=
 some a
def ZoL (rec_:(List Int)→Int→Option (List Int)) (a:(List Int)) (k:Int):Option (List Int):=
 bif (decide (k > 0))then (
  (ZoG a 0).bind fun a_1=>
  chk (inK .i64 (k - 1)) <|
  rec_ a_1 (k - 1)
 )else (
  some a
 )
def Zox:Nat→(List Int)→Int→Option (List Int)
 |0,_,_=>none
 |n_+1,a,k=>ZoL (Zox n_) a k
def ZrF (a:(List Int)) (k:Int):Option (List Int):=
 (Zox big a k).bind fun x0=>ZrE x0
def Zqg (rec_:(List Int)→(List Int)→Int→Option ((List Int)×Int)) (a:(List Int)) (b:(List Int)) (k:Int):Option ((List Int)×Int):=
 (Zo6 b a).bind fun b_1=>
 rec_ a b_1 k
def ZrG (rec_:(List Int)→(List Int)→Int→Option ((List Int)×Int)) (a:(List Int)) (b:(List Int)) (k:Int):Option ((List Int)×Int):=
 (Zo8 a b).bind fun q=>
 bif (decide (q > 0))then (
  Zqg rec_ b a k
 )else (
  Zqg rec_ a b k
 )
def ZqZ (rec_:(List Int)→(List Int)→Int→Option ((List Int)×(List Int)×Int)) (a:(List Int)) (b:(List Int)) (k:Int):Option ((List Int)×(List Int)×Int):=
 (idx b 0).bind fun b_e=>
 bif ((andK .u32 b_e 1) == 0)then (
  (Zn7 b).bind fun b_1=>
  rec_ a b_1 k
 )else (
  some (a,b,k)
 )
def ZnX:Nat→(List Int)→(List Int)→Int→Option ((List Int)×(List Int)×Int)
 |0,_,_,_=>none
 |n_+1,a,b,k=>ZqZ (ZnX n_) a b k
def ZrH (rec_:(List Int)→(List Int)→Int→Option ((List Int)×Int)) (a:(List Int)) (b:(List Int)) (k:Int):Option ((List Int)×Int):=
 (ZnX big a b k).bind fun(x0,x1,x2)=>ZrG rec_ x0 x1 x2
def ZoM (rec_:(List Int)→(List Int)→Int→Option ((List Int)×(List Int)×Int)) (a:(List Int)) (b:(List Int)) (k:Int):Option ((List Int)×(List Int)×Int):=
 (idx a 0).bind fun a_e=>
 bif ((andK .u32 a_e 1) == 0)then (
  (Zn7 a).bind fun a_1=>
  rec_ a_1 b k
 )else (
  some (a,b,k)
 )
def ZnY:Nat→(List Int)→(List Int)→Int→Option ((List Int)×(List Int)×Int)
 |0,_,_,_=>none
 |n_+1,a,b,k=>ZoM (ZnY n_) a b k
def ZoN (rec_:(List Int)→(List Int)→Int→Option ((List Int)×Int)) (a:(List Int)) (b:(List Int)) (k:Int):Option ((List Int)×Int):=
 bif (decide ((b.length:Int) > 0))then (
  (ZnY big a b k).bind fun(x0,x1,x2)=>ZrH rec_ x0 x1 x2
 )else (
  some (a,k)
 )
def ZnL:Nat→(List Int)→(List Int)→Int→Option ((List Int)×Int)
 |0,_,_,_=>none
 |n_+1,a,b,k=>ZoN (ZnL n_) a b k
def ZrI (a:(List Int)) (b:(List Int)) (k:Int):Option (List Int):=
 (ZnL big a b k).bind fun(x0,x1)=>ZrF x0 x1
def Zqh (rec_:(List Int)→(List Int)→Int→Option ((List Int)×(List Int)×Int)) (a:(List Int)) (b:(List Int)) (k:Int) (t17:Bool):Option ((List Int)×(List Int)×Int):=
 bif t17 then (
  (Zn7 a).bind fun a_1=>
  (Zn7 b).bind fun b_1=>
  chk (inK .i64 (k+1)) <|
  rec_ a_1 b_1 (k+1)
 )else (
  some (a,b,k)
 )
def Zq0 (rec_:(List Int)→(List Int)→Int→Option ((List Int)×(List Int)×Int)) (a:(List Int)) (b:(List Int)) (k:Int):Option ((List Int)×(List Int)×Int):=
 (idx a 0).bind fun a_e=>
 bif ((andK .u32 a_e 1) == 0)then (
  (idx b 0).bind fun b_e=>
  Zqh rec_ a b k ((andK .u32 b_e 1) == 0)
 )else (
  Zqh rec_ a b k false
 )
def Zoy:Nat→(List Int)→(List Int)→Int→Option ((List Int)×(List Int)×Int)
 |0,_,_,_=>none
 |n_+1,a,b,k=>Zq0 (Zoy n_) a b k
def Zp0 (a:(List Int)) (b:(List Int)):Option (List Int):=
 (Zoy big a b (0:Int)).bind fun(x0,x1,x2)=>ZrI x0 x1 x2
def Zp1 (a:(List Int)) (i:Int):Option Int:=
 chk (decide ((32:Int)≠0)) <|
 chk (inK .i64 (Int.tdiv i 32)) <|
 (idx a (Int.tdiv i 32)).bind fun a_e=>
 chk (decide ((32:Int)≠0)) <|
 chk (decide (0≤(IntKind.wrap .u64 (Int.tmod i 32)))) <|
 some (andK .u32 (shrK .u32 a_e (IntKind.wrap .u64 (Int.tmod i 32))) 1)
def ZrJ (r_:(List Int)) (q:(List Int)):Option ((List Int)×(List Int)):=
 (ZnR q).bind fun q_1=>
 some (q_1,r_)
def Zpg (rec_:(List Int)→(List Int)→(List Int)→Int→(List Int)→Option ((List Int)×(List Int))) (a:(List Int)) (b:(List Int)) (r_:(List Int)) (i:Int) (q:(List Int)):Option ((List Int)×(List Int)):=
 chk (inK .i64 (i - 1)) <|
 rec_ a b r_ (i - 1) q
def ZpD (rec_:(List Int)→(List Int)→(List Int)→Int→(List Int)→Option ((List Int)×(List Int))) (a:(List Int)) (b:(List Int)) (r_:(List Int)) (i:Int) (q:(List Int)):Option ((List Int)×(List Int)):=
 bif (decide (i≥0))then (
  (Zp1 a i).bind fun q_1=>
  (ZoG r_ q_1).bind fun r__1=>
  (Zo8 r__1 b).bind fun q_2=>
  bif (decide (q_2≥0))then (
   (Zo6 r__1 b).bind fun r__2=>
   chk (decide ((32:Int)≠0)) <|
   chk (inK .i64 (Int.tdiv i 32)) <|
   chk (inR (Int.tdiv i 32) (q.length:Int)) <|
   (q[((Int.tdiv i 32)).toNat]?).bind fun q_e=>
   chk (decide ((32:Int)≠0)) <|
   chk (decide (0≤(IntKind.wrap .u64 (Int.tmod i 32)))) <|
   chk (inR (Int.tdiv i 32) (q.length:Int)) <|
   Zpg rec_ a b r__2 i (q.set (((Int.tdiv i 32)).toNat) (orK .u32 q_e (shlK .u32 1 (IntKind.wrap .u64 (Int.tmod i 32)))))
  )else (
   Zpg rec_ a b r__1 i q
  )
 )else (
  some (r_,q)
 )
def Zpf:Nat→(List Int)→(List Int)→(List Int)→Int→(List Int)→Option ((List Int)×(List Int))
 |0,_,_,_,_,_=>none
 |n_+1,a,b,r_,i,q=>ZpD (Zpf n_) a b r_ i q
def ZsN (n:Nat) (s:((List Int)×(List Int)×(List Int)×Int×(List Int))):Option ((List Int)×(List Int)):=Zpf n s.1 s.2.1 s.2.2.1 s.2.2.2.1 s.2.2.2.2
def Zq1 (rec_:((List Int)×(List Int)×(List Int)×Int×(List Int))→Option ((List Int)×(List Int))) (s:((List Int)×(List Int)×(List Int)×Int×(List Int))):Option ((List Int)×(List Int)):=ZpD (fun a b r_ i q=>rec_ (a,b,r_,i,q)) s.1 s.2.1 s.2.2.1 s.2.2.2.1 s.2.2.2.2
theorem Zun:∀n s,ZsN (n+1) s=Zq1 (ZsN n) s:=fun _ _=>rfl
def Zo7 (a:(List Int)) (b:(List Int)):Option ((List Int)×(List Int)):=
 chk (mkOk (a.length:Int) (a.length:Int) 4) <|
 chk (inK .i64 (32*(a.length:Int))) <|
 chk (inK .i64 ((32*(a.length:Int)) - 1)) <|
 (Zpf big a b ([]:(List Int)) ((32*(a.length:Int)) - 1) (List.replicate ((a.length:Int)).toNat (0:Int))).bind fun(x0,x1)=>ZrJ x0 x1
def Zpe (num:ZnC) (den:ZnC):Option ZnA:=
 bif ((num.Words.length:Int) == 0)then (
  (Zn5 1).bind fun q=>
  some (ZnA.mk (ZnC.mk false ([]:(List Int))) q)
 )else (
  (Zp0 num.Words den.Words).bind fun g=>
  (Zo7 num.Words g).bind fun(x_,q_1)=>
  (Zo7 den.Words g).bind fun(y,q_2)=>
  (Zoe (!(num.Neg == den.Neg)) x_).bind fun q_3=>
  (Zoe false y).bind fun q_4=>
  some (ZnA.mk q_3 q_4)
 )
def ZpU (t13:Bool) (num:ZnC) (den:ZnC) (t4:Bool) (t4_1:Bool) (t4_2:(List Int)) (t4_3:(List Int)):Option (ZnA×Int):=
 bif t13 then (
  some ((ZnA.mk (ZnC.mk false ([]:(List Int))) (ZnC.mk false ([]:(List Int)))),1)
 )else (
  bif ((den.Words.length:Int) == 0)then (
   some ((ZnA.mk (ZnC.mk false ([]:(List Int))) (ZnC.mk false ([]:(List Int)))),8)
  )else (
   (Zpe num den).bind fun q=>
   some (q,0)
  )
 )
def ZpF (num:ZnC) (den:ZnC):Option (ZnA×Int):=
 (ZoO num).bind fun q=>
 bif (!q)then (
  ZpU true num den false false ([]:(List Int)) ([]:(List Int))
 )else (
  (ZoO den).bind fun q_1=>
  ZpU (!q_1) num den false false ([]:(List Int)) ([]:(List Int))
 )
def Zqn (num:Int) (den:Int):Option (ZnA×Int):=
 (Zn5 num).bind fun q=>
 (Zn5 den).bind fun q_1=>
 (ZpF q q_1).bind fun(q_2,q_3)=>
 some (q_2,q_3)
def Zsg (n:Int) (d:Int):Option ZnA:=
 (Zqn n d).bind fun(f,q)=>
 some f
def Zoa (n:Int) (d:Int):Option ZnA:=Zwv (Zsg n d)
def Zsx (n:Int):Option ZnA:=
 (Zoa n 1).bind fun q=>
 some q
def ZoF (n:Int):Option ZnA:=Zwv (Zsx n)
def ZqE:Option Bool:=
 some true
def ZoV (rec_:(List Int)→Int→Int→ZnC→Option (Out Unit Bool)) (t22:(List Int)) (t23:Int) (i:Int) (b:ZnC):Option (Out Unit Bool):=
 bif (decide (i < t23))then (
  (idx t22 i).bind fun w_=>
  (idx b.Words i).bind fun Word=>
  bif (Word != w_)then (
   some (.ret false)
  )else (
   chk (inK .i64 (i+1)) <|
   rec_ t22 t23 (i+1) b
  )
 )else (
  some (.brk ())
 )
def Zpj:Nat→(List Int)→Int→Int→ZnC→Option (Out Unit Bool)
 |0,_,_,_,_=>none
 |n_+1,t22,t23,i,b=>ZoV (Zpj n_) t22 t23 i b
def Zr3 (n:Nat) (s:((List Int)×Int×Int×ZnC)):Option (Out Unit Bool):=Zpj n s.1 s.2.1 s.2.2.1 s.2.2.2
def Zp6 (rec_:((List Int)×Int×Int×ZnC)→Option (Out Unit Bool)) (s:((List Int)×Int×Int×ZnC)):Option (Out Unit Bool):=ZoV (fun t22 t23 i b=>rec_ (t22,t23,i,b)) s.1 s.2.1 s.2.2.1 s.2.2.2
theorem ZtM:∀n s,Zr3 (n+1) s=Zp6 (Zr3 n) s:=fun _ _=>rfl
def Zpk (t20:Bool) (a:ZnC) (b:ZnC):Option Bool:=
 bif t20 then (
  some false
 )else (
  (Zpj big a.Words (a.Words.length:Int) (0:Int) b).bind fun
   | .ret q_=>some q_
   | .brk ()=>ZqE
 )
def Zoq (a:ZnC) (b:ZnC):Option Bool:=
 bif (!(a.Neg == b.Neg))then (
  Zpk true a b
 )else (
  Zpk ((a.Words.length:Int) != (b.Words.length:Int)) a b
 )
def ZpT (t4:Bool):Option Bool:=
 some t4
def Zos (a:ZnA) (b:ZnA):Option Bool:=
 (Zoq a.Num b.Num).bind fun q=>
 bif q then (
  (Zoq a.Den b.Den).bind fun q_1=>
  ZpT q_1
 )else (
  ZpT false
 )
def ZoP (t0:Bool):Option Bool:=
 some t0
def ZoH:Option Bool:=
 (Zoo ([85,110,105,116,32,80,114,105,99,101,95,50]:Str)).bind fun q=>
 (Zoc q ([([50]:Str),([112,114,105,99,101]:Str),([117,110,105,116]:Str)]:(List Str))).bind fun q_1=>
 bif q_1 then (
  (Zr5 (ZnJ.mk ([85,110,105,116,32,80,114,105,99,101,95,50]:Str) ([(ZnG.mk false ([49]:Str)),(ZnG.mk false ([120]:Str))]:(List ZnG))) (ZnJ.mk ([85,110,105,116,32,80,114,105,99,101,95,50]:Str) ([(ZnG.mk false ([49]:Str)),(ZnG.mk false ([120]:Str))]:(List ZnG)))).bind fun q_2=>
  (ZoF 1).bind fun q_3=>
  (Zos q_2 q_3).bind fun q_4=>
  bif q_4 then (
   (Zo4 (ZnJ.mk ([85,110,105,116,32,80,114,105,99,101,95,50]:Str) ([(ZnG.mk false ([49]:Str)),(ZnG.mk false ([120]:Str))]:(List ZnG)))).bind fun q_5=>
   (Zoa 1 2).bind fun q_6=>
   (Zos q_5 q_6).bind fun q_7=>
   ZoP q_7
  )else (
   ZoP false
  )
 )else (
  ZoP false
 )
def Zrt (t:(List Int)):Option ZnD:=
 some (ZnD.mk t 0)
def ZqJ (n:Int) (m:Int):Option Int:=
 bif (decide (m < 1))then (
  some (0:Int)
 )else (
  chk (decide (m≠0)) <|
  chk (inK .i64 ((Int.tmod n m)+m)) <|
  chk (decide (m≠0)) <|
  some (Int.tmod ((Int.tmod n m)+m) m)
 )
def Zor (d:ZnD) (n:Int):Option (Int×ZnD):=
 bif (decide (d.at_≥(d.l.length:Int)))then (
  some (0,d)
 )else (
  chk (inK .i64 (d.at_+1)) <|
  chk (inK .i64 ((d.at_+1) - 1)) <|
  (idx d.l ((d.at_+1) - 1)).bind fun l_e=>
  (ZqJ l_e n).bind fun q=>
  some (q,(ZnD.mk d.l (d.at_+1)))
 )
def Zo1 (d:ZnD) (l:(List Str)):Option (Str×ZnD):=
 (Zor d (l.length:Int)).bind fun(q,t6)=>
 (idx l q).bind fun l_e=>
 some (l_e,t6)
def Zob (c:Int) (t13:Bool):Option Int:=
 bif t13 then (
  some c
 )else (
  some (0:Int)
 )
def ZqM (c:Int) (t3:Bool):Option Int:=
 bif t3 then (
  some (IntKind.wrap .u8 ((IntKind.wrap .u8 (c+97)) - 65))
 )else (
  bif (decide (c≥97))then (
   bif (decide (c≤122))then (
    Zob c true
   )else (
    bif (decide (c≥48))then (
     Zob c (decide (c≤57))
    )else (
     Zob c false
    )
   )
  )else (
   bif (decide (c≥48))then (
    Zob c (decide (c≤57))
   )else (
    Zob c false
   )
  )
 )
def Zpb (c:Int):Option Int:=
 bif (decide (c≥65))then (
  ZqM c (decide (c≤90))
 )else (
  ZqM c false
 )
def Zqe (l:(List Str)) (s:Str) (i:Int) (t31:Bool):Option (List Str):=
 bif t31 then (
  some l
 )else (
  chk (Zb9 0 i (l.length:Int)) <|
  chk (ZiZ (l.take (i).toNat).length 16) <|
  chk (ZiZ ((l.take (i).toNat).length+([s]:(List Str)).length) 16) <|
  chk (Zb9 i (l.length:Int) (l.length:Int)) <|
  chk (ZiZ (((l.take (i).toNat)++([s]:(List Str))).length+(l.drop (i).toNat).length) 16) <|
  some (((l.take (i).toNat)++([s]:(List Str)))++(l.drop (i).toNat))
 )
def ZrC (l:(List Str)) (s:Str) (i:Int):Option (List Str):=
 bif (decide (i < (l.length:Int)))then (
  (idx l i).bind fun l_e=>
  Zqe l s i (l_e == s)
 )else (
  Zqe l s i false
 )
def Zqf (rec_:(List Str)→Str→Int→Option ((List Str)×Str×Int)) (l:(List Str)) (s:Str) (i:Int) (t17:Bool):Option ((List Str)×Str×Int):=
 bif t17 then (
  chk (inK .i64 (i+1)) <|
  rec_ l s (i+1)
 )else (
  some (l,s,i)
 )
def ZqV (rec_:(List Str)→Str→Int→Option ((List Str)×Str×Int)) (l:(List Str)) (s:Str) (i:Int):Option ((List Str)×Str×Int):=
 bif (decide (i < (l.length:Int)))then (
  (idx l i).bind fun l_e=>
  Zqf rec_ l s i (Op.bytesLess l_e s)
 )else (
  Zqf rec_ l s i false
 )
def Zpa:Nat→(List Str)→Str→Int→Option ((List Str)×Str×Int)
 |0,_,_,_=>none
 |n_+1,l,s,i=>ZqV (Zpa n_) l s i
def ZsK (n:Nat) (s:((List Str)×Str×Int)):Option ((List Str)×Str×Int):=Zpa n s.1 s.2.1 s.2.2
def ZsL (rec_:((List Str)×Str×Int)→Option ((List Str)×Str×Int)) (s:((List Str)×Str×Int)):Option ((List Str)×Str×Int):=ZqV (fun l s i=>rec_ (l,s,i)) s.1 s.2.1 s.2.2
theorem Zul:∀n s,ZsK (n+1) s=ZsL (ZsK n) s:=fun _ _=>rfl
def ZpZ (l:(List Str)) (s:Str):Option (List Str):=
 (Zpa big l s (0:Int)).bind fun(x0,x1,x2)=>ZrC x0 x1 x2
def ZqW (out:(List Str)):Option (List Str):=
 some out
def Zpy (rec_:Str→(List Str)→Str→Int→Option (List Str)) (name:Str) (out:(List Str)) (word:Str) (i:Int):Option (List Str):=
 chk (inK .i64 (i+1)) <|
 rec_ name out word (i+1)
def Zpz (rec_:Str→(List Str)→Str→Int→Option (List Str)) (name:Str) (out:(List Str)) (i:Int):Option (List Str):=
 Zpy rec_ name out ([]:Str) i
def ZoK (rec_:Str→(List Str)→Str→Int→Option (List Str)) (name:Str) (out:(List Str)) (word:Str) (i:Int) (c:Int):Option (List Str):=
 bif (c != 0)then (
  chk (decide (word.length+(([c]:(List Int)).map fun n=>UInt8.ofNat (Int.toNat n)).length≤Zq)) <|
  Zpy rec_ name out (word++(([c]:(List Int)).map fun n=>UInt8.ofNat (Int.toNat n))) i
 )else (
  bif (!(word == ([]:Str)))then (
   (ZpZ out word).bind fun out_1=>
   Zpz rec_ name out_1 i
  )else (
   Zpz rec_ name out i
  )
 )
def ZqB (rec_:Str→(List Str)→Str→Int→Option (List Str)) (name:Str) (out:(List Str)) (word:Str) (i:Int):Option (List Str):=
 bif (decide (i≤(name.length:Int)))then (
  bif (decide (i < (name.length:Int)))then (
   (idx name i).bind fun c=>
   (Zpb ((c.toNat:Nat):Int)).bind fun c_1=>
   ZoK rec_ name out word i c_1
  )else (
   ZoK rec_ name out word i (0:Int)
  )
 )else (
  some out
 )
def ZnN:Nat→Str→(List Str)→Str→Int→Option (List Str)
 |0,_,_,_,_=>none
 |n_+1,name,out,word,i=>ZqB (ZnN n_) name out word i
def Zsp (n:Nat) (s:(Str×(List Str)×Str×Int)):Option (List Str):=ZnN n s.1 s.2.1 s.2.2.1 s.2.2.2
def Zsq (rec_:(Str×(List Str)×Str×Int)→Option (List Str)) (s:(Str×(List Str)×Str×Int)):Option (List Str):=ZqB (fun name out word i=>rec_ (name,out,word,i)) s.1 s.2.1 s.2.2.1 s.2.2.2
theorem ZtW:∀n s,Zsp (n+1) s=Zsq (Zsp n) s:=fun _ _=>rfl
def Zok (name:Str):Option (List Str):=
 (ZnN big name ([]:(List Str)) ([]:Str) (0:Int)).bind fun x0=>ZqW x0
def ZqN:Option ZnA:=
 (ZoF 0).bind fun q=>
 some q
def ZqC (a:(List Str)) (b:(List Str)) (n:Int) (t4:Bool) (t4_1:Bool) (t4_2:(List Int)) (t4_3:(List Int)):Option ZnA:=
 chk (inK .i64 ((a.length:Int)+(b.length:Int))) <|
 bif (((a.length:Int)+(b.length:Int)) == 0)then (
  (ZqN).bind fun q=>
  some q
 )else (
  chk (inK .i64 ((a.length:Int)+(b.length:Int))) <|
  chk (inK .i64 (((a.length:Int)+(b.length:Int)) - n)) <|
  (Zoa n (((a.length:Int)+(b.length:Int)) - n)).bind fun q_1=>
  some q_1
 )
def ZqD (rec_:(List Str)→(List Str)→Int→(List Str)→Int→Int→Bool→Bool→(List Int)→(List Int)→Option ((List Str)×(List Str)×Int×Bool×Bool×(List Int)×(List Int))) (a:(List Str)) (b:(List Str)) (n:Int) (t10:(List Str)) (t11:Int) (t12:Int) (t4:Bool) (t4_1:Bool) (t4_2:(List Int)) (t4_3:(List Int)):Option ((List Str)×(List Str)×Int×Bool×Bool×(List Int)×(List Int)):=
 chk (inK .i64 (t12+1)) <|
 rec_ a b n t10 t11 (t12+1) t4 t4_1 t4_2 t4_3
def Zpi (rec_:(List Str)→(List Str)→Int→Str→(List Str)→Int→Int→(List Str)→Int→Int→Bool→Bool→(List Int)→(List Int)→Option ((List Str)×(List Str)×Int×(List Str)×Int×Int×Bool×Bool×(List Int)×(List Int))) (a:(List Str)) (b:(List Str)) (n:Int) (x_:Str) (t10:(List Str)) (t11:Int) (t12:Int) (t16:(List Str)) (t17:Int) (t18:Int) (t4:Bool) (t4_1:Bool) (t4_2:(List Int)) (t4_3:(List Int)):Option ((List Str)×(List Str)×Int×(List Str)×Int×Int×Bool×Bool×(List Int)×(List Int)):=
 chk (inK .i64 (t18+1)) <|
 rec_ a b n x_ t10 t11 t12 t16 t17 (t18+1) t4 t4_1 t4_2 t4_3
def ZoT (rec_:(List Str)→(List Str)→Int→Str→(List Str)→Int→Int→(List Str)→Int→Int→Bool→Bool→(List Int)→(List Int)→Option ((List Str)×(List Str)×Int×(List Str)×Int×Int×Bool×Bool×(List Int)×(List Int))) (a:(List Str)) (b:(List Str)) (n:Int) (x_:Str) (t10:(List Str)) (t11:Int) (t12:Int) (t16:(List Str)) (t17:Int) (t18:Int) (t4:Bool) (t4_1:Bool) (t4_2:(List Int)) (t4_3:(List Int)):Option ((List Str)×(List Str)×Int×(List Str)×Int×Int×Bool×Bool×(List Int)×(List Int)):=
 bif (decide (t18 < t17))then (
  (idx t16 t18).bind fun y=>
  bif (x_ == y)then (
   chk (inK .i64 (n+1)) <|
   Zpi rec_ a b (n+1) x_ t10 t11 t12 t16 t17 t18 t4 t4_1 t4_2 t4_3
  )else (
   Zpi rec_ a b n x_ t10 t11 t12 t16 t17 t18 t4 t4_1 t4_2 t4_3
  )
 )else (
  some (a,b,n,t10,t11,t12,t4,t4_1,t4_2,t4_3)
 )
def Zot:Nat→(List Str)→(List Str)→Int→Str→(List Str)→Int→Int→(List Str)→Int→Int→Bool→Bool→(List Int)→(List Int)→Option ((List Str)×(List Str)×Int×(List Str)×Int×Int×Bool×Bool×(List Int)×(List Int))
 |0,_,_,_,_,_,_,_,_,_,_,_,_,_,_=>none
 |n_+1,a,b,n,x_,t10,t11,t12,t16,t17,t18,t4,t4_1,t4_2,t4_3=>ZoT (Zot n_) a b n x_ t10 t11 t12 t16 t17 t18 t4 t4_1 t4_2 t4_3
def Zr1 (n:Nat) (s:((List Str)×(List Str)×Int×Str×(List Str)×Int×Int×(List Str)×Int×Int×Bool×Bool×(List Int)×(List Int))):Option ((List Str)×(List Str)×Int×(List Str)×Int×Int×Bool×Bool×(List Int)×(List Int)):=Zot n s.1 s.2.1 s.2.2.1 s.2.2.2.1 s.2.2.2.2.1 s.2.2.2.2.2.1 s.2.2.2.2.2.2.1 s.2.2.2.2.2.2.2.1 s.2.2.2.2.2.2.2.2.1 s.2.2.2.2.2.2.2.2.2.1 s.2.2.2.2.2.2.2.2.2.2.1 s.2.2.2.2.2.2.2.2.2.2.2.1 s.2.2.2.2.2.2.2.2.2.2.2.2.1 s.2.2.2.2.2.2.2.2.2.2.2.2.2
def Zp4 (rec_:((List Str)×(List Str)×Int×Str×(List Str)×Int×Int×(List Str)×Int×Int×Bool×Bool×(List Int)×(List Int))→Option ((List Str)×(List Str)×Int×(List Str)×Int×Int×Bool×Bool×(List Int)×(List Int))) (s:((List Str)×(List Str)×Int×Str×(List Str)×Int×Int×(List Str)×Int×Int×Bool×Bool×(List Int)×(List Int))):Option ((List Str)×(List Str)×Int×(List Str)×Int×Int×Bool×Bool×(List Int)×(List Int)):=ZoT (fun a b n x_ t10 t11 t12 t16 t17 t18 t4 t4_1 t4_2 t4_3=>rec_ (a,b,n,x_,t10,t11,t12,t16,t17,t18,t4,t4_1,t4_2,t4_3)) s.1 s.2.1 s.2.2.1 s.2.2.2.1 s.2.2.2.2.1 s.2.2.2.2.2.1 s.2.2.2.2.2.2.1 s.2.2.2.2.2.2.2.1 s.2.2.2.2.2.2.2.2.1 s.2.2.2.2.2.2.2.2.2.1 s.2.2.2.2.2.2.2.2.2.2.1 s.2.2.2.2.2.2.2.2.2.2.2.1 s.2.2.2.2.2.2.2.2.2.2.2.2.1 s.2.2.2.2.2.2.2.2.2.2.2.2.2
theorem ZtK:∀n s,Zr1 (n+1) s=Zp4 (Zr1 n) s:=fun _ _=>rfl
def ZoU (rec_:(List Str)→(List Str)→Int→(List Str)→Int→Int→Bool→Bool→(List Int)→(List Int)→Option ((List Str)×(List Str)×Int×Bool×Bool×(List Int)×(List Int))) (a:(List Str)) (b:(List Str)) (n:Int) (t10:(List Str)) (t11:Int) (t12:Int) (t4:Bool) (t4_1:Bool) (t4_2:(List Int)) (t4_3:(List Int)):Option ((List Str)×(List Str)×Int×Bool×Bool×(List Int)×(List Int)):=
 bif (decide (t12 < t11))then (
  (idx t10 t12).bind fun x_=>
  (Zot big a b n x_ t10 t11 t12 b (b.length:Int) (0:Int) t4 t4_1 t4_2 t4_3).bind fun(x0,x1,x2,x3,x4,x5,x6,x7,x8,x9)=>ZqD rec_ x0 x1 x2 x3 x4 x5 x6 x7 x8 x9
 )else (
  some (a,b,n,t4,t4_1,t4_2,t4_3)
 )
def Zou:Nat→(List Str)→(List Str)→Int→(List Str)→Int→Int→Bool→Bool→(List Int)→(List Int)→Option ((List Str)×(List Str)×Int×Bool×Bool×(List Int)×(List Int))
 |0,_,_,_,_,_,_,_,_,_,_=>none
 |n_+1,a,b,n,t10,t11,t12,t4,t4_1,t4_2,t4_3=>ZoU (Zou n_) a b n t10 t11 t12 t4 t4_1 t4_2 t4_3
def Zr2 (n:Nat) (s:((List Str)×(List Str)×Int×(List Str)×Int×Int×Bool×Bool×(List Int)×(List Int))):Option ((List Str)×(List Str)×Int×Bool×Bool×(List Int)×(List Int)):=Zou n s.1 s.2.1 s.2.2.1 s.2.2.2.1 s.2.2.2.2.1 s.2.2.2.2.2.1 s.2.2.2.2.2.2.1 s.2.2.2.2.2.2.2.1 s.2.2.2.2.2.2.2.2.1 s.2.2.2.2.2.2.2.2.2
def Zp5 (rec_:((List Str)×(List Str)×Int×(List Str)×Int×Int×Bool×Bool×(List Int)×(List Int))→Option ((List Str)×(List Str)×Int×Bool×Bool×(List Int)×(List Int))) (s:((List Str)×(List Str)×Int×(List Str)×Int×Int×Bool×Bool×(List Int)×(List Int))):Option ((List Str)×(List Str)×Int×Bool×Bool×(List Int)×(List Int)):=ZoU (fun a b n t10 t11 t12 t4 t4_1 t4_2 t4_3=>rec_ (a,b,n,t10,t11,t12,t4,t4_1,t4_2,t4_3)) s.1 s.2.1 s.2.2.1 s.2.2.2.1 s.2.2.2.2.1 s.2.2.2.2.2.1 s.2.2.2.2.2.2.1 s.2.2.2.2.2.2.2.1 s.2.2.2.2.2.2.2.2.1 s.2.2.2.2.2.2.2.2.2
theorem ZtL:∀n s,Zr2 (n+1) s=Zp5 (Zr2 n) s:=fun _ _=>rfl
def ZoY (a:(List Str)) (b:(List Str)):Option ZnA:=
 (Zou big a b (0:Int) a (a.length:Int) (0:Int) false false ([]:(List Int)) ([]:(List Int))).bind fun(x0,x1,x2,x3,x4,x5,x6)=>ZqC x0 x1 x2 x3 x4 x5 x6
def Zpt (a:Str) (b:Str):Option ZnA:=
 (Zok a).bind fun q=>
 (Zok b).bind fun q_1=>
 (ZoY q q_1).bind fun q_2=>
 some q_2
def Zo3:Option Bool:=
 (ZoH).bind fun q=>
 some q
def Zoj (rec_:Int→Int→(List ZnS)→Option (Out Unit Bool)) (t48:Int) (t49:Int) (t74:Bool) (t47:(List ZnS)):Option (Out Unit Bool):=
 bif t74 then (
  some (.ret false)
 )else (
  chk (inK .i64 (t49+1)) <|
  rec_ t48 (t49+1) t47
 )
def Zn8 (rec_:Int→Int→(List ZnS)→Option (Out Unit Bool)) (t48:Int) (t49:Int) (t47:(List ZnS)):Option (Out Unit Bool):=
 bif (decide (t49 < t48))then (
  chk (inR t49 (t47.length:Int)) <|
  (t47[(t49).toNat]?).bind fun p=>
  chk (inR 0 2) <|
  (Zoo p.e0).bind fun q=>
  chk (inR 0 2) <|
  (Zok p.e0).bind fun q_1=>
  (Zoc q q_1).bind fun q_2=>
  bif (!q_2)then (
   Zoj rec_ t48 t49 true t47
  )else (
   chk (inR 0 2) <|
   chk (inR 1 2) <|
   (Zqw p.e0 p.e1).bind fun q_3=>
   chk (inR 0 2) <|
   chk (inR 1 2) <|
   (Zpt p.e0 p.e1).bind fun q_4=>
   (Zos q_3 q_4).bind fun q_5=>
   Zoj rec_ t48 t49 (!q_5) t47
  )
 )else (
  some (.brk ())
 )
def ZnO:Nat→Int→Int→(List ZnS)→Option (Out Unit Bool)
 |0,_,_,_=>none
 |n_+1,t48,t49,t47=>Zn8 (ZnO n_) t48 t49 t47
def Zqo (n:Nat) (s:(Int×Int×(List ZnS))):Option (Out Unit Bool):=ZnO n s.1 s.2.1 s.2.2
def ZoQ (rec_:(Int×Int×(List ZnS))→Option (Out Unit Bool)) (s:(Int×Int×(List ZnS))):Option (Out Unit Bool):=Zn8 (fun t48 t49 t47=>rec_ (t48,t49,t47)) s.1 s.2.1 s.2.2
theorem ZsF:∀n s,Zqo (n+1) s=ZoQ (Zqo n) s:=fun _ _=>rfl
def Zoi (a:Str) (b:Str) (x_:Str):Option Bool:=
 (ZnO big (([(ZnS.mk a b),(ZnS.mk x_ a),(ZnS.mk x_ ([117,110,105,116,32,112,114,105,99,101]:Str)),(ZnS.mk x_ ([]:Str))]:(List ZnS)).length:Int) (0:Int) ([(ZnS.mk a b),(ZnS.mk x_ a),(ZnS.mk x_ ([117,110,105,116,32,112,114,105,99,101]:Str)),(ZnS.mk x_ ([]:Str))]:(List ZnS))).bind fun
  | .ret q_=>some q_
  | .brk ()=>Zo3
def Zn9 (rec_:Str→Str→Str→Int→Int→ZnD→Option (Str×Str×Str)) (a:Str) (b:Str) (x_:Str) (t28:Int) (t29:Int) (d:ZnD):Option (Str×Str×Str):=
 bif (decide (t29 < t28))then (
  (Zo1 d ([([117,110,105,116]:Str),([85,110,105,116]:Str),([32]:Str),([95]:Str),([112,114,105,99,101]:Str),([50]:Str),([195,169]:Str),([65]:Str)]:(List Str))).bind fun(q,t32)=>
  chk (decide (x_.length+q.length≤Zq)) <|
  chk (inK .i64 (t29+1)) <|
  rec_ a b (x_++q) t28 (t29+1) t32
 )else (
  some (a,b,x_)
 )
def Zoh:Nat→Str→Str→Str→Int→Int→ZnD→Option (Str×Str×Str)
 |0,_,_,_,_,_,_=>none
 |n_+1,a,b,x_,t28,t29,d=>Zn9 (Zoh n_) a b x_ t28 t29 d
def Zqp (n:Nat) (s:(Str×Str×Str×Int×Int×ZnD)):Option (Str×Str×Str):=Zoh n s.1 s.2.1 s.2.2.1 s.2.2.2.1 s.2.2.2.2.1 s.2.2.2.2.2
def ZoR (rec_:(Str×Str×Str×Int×Int×ZnD)→Option (Str×Str×Str)) (s:(Str×Str×Str×Int×Int×ZnD)):Option (Str×Str×Str):=Zn9 (fun a b x_ t28 t29 d=>rec_ (a,b,x_,t28,t29,d)) s.1 s.2.1 s.2.2.1 s.2.2.2.1 s.2.2.2.2.1 s.2.2.2.2.2
theorem ZsG:∀n s,Zqp (n+1) s=ZoR (Zqp n) s:=fun _ _=>rfl
def ZnP (a:Str) (b:Str) (t:(List Int)) (t23:Bool):Option Bool:=
 bif t23 then (
  (ZoH).bind fun q=>
  some q
 )else (
  (Zrt t).bind fun d=>
  (Zor d 6).bind fun(q_1,t27)=>
  (Zoh big a b ([]:Str) q_1 (0:Int) t27).bind fun(x0,x1,x2)=>Zoi x0 x1 x2
 )
def Zow (a:Str) (b:Str) (t:(List Int)):Option Bool:=
 bif (decide ((a.length:Int) > 300))then (
  ZnP a b t true
 )else (
  bif (decide ((b.length:Int) > 300))then (
   ZnP a b t true
  )else (
   (Zre t).bind fun q=>
   ZnP a b t (!q)
  )
 )
end
end Go.Proofs
