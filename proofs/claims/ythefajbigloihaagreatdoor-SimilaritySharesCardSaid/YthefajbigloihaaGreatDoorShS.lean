/- Printed by wip/tools/tgen.py: specs. -/
import Derived.Test.YthefajbigloihaaGreatDoorE4
import Derived.Lib.Bytealg
import Derived.Lib.ItoaNum
import Derived.Lib.SlTrimSet
import Derived.Shelf.Strconv.Itoa3
import Derived.Test.YthefajbigloihaaGreatDoorShWD
set_option linter.unusedVariables false
set_option linter.unusedSimpArgs false
set_option linter.unusedSectionVars false
namespace Go.Proofs
open Go Eng
set_option maxRecDepth 100000
noncomputable section
structure ZnB where
 Null:Bool
 Text:Str
 deriving DecidableEq,Inhabited
structure ZnE where
 Name:Str
 Cells:(List ZnB)
 deriving DecidableEq,Inhabited
structure ZnC where
 Neg:Bool
 Words:(List Int)
 deriving DecidableEq,Inhabited
structure ZnA where
 Num:ZnC
 Den:ZnC
 deriving DecidableEq,Inhabited
structure Zom where
 word:Str
 canonical:(Option Nat)
 value:(Option Nat)
 deriving DecidableEq,Inhabited
structure ZnD where
 l:(List Int)
 at_:Int
 deriving DecidableEq,Inhabited
def Zwu:Nat→Type
 |0=>ZnB
 |1=>ZnE
 |2=>ZnC
 |3=>ZnA
 |4=>Zom
 |5=>ZnD
 |_=>Unit
def ZEt:Nat→Nat
 |0=>2
 |1=>2
 |2=>2
 |3=>4
 |4=>3
 |5=>2
 |_=>0
def Zxd:List (Lf Zwu):=[⟨.sl (.int .u32),([1]:List Int)⟩]
def Zup:List (Lf Zwu):=(Lib.pow10Tab.map fun n=>⟨.int .u64,n⟩)
def ZrA (t:(List Int)):Option Bool:=
 some (decide ((t.length:Int)≤500))
def ZoF (name:Str):Option (List Str):=
 ZxI (chk (decide (name.length≤1099511627776)) <| some (ZuH (Zwq (name++[32]) [])))
def ZsE:Option Bool:=
 some true
def ZoC (rec_:(List Str)→(List Str)→Int→Int→Option (Out Unit Bool)) (b:(List Str)) (t12:(List Str)) (t13:Int) (i:Int):Option (Out Unit Bool):=
 bif (decide (i < t13))then (
  (idx t12 i).bind fun s=>
  (idx b i).bind fun b_e=>
  bif (!(b_e == s))then (
   some (.ret false)
  )else (
   chk (inK .i64 (i+1)) <|
   rec_ b t12 t13 (i+1)
  )
 )else (
  some (.brk ())
 )
def Zon:Nat→(List Str)→(List Str)→Int→Int→Option (Out Unit Bool)
 |0,_,_,_,_=>none
 |n_+1,b,t12,t13,i=>ZoC (Zon n_) b t12 t13 i
def ZrX (n:Nat) (s:((List Str)×(List Str)×Int×Int)):Option (Out Unit Bool):=Zon n s.1 s.2.1 s.2.2.1 s.2.2.2
def Zpy (rec_:((List Str)×(List Str)×Int×Int)→Option (Out Unit Bool)) (s:((List Str)×(List Str)×Int×Int)):Option (Out Unit Bool):=ZoC (fun b t12 t13 i=>rec_ (b,t12,t13,i)) s.1 s.2.1 s.2.2.1 s.2.2.2
theorem Zuq:∀n s,ZrX (n+1) s=Zpy (ZrX n) s:=fun _ _=>rfl
def ZoD (a:(List Str)) (b:(List Str)):Option Bool:=
 bif ((a.length:Int) != (b.length:Int))then (
  some false
 )else (
  (Zon big b a (a.length:Int) (0:Int)).bind fun
   | .ret q_=>some q_
   | .brk ()=>ZsE
 )
def ZqS (c:ZnE):Option (List Str):=
 ZxI (chk (decide (c.Cells.length≤1099511627776)) <| some (ZuH ((c.Cells.filter fun x=> !x.Null).map fun x=>x.Text)))
def Zr6 (x_:Str):Option Bool:=
 some (!(x_ == x_))
def ZqW (t4:Bool):Option Bool:=
 some t4
def ZsP (x_:Str) (y:Str):Option Bool:=
 (Zr6 x_).bind fun q=>
 bif q then (
  (Zr6 y).bind fun q_1=>
  bif (!q_1)then (
   ZqW true
  )else (
   ZqW (Op.bytesLess x_ y)
  )
 )else (
  ZqW (Op.bytesLess x_ y)
 )
def ZqB (x_:Str):Option Bool:=
 some (!(x_ == x_))
def ZnQ (t4:Int) (t5:Bool):Option (Int×Bool):=
 some (t4,t5)
def ZoX (x_:(List Str)) (target:Str) (n:Int) (i:Int):Option (Int×Bool):=
 bif (decide (i < n))then (
  (idx x_ i).bind fun x__e=>
  bif (x__e == target)then (
   ZnQ i true
  )else (
   (idx x_ i).bind fun x__e_1=>
   (ZqB x__e_1).bind fun q=>
   bif q then (
    (ZqB target).bind fun q_1=>
    ZnQ i q_1
   )else (
    ZnQ i false
   )
  )
 )else (
  ZnQ i false
 )
def ZoJ (rec_:(List Str)→Str→Int→Int→Int→Option ((List Str)×Str×Int×Int)) (x_:(List Str)) (target:Str) (n:Int) (i:Int) (j:Int):Option ((List Str)×Str×Int×Int):=
 bif (decide (i < j))then (
  chk (inK .i64 (i+j)) <|
  chk (decide (0≤(1:Int))) <|
  (idx x_ (IntKind.wrap .i64 (shrK .u64 (IntKind.wrap .u64 (i+j)) 1))).bind fun x__e=>
  (ZsP x__e target).bind fun q=>
  bif q then (
   chk (inK .i64 ((IntKind.wrap .i64 (shrK .u64 (IntKind.wrap .u64 (i+j)) 1))+1)) <|
   rec_ x_ target n ((IntKind.wrap .i64 (shrK .u64 (IntKind.wrap .u64 (i+j)) 1))+1) j
  )else (
   rec_ x_ target n i (IntKind.wrap .i64 (shrK .u64 (IntKind.wrap .u64 (i+j)) 1))
  )
 )else (
  some (x_,target,n,i)
 )
def Zoi:Nat→(List Str)→Str→Int→Int→Int→Option ((List Str)×Str×Int×Int)
 |0,_,_,_,_,_=>none
 |n_+1,x_,target,n,i,j=>ZoJ (Zoi n_) x_ target n i j
def Zqn (n:Nat) (s:((List Str)×Str×Int×Int×Int)):Option ((List Str)×Str×Int×Int):=Zoi n s.1 s.2.1 s.2.2.1 s.2.2.2.1 s.2.2.2.2
def Zqo (rec_:((List Str)×Str×Int×Int×Int)→Option ((List Str)×Str×Int×Int)) (s:((List Str)×Str×Int×Int×Int)):Option ((List Str)×Str×Int×Int):=ZoJ (fun x_ target n i j=>rec_ (x_,target,n,i,j)) s.1 s.2.1 s.2.2.1 s.2.2.2.1 s.2.2.2.2
theorem Zth:∀n s,Zqn (n+1) s=Zqo (Zqn n) s:=fun _ _=>rfl
def Zn4 (x_:(List Str)) (target:Str):Option (Int×Bool):=
 (Zoi big x_ target (x_.length:Int) (0:Int) (x_.length:Int)).bind fun(x0,x1,x2,x3)=>ZoX x0 x1 x2 x3
def Zti (n:Int):Option Int:=
 some n
def ZrB (rec_:(List Str)→Int→(List Str)→Int→Int→Option Int) (b:(List Str)) (n:Int) (t10:(List Str)) (t11:Int) (t12:Int):Option Int:=
 chk (inK .i64 (t12+1)) <|
 rec_ b n t10 t11 (t12+1)
def ZqH (rec_:(List Str)→Int→(List Str)→Int→Int→Option Int) (b:(List Str)) (n:Int) (t10:(List Str)) (t11:Int) (t12:Int):Option Int:=
 bif (decide (t12 < t11))then (
  (idx t10 t12).bind fun s=>
  (Zn4 b s).bind fun(q,ok)=>
  bif ok then (
   chk (inK .i64 (n+1)) <|
   ZrB rec_ b (n+1) t10 t11 t12
  )else (
   ZrB rec_ b n t10 t11 t12
  )
 )else (
  some n
 )
def Zqb:Nat→(List Str)→Int→(List Str)→Int→Int→Option Int
 |0,_,_,_,_,_=>none
 |n_+1,b,n,t10,t11,t12=>ZqH (Zqb n_) b n t10 t11 t12
def Zuo (n:Nat) (s:((List Str)×Int×(List Str)×Int×Int)):Option Int:=Zqb n s.1 s.2.1 s.2.2.1 s.2.2.2.1 s.2.2.2.2
def ZsI (rec_:((List Str)×Int×(List Str)×Int×Int)→Option Int) (s:((List Str)×Int×(List Str)×Int×Int)):Option Int:=ZqH (fun b n t10 t11 t12=>rec_ (b,n,t10,t11,t12)) s.1 s.2.1 s.2.2.1 s.2.2.2.1 s.2.2.2.2
theorem Zv2:∀n s,Zuo (n+1) s=ZsI (Zuo n) s:=fun _ _=>rfl
def Zrq (a:(List Str)) (b:(List Str)):Option Int:=
 (Zqb big b (0:Int) a (a.length:Int) (0:Int)).bind fun x0=>Zti x0
def ZtG (w_:(List Int)):Option (List Int):=
 some w_
def Zr1 (rec_:(List Int)→Option (List Int)) (w_:(List Int)) (t14:Bool):Option (List Int):=
 bif t14 then (
  chk (inK .i64 ((w_.length:Int) - 1)) <|
  chk (Zb9 0 ((w_.length:Int) - 1) (w_.length:Int)) <|
  rec_ (w_.take (((w_.length:Int) - 1)).toNat)
 )else (
  some w_
 )
def Zrd (rec_:(List Int)→Option (List Int)) (w_:(List Int)):Option (List Int):=
 bif (decide ((w_.length:Int) > 0))then (
  chk (inK .i64 ((w_.length:Int) - 1)) <|
  (idx w_ ((w_.length:Int) - 1)).bind fun w__e=>
  Zr1 rec_ w_ (w__e == 0)
 )else (
  Zr1 rec_ w_ false
 )
def Zor:Nat→(List Int)→Option (List Int)
 |0,_=>none
 |n_+1,w_=>Zrd (Zor n_) w_
def Zux (n:Nat) (s:(List Int)):Option (List Int):=Zor n s
def Zuy (rec_:(List Int)→Option (List Int)) (s:(List Int)):Option (List Int):=Zrd (fun w_=>rec_ w_) s
theorem Zv6:∀n s,Zux (n+1) s=Zuy (Zux n) s:=fun _ _=>rfl
def ZnS (w_:(List Int)):Option (List Int):=
 (Zor big w_).bind fun x0=>ZtG x0
def ZpU (n:Int):Option (List Int):=
 chk (decide (0≤(32:Int))) <|
 (ZnS ([(IntKind.wrap .u32 n),(IntKind.wrap .u32 (shrK .u64 n 32))]:(List Int))).bind fun q=>
 some q
def Zsy (t4:Bool) (t4_1:(List Int)):Option ZnC:=
 some (ZnC.mk t4 t4_1)
def ZnX (neg:Bool) (w_:(List Int)):Option ZnC:=
 bif neg then (
  chk (ZiZ w_.length 4) <|
  Zsy (decide ((w_.length:Int) > 0)) w_
 )else (
  chk (ZiZ w_.length 4) <|
  Zsy false w_
 )
def ZqL (n:Int):Option ZnC:=
 bif (decide (n < 0))then (
  (ZpU (IntKind.wrap .u64 (0 - (IntKind.wrap .u64 n)))).bind fun q=>
  (ZnX true q).bind fun q_1=>
  some q_1
 )else (
  (ZpU (IntKind.wrap .u64 n)).bind fun q_2=>
  (ZnX false q_2).bind fun q_3=>
  some q_3
 )
def Zol (t2:Bool):Option Bool:=
 some t2
def Zql (a:ZnC):Option Bool:=
 bif (decide ((a.Words.length:Int)≤256))then (
  bif ((a.Words.length:Int) == 0)then (
   bif (!a.Neg)then (
    Zol true
   )else (
    bif (decide ((a.Words.length:Int) > 0))then (
     chk (inK .i64 ((a.Words.length:Int) - 1)) <|
     (idx a.Words ((a.Words.length:Int) - 1)).bind fun Word=>
     Zol (Word != 0)
    )else (
     Zol false
    )
   )
  )else (
   bif (decide ((a.Words.length:Int) > 0))then (
    chk (inK .i64 ((a.Words.length:Int) - 1)) <|
    (idx a.Words ((a.Words.length:Int) - 1)).bind fun Word_1=>
    Zol (Word_1 != 0)
   )else (
    Zol false
   )
  )
 )else (
  Zol false
 )
def ZvU:Option Bool:=
 some true
def ZsA (rec_:(List ZnC)→Int→Int→Option (Out Unit Bool)) (t5:(List ZnC)) (t6:Int) (t7:Int):Option (Out Unit Bool):=
 bif (decide (t7 < t6))then (
  (idx t5 t7).bind fun a=>
  (Zql a).bind fun q=>
  bif (!q)then (
   some (.ret false)
  )else (
   chk (inK .i64 (t7+1)) <|
   rec_ t5 t6 (t7+1)
  )
 )else (
  some (.brk ())
 )
def Ztq:Nat→(List ZnC)→Int→Int→Option (Out Unit Bool)
 |0,_,_,_=>none
 |n_+1,t5,t6,t7=>ZsA (Ztq n_) t5 t6 t7
def Zvf (n:Nat) (s:((List ZnC)×Int×Int)):Option (Out Unit Bool):=Ztq n s.1 s.2.1 s.2.2
def Zt4 (rec_:((List ZnC)×Int×Int)→Option (Out Unit Bool)) (s:((List ZnC)×Int×Int)):Option (Out Unit Bool):=ZsA (fun t5 t6 t7=>rec_ (t5,t6,t7)) s.1 s.2.1 s.2.2
theorem ZwB:∀n s,Zvf (n+1) s=Zt4 (Zvf n) s:=fun _ _=>rfl
def ZsO (l:(List ZnC)):Option Bool:=
 (Ztq big l (l.length:Int) (0:Int)).bind fun
  | .ret q_=>some q_
  | .brk ()=>ZvU
def ZtO (x_:Int):Option Bool:=
 some (x_ != x_)
def ZsQ (x_:Int) (y:Int):Option Int:=
 (ZtO x_).bind fun xNaN=>
 (ZtO y).bind fun yNaN=>
 bif xNaN then (
  bif yNaN then (
   some (0:Int)
  )else (
   some (-1:Int)
  )
 )else (
  bif yNaN then (
   some (1:Int)
  )else (
   bif (decide (x_ < y))then (
    some (-1:Int)
   )else (
    bif (decide (x_ > y))then (
     some (1:Int)
    )else (
     some (0:Int)
    )
   )
  )
 )
def Ztr (x_:Int):Option Bool:=
 some (x_ != x_)
def ZsB (x_:Int) (y:Int):Option Int:=
 (Ztr x_).bind fun xNaN=>
 (Ztr y).bind fun yNaN=>
 bif xNaN then (
  bif yNaN then (
   some (0:Int)
  )else (
   some (-1:Int)
  )
 )else (
  bif yNaN then (
   some (1:Int)
  )else (
   bif (decide (x_ < y))then (
    some (-1:Int)
   )else (
    bif (decide (x_ > y))then (
     some (1:Int)
    )else (
     some (0:Int)
    )
   )
  )
 )
def Zrw:Option Int:=
 some (0:Int)
def Zpj (rec_:(List Int)→(List Int)→Int→Option (Out Unit Int)) (w_:(List Int)) (v_:(List Int)) (i:Int):Option (Out Unit Int):=
 bif (decide (i≥0))then (
  (idx w_ i).bind fun w__e=>
  (idx v_ i).bind fun v__e=>
  (ZsB w__e v__e).bind fun c=>
  bif (c != 0)then (
   some (.ret c)
  )else (
   chk (inK .i64 (i - 1)) <|
   rec_ w_ v_ (i - 1)
  )
 )else (
  some (.brk ())
 )
def ZpS:Nat→(List Int)→(List Int)→Int→Option (Out Unit Int)
 |0,_,_,_=>none
 |n_+1,w_,v_,i=>Zpj (ZpS n_) w_ v_ i
def Zs8 (n:Nat) (s:((List Int)×(List Int)×Int)):Option (Out Unit Int):=ZpS n s.1 s.2.1 s.2.2
def ZqU (rec_:((List Int)×(List Int)×Int)→Option (Out Unit Int)) (s:((List Int)×(List Int)×Int)):Option (Out Unit Int):=Zpj (fun w_ v_ i=>rec_ (w_,v_,i)) s.1 s.2.1 s.2.2
theorem ZuW:∀n s,Zs8 (n+1) s=ZqU (Zs8 n) s:=fun _ _=>rfl
def Zn6 (w_:(List Int)) (v_:(List Int)):Option Int:=
 (ZsQ (w_.length:Int) (v_.length:Int)).bind fun c=>
 bif (c != 0)then (
  some c
 )else (
  chk (inK .i64 ((w_.length:Int) - 1)) <|
  (ZpS big w_ v_ ((w_.length:Int) - 1)).bind fun
   | .ret q_=>some q_
   | .brk ()=>Zrw
 )
def ZnI (s:(List Int)) (t4:Bool):Option (List Int):=
 bif t4 then (
  some ([]:(List Int))
 )else (
  chk (ZiZ (([]:(List Int)).length+s.length) 4) <|
  some (([]:(List Int))++s)
 )
def Zn3 (s:(List Int)):Option (List Int):=
 bif (List.isEmpty s)then agree (
  ZnI s true
 ) (
  ZnI s false
 )else (
  ZnI s false
 )
def ZqV (hi:Int) (lo:Int) (y:Int) (t15:Bool):Option (Int×Int):=
 bif t15 then (
  none
 )else (
  chk (decide (0≤(32:Int))) <|
  chk (decide ((IntKind.wrap .u64 y)≠0)) <|
  chk (decide ((IntKind.wrap .u64 y)≠0)) <|
  some ((IntKind.wrap .u32 (IntKind.wrap .u64 (Int.tdiv (orK .u64 (shlK .u64 (IntKind.wrap .u64 hi) 32) (IntKind.wrap .u64 lo)) (IntKind.wrap .u64 y)))),(IntKind.wrap .u32 (Int.tmod (orK .u64 (shlK .u64 (IntKind.wrap .u64 hi) 32) (IntKind.wrap .u64 lo)) (IntKind.wrap .u64 y))))
 )
def ZsK (hi:Int) (lo:Int) (y:Int):Option (Int×Int):=
 bif (y != 0)then (
  ZqV hi lo y (decide (y≤hi))
 )else (
  ZqV hi lo y false
 )
def Zsr (rest:Int) (out:(List Int)):Option ((List Int)×Int):=
 (ZnS out).bind fun q=>
 some (q,rest)
def ZpP (rec_:(List Int)→Int→Int→Int→(List Int)→Option (Int×(List Int))) (w_:(List Int)) (d:Int) (rest:Int) (i:Int) (out:(List Int)):Option (Int×(List Int)):=
 bif (decide (i≥0))then (
  (idx w_ i).bind fun w__e=>
  (ZsK rest w__e d).bind fun(q,rest_1)=>
  chk (inR i (out.length:Int)) <|
  chk (inK .i64 (i - 1)) <|
  rec_ w_ d rest_1 (i - 1) (out.set ((i).toNat) q)
 )else (
  some (rest,out)
 )
def Zqy:Nat→(List Int)→Int→Int→Int→(List Int)→Option (Int×(List Int))
 |0,_,_,_,_,_=>none
 |n_+1,w_,d,rest,i,out=>ZpP (Zqy n_) w_ d rest i out
def ZtD (n:Nat) (s:((List Int)×Int×Int×Int×(List Int))):Option (Int×(List Int)):=Zqy n s.1 s.2.1 s.2.2.1 s.2.2.2.1 s.2.2.2.2
def Zrt (rec_:((List Int)×Int×Int×Int×(List Int))→Option (Int×(List Int))) (s:((List Int)×Int×Int×Int×(List Int))):Option (Int×(List Int)):=ZpP (fun w_ d rest i out=>rec_ (w_,d,rest,i,out)) s.1 s.2.1 s.2.2.1 s.2.2.2.1 s.2.2.2.2
theorem Zvu:∀n s,ZtD (n+1) s=Zrt (ZtD n) s:=fun _ _=>rfl
def Zqc (w_:(List Int)) (d:Int):Option ((List Int)×Int):=
 chk (mkOk (w_.length:Int) (w_.length:Int) 4) <|
 chk (inK .i64 ((w_.length:Int) - 1)) <|
 (Zqy big w_ d (0:Int) ((w_.length:Int) - 1) (List.replicate ((w_.length:Int)).toNat (0:Int))).bind fun(x0,x1)=>Zsr x0 x1
def ZpW (x_:Int) (n:Int):Option Int:=
 (idx ([0,1,2,2,3,3,3,3,4,4,4,4,4,4,4,4,5,5,5,5,5,5,5,5,5,5,5,5,5,5,5,5,6,6,6,6,6,6,6,6,6,6,6,6,6,6,6,6,6,6,6,6,6,6,6,6,6,6,6,6,6,6,6,6,7,7,7,7,7,7,7,7,7,7,7,7,7,7,7,7,7,7,7,7,7,7,7,7,7,7,7,7,7,7,7,7,7,7,7,7,7,7,7,7,7,7,7,7,7,7,7,7,7,7,7,7,7,7,7,7,7,7,7,7,7,7,7,7,8,8,8,8,8,8,8,8,8,8,8,8,8,8,8,8,8,8,8,8,8,8,8,8,8,8,8,8,8,8,8,8,8,8,8,8,8,8,8,8,8,8,8,8,8,8,8,8,8,8,8,8,8,8,8,8,8,8,8,8,8,8,8,8,8,8,8,8,8,8,8,8,8,8,8,8,8,8,8,8,8,8,8,8,8,8,8,8,8,8,8,8,8,8,8,8,8,8,8,8,8,8,8,8,8,8,8,8,8,8,8,8,8,8,8,8,8,8,8,8,8,8,8,8,8,8,8,8]:Str) (IntKind.wrap .u8 x_)).bind fun c=>
 chk (inK .i64 (n+(IntKind.wrap .i64 ((c.toNat:Nat):Int)))) <|
 some (n+(IntKind.wrap .i64 ((c.toNat:Nat):Int)))
def Zsw (x_:Int) (n:Int):Option Int:=
 bif (decide (x_≥256))then (
  chk (decide (0≤(8:Int))) <|
  chk (inK .i64 (n+8)) <|
  ZpW (shrK .u32 x_ 8) (n+8)
 )else (
  ZpW x_ n
 )
def ZsJ (x_:Int):Option Int:=
 bif (decide (x_≥65536))then (
  chk (decide (0≤(16:Int))) <|
  Zsw (shrK .u32 x_ 16) (16:Int)
 )else (
  Zsw x_ (0:Int)
 )
def Zo3 (x_:Int):Option Int:=
 (ZsJ x_).bind fun q=>
 chk (inK .i64 (32 - q)) <|
 some (32 - q)
def Zru (out:(List Int)):Option (List Int):=
 some out
def Zpi (rec_:Int→(List Int)→Int→Int→(List Int)→Option (List Int)) (n:Int) (t13:(List Int)) (t14:Int) (i:Int) (out:(List Int)):Option (List Int):=
 bif (decide (i < t14))then (
  (idx t13 i).bind fun d=>
  chk (decide (0≤n)) <|
  chk (inR i (out.length:Int)) <|
  (out[(i).toNat]?).bind fun out_e=>
  chk (inR i (out.length:Int)) <|
  chk (inK .i64 (i+1)) <|
  chk (decide (0≤(32:Int))) <|
  chk (inR (i+1) ((out.set ((i).toNat) (orK .u32 out_e (IntKind.wrap .u32 (shlK .u64 (IntKind.wrap .u64 d) n)))).length:Int)) <|
  chk (inK .i64 (i+1)) <|
  rec_ n t13 t14 (i+1) ((out.set ((i).toNat) (orK .u32 out_e (IntKind.wrap .u32 (shlK .u64 (IntKind.wrap .u64 d) n)))).set (((i+1)).toNat) (IntKind.wrap .u32 (shrK .u64 (shlK .u64 (IntKind.wrap .u64 d) n) 32)))
 )else (
  some out
 )
def ZpQ:Nat→Int→(List Int)→Int→Int→(List Int)→Option (List Int)
 |0,_,_,_,_,_=>none
 |n_+1,n,t13,t14,i,out=>Zpi (ZpQ n_) n t13 t14 i out
def Zs7 (n:Nat) (s:(Int×(List Int)×Int×Int×(List Int))):Option (List Int):=ZpQ n s.1 s.2.1 s.2.2.1 s.2.2.2.1 s.2.2.2.2
def ZqT (rec_:(Int×(List Int)×Int×Int×(List Int))→Option (List Int)) (s:(Int×(List Int)×Int×Int×(List Int))):Option (List Int):=Zpi (fun n t13 t14 i out=>rec_ (n,t13,t14,i,out)) s.1 s.2.1 s.2.2.1 s.2.2.2.1 s.2.2.2.2
theorem ZuV:∀n s,Zs7 (n+1) s=ZqT (Zs7 n) s:=fun _ _=>rfl
def Zop (w_:(List Int)) (n:Int):Option (List Int):=
 chk (inK .i64 ((w_.length:Int)+1)) <|
 chk (mkOk ((w_.length:Int)+1) ((w_.length:Int)+1) 4) <|
 (ZpQ big n w_ (w_.length:Int) (0:Int) (List.replicate (((w_.length:Int)+1)).toNat (0:Int))).bind fun x0=>Zru x0
def Zqh (x_:Int) (y:Int) (borrow:Int):Option (Int×Int):=
 chk (decide (0≤(31:Int))) <|
 some ((IntKind.wrap .u32 ((IntKind.wrap .u32 (x_ - y)) - borrow)),(shrK .u32 (orK .u32 (andK .u32 (xorK .u32 (if IntKind.signed .u32 then -1 else IntKind.max .u32) x_) y) (andK .u32 (xorK .u32 (if IntKind.signed .u32 then -1 else IntKind.max .u32) (xorK .u32 x_ y)) (IntKind.wrap .u32 ((IntKind.wrap .u32 (x_ - y)) - borrow)))) 31))
def Zrf (x_:Int) (y:Int) (carry:Int):Option (Int×Int):=
 chk (decide (0≤(32:Int))) <|
 some ((IntKind.wrap .u32 (IntKind.wrap .u64 ((IntKind.wrap .u64 ((IntKind.wrap .u64 x_)+(IntKind.wrap .u64 y)))+(IntKind.wrap .u64 carry)))),(IntKind.wrap .u32 (shrK .u64 (IntKind.wrap .u64 ((IntKind.wrap .u64 ((IntKind.wrap .u64 x_)+(IntKind.wrap .u64 y)))+(IntKind.wrap .u64 carry))) 32)))
def Zs1 (u_off:Nat) (u_len:Nat) (n:Int) (guess:Int) (add:Int) (u:(List Int)):Option (Int×(List Int)):=
 chk (inR n (u_len:Int)) <|
 (u[(u_off+(n).toNat)]?).bind fun u_e=>
 chk (inR n (u_len:Int)) <|
 some ((IntKind.wrap .u32 (IntKind.wrap .u64 (guess - 1))),(u.set (u_off+(n).toNat) (IntKind.wrap .u32 (u_e+add))))
def Zr2 (rec_:Nat→Nat→Int→Int→Int→(List Int)→Int→Int→(List Int)→Option (Nat×Nat×Int×Int×Int×(List Int))) (u_off:Nat) (u_len:Nat) (n:Int) (guess:Int) (add:Int) (t130:(List Int)) (t131:Int) (i:Int) (u:(List Int)):Option (Nat×Nat×Int×Int×Int×(List Int)):=
 bif (decide (i < t131))then (
  (idx t130 i).bind fun x_=>
  chk (inR i (u_len:Int)) <|
  (u[(u_off+(i).toNat)]?).bind fun u_e=>
  (Zrf u_e x_ add).bind fun(q,add_1)=>
  chk (inR i (u_len:Int)) <|
  chk (inK .i64 (i+1)) <|
  rec_ u_off u_len n guess add_1 t130 t131 (i+1) (u.set (u_off+(i).toNat) q)
 )else (
  some (u_off,u_len,n,guess,add,u)
 )
def Zrx:Nat→Nat→Nat→Int→Int→Int→(List Int)→Int→Int→(List Int)→Option (Nat×Nat×Int×Int×Int×(List Int))
 |0,_,_,_,_,_,_,_,_,_=>none
 |n_+1,u_off,u_len,n,guess,add,t130,t131,i,u=>Zr2 (Zrx n_) u_off u_len n guess add t130 t131 i u
def ZuX (n:Nat) (s:(Nat×Nat×Int×Int×Int×(List Int)×Int×Int×(List Int))):Option (Nat×Nat×Int×Int×Int×(List Int)):=Zrx n s.1 s.2.1 s.2.2.1 s.2.2.2.1 s.2.2.2.2.1 s.2.2.2.2.2.1 s.2.2.2.2.2.2.1 s.2.2.2.2.2.2.2.1 s.2.2.2.2.2.2.2.2
def ZtH (rec_:(Nat×Nat×Int×Int×Int×(List Int)×Int×Int×(List Int))→Option (Nat×Nat×Int×Int×Int×(List Int))) (s:(Nat×Nat×Int×Int×Int×(List Int)×Int×Int×(List Int))):Option (Nat×Nat×Int×Int×Int×(List Int)):=Zr2 (fun u_off u_len n guess add t130 t131 i u=>rec_ (u_off,u_len,n,guess,add,t130,t131,i,u)) s.1 s.2.1 s.2.2.1 s.2.2.2.1 s.2.2.2.2.1 s.2.2.2.2.2.1 s.2.2.2.2.2.2.1 s.2.2.2.2.2.2.2.1 s.2.2.2.2.2.2.2.2
theorem Zwr:∀n s,ZuX (n+1) s=ZtH (ZuX n) s:=fun _ _=>rfl
def Zun (u_off:Nat) (u_len:Nat) (d:(List Int)) (n:Int) (guess:Int) (borrow:Int) (carry:Int) (u:(List Int)):Option (Int×(List Int)):=
 chk (inR n (u_len:Int)) <|
 (u[(u_off+(n).toNat)]?).bind fun u_e=>
 (Zqh u_e (IntKind.wrap .u32 carry) borrow).bind fun(q,borrow_1)=>
 chk (inR n (u_len:Int)) <|
 bif (borrow_1 == 0)then (
  some ((IntKind.wrap .u32 guess),(u.set (u_off+(n).toNat) q))
 )else (
  (Zrx big u_off u_len n guess (0:Int) d (d.length:Int) (0:Int) (u.set (u_off+(n).toNat) q)).bind fun(x0,x1,x2,x3,x4,x5)=>Zs1 x0 x1 x2 x3 x4 x5
 )
def Zr3 (rec_:Nat→Nat→(List Int)→Int→Int→Int→Int→(List Int)→Int→Int→(List Int)→Option (Nat×Nat×(List Int)×Int×Int×Int×Int×(List Int))) (u_off:Nat) (u_len:Nat) (d:(List Int)) (n:Int) (guess:Int) (borrow:Int) (carry:Int) (t82:(List Int)) (t83:Int) (i:Int) (u:(List Int)):Option (Nat×Nat×(List Int)×Int×Int×Int×Int×(List Int)):=
 bif (decide (i < t83))then (
  (idx t82 i).bind fun x_=>
  chk (inR i (u_len:Int)) <|
  (u[(u_off+(i).toNat)]?).bind fun u_e=>
  (Zqh u_e (IntKind.wrap .u32 (IntKind.wrap .u64 (carry+(IntKind.wrap .u64 (guess*(IntKind.wrap .u64 x_)))))) borrow).bind fun(q,borrow_1)=>
  chk (inR i (u_len:Int)) <|
  chk (decide (0≤(32:Int))) <|
  chk (inK .i64 (i+1)) <|
  rec_ u_off u_len d n guess borrow_1 (shrK .u64 (IntKind.wrap .u64 (carry+(IntKind.wrap .u64 (guess*(IntKind.wrap .u64 x_))))) 32) t82 t83 (i+1) (u.set (u_off+(i).toNat) q)
 )else (
  some (u_off,u_len,d,n,guess,borrow,carry,u)
 )
def Zs0:Nat→Nat→Nat→(List Int)→Int→Int→Int→Int→(List Int)→Int→Int→(List Int)→Option (Nat×Nat×(List Int)×Int×Int×Int×Int×(List Int))
 |0,_,_,_,_,_,_,_,_,_,_,_=>none
 |n_+1,u_off,u_len,d,n,guess,borrow,carry,t82,t83,i,u=>Zr3 (Zs0 n_) u_off u_len d n guess borrow carry t82 t83 i u
def ZuY (n:Nat) (s:(Nat×Nat×(List Int)×Int×Int×Int×Int×(List Int)×Int×Int×(List Int))):Option (Nat×Nat×(List Int)×Int×Int×Int×Int×(List Int)):=Zs0 n s.1 s.2.1 s.2.2.1 s.2.2.2.1 s.2.2.2.2.1 s.2.2.2.2.2.1 s.2.2.2.2.2.2.1 s.2.2.2.2.2.2.2.1 s.2.2.2.2.2.2.2.2.1 s.2.2.2.2.2.2.2.2.2.1 s.2.2.2.2.2.2.2.2.2.2
def ZtI (rec_:(Nat×Nat×(List Int)×Int×Int×Int×Int×(List Int)×Int×Int×(List Int))→Option (Nat×Nat×(List Int)×Int×Int×Int×Int×(List Int))) (s:(Nat×Nat×(List Int)×Int×Int×Int×Int×(List Int)×Int×Int×(List Int))):Option (Nat×Nat×(List Int)×Int×Int×Int×Int×(List Int)):=Zr3 (fun u_off u_len d n guess borrow carry t82 t83 i u=>rec_ (u_off,u_len,d,n,guess,borrow,carry,t82,t83,i,u)) s.1 s.2.1 s.2.2.1 s.2.2.2.1 s.2.2.2.2.1 s.2.2.2.2.2.1 s.2.2.2.2.2.2.1 s.2.2.2.2.2.2.2.1 s.2.2.2.2.2.2.2.2.1 s.2.2.2.2.2.2.2.2.2.1 s.2.2.2.2.2.2.2.2.2.2
theorem Zws:∀n s,ZuY (n+1) s=ZtI (ZuY n) s:=fun _ _=>rfl
def Zs2 (u_off:Nat) (u_len:Nat) (d:(List Int)) (n:Int) (guess:Int) (u:(List Int)):Option (Int×(List Int)):=
 (Zs0 big u_off u_len d n guess (0:Int) (0:Int) d (d.length:Int) (0:Int) u).bind fun(x0,x1,x2,x3,x4,x5,x6,x7)=>Zun x0 x1 x2 x3 x4 x5 x6 x7
def Zry (rec_:Nat→Nat→(List Int)→Int→Int→Int→(List Int)→Option (Nat×Nat×(List Int)×Int×Int×(List Int))) (u_off:Nat) (u_len:Nat) (d:(List Int)) (n:Int) (guess:Int) (rest:Int) (t71:Bool) (u:(List Int)):Option (Nat×Nat×(List Int)×Int×Int×(List Int)):=
 bif t71 then (
  chk (inK .i64 (n - 1)) <|
  (idx d (n - 1)).bind fun d_e=>
  rec_ u_off u_len d n (IntKind.wrap .u64 (guess - 1)) (IntKind.wrap .u64 (rest+(IntKind.wrap .u64 d_e))) u
 )else (
  some (u_off,u_len,d,n,guess,u)
 )
def ZtJ (rec_:Nat→Nat→(List Int)→Int→Int→Int→(List Int)→Option (Nat×Nat×(List Int)×Int×Int×(List Int))) (u_off:Nat) (u_len:Nat) (d:(List Int)) (n:Int) (guess:Int) (rest:Int) (u:(List Int)):Option (Nat×Nat×(List Int)×Int×Int×(List Int)):=
 bif (decide (rest < 4294967296))then (
  chk (inK .i64 (n - 2)) <|
  (idx d (n - 2)).bind fun d_e=>
  chk (decide (0≤(32:Int))) <|
  chk (inK .i64 (n - 2)) <|
  chk (inR (n - 2) (u_len:Int)) <|
  (u[(u_off+((n - 2)).toNat)]?).bind fun u_e=>
  Zry rec_ u_off u_len d n guess rest (decide ((IntKind.wrap .u64 (guess*(IntKind.wrap .u64 d_e))) > (orK .u64 (shlK .u64 rest 32) (IntKind.wrap .u64 u_e)))) u
 )else (
  Zry rec_ u_off u_len d n guess rest false u
 )
def Zqj:Nat→Nat→Nat→(List Int)→Int→Int→Int→(List Int)→Option (Nat×Nat×(List Int)×Int×Int×(List Int))
 |0,_,_,_,_,_,_,_=>none
 |n_+1,u_off,u_len,d,n,guess,rest,u=>ZtJ (Zqj n_) u_off u_len d n guess rest u
def ZuZ (n:Nat) (s:(Nat×Nat×(List Int)×Int×Int×Int×(List Int))):Option (Nat×Nat×(List Int)×Int×Int×(List Int)):=Zqj n s.1 s.2.1 s.2.2.1 s.2.2.2.1 s.2.2.2.2.1 s.2.2.2.2.2.1 s.2.2.2.2.2.2
def Zu0 (rec_:(Nat×Nat×(List Int)×Int×Int×Int×(List Int))→Option (Nat×Nat×(List Int)×Int×Int×(List Int))) (s:(Nat×Nat×(List Int)×Int×Int×Int×(List Int))):Option (Nat×Nat×(List Int)×Int×Int×(List Int)):=ZtJ (fun u_off u_len d n guess rest u=>rec_ (u_off,u_len,d,n,guess,rest,u)) s.1 s.2.1 s.2.2.1 s.2.2.2.1 s.2.2.2.2.1 s.2.2.2.2.2.1 s.2.2.2.2.2.2
theorem Zwt:∀n s,ZuZ (n+1) s=Zu0 (ZuZ n) s:=fun _ _=>rfl
def Zul (u:(List Int)) (u_off:Nat) (u_len:Nat) (d:(List Int)):Option (Int×(List Int)):=
 chk (inR (d.length:Int) (u_len:Int)) <|
 (u[(u_off+((d.length:Int)).toNat)]?).bind fun u_e=>
 chk (decide (0≤(32:Int))) <|
 chk (inK .i64 ((d.length:Int) - 1)) <|
 chk (inR ((d.length:Int) - 1) (u_len:Int)) <|
 (u[(u_off+(((d.length:Int) - 1)).toNat)]?).bind fun u_e_1=>
 chk (inK .i64 ((d.length:Int) - 1)) <|
 (idx d ((d.length:Int) - 1)).bind fun d_e=>
 chk (decide ((IntKind.wrap .u64 d_e)≠0)) <|
 chk (inK .i64 ((d.length:Int) - 1)) <|
 (idx d ((d.length:Int) - 1)).bind fun d_e_1=>
 (Zqj big u_off u_len d (d.length:Int) (if (4294967295:Int) < (IntKind.wrap .u64 (Int.tdiv (orK .u64 (shlK .u64 (IntKind.wrap .u64 u_e) 32) (IntKind.wrap .u64 u_e_1)) (IntKind.wrap .u64 d_e)))then (4294967295:Int)else (IntKind.wrap .u64 (Int.tdiv (orK .u64 (shlK .u64 (IntKind.wrap .u64 u_e) 32) (IntKind.wrap .u64 u_e_1)) (IntKind.wrap .u64 d_e)))) (IntKind.wrap .u64 ((orK .u64 (shlK .u64 (IntKind.wrap .u64 u_e) 32) (IntKind.wrap .u64 u_e_1)) - (IntKind.wrap .u64 ((if (4294967295:Int) < (IntKind.wrap .u64 (Int.tdiv (orK .u64 (shlK .u64 (IntKind.wrap .u64 u_e) 32) (IntKind.wrap .u64 u_e_1)) (IntKind.wrap .u64 d_e)))then (4294967295:Int)else (IntKind.wrap .u64 (Int.tdiv (orK .u64 (shlK .u64 (IntKind.wrap .u64 u_e) 32) (IntKind.wrap .u64 u_e_1)) (IntKind.wrap .u64 d_e))))*(IntKind.wrap .u64 d_e_1))))) u).bind fun(x0,x1,x2,x3,x4,x5)=>Zs2 x0 x1 x2 x3 x4 x5
def Ztp (u:(List Int)) (u_off:Nat) (u_len:Nat) (d:(List Int)):Option (Int×(List Int)):=
 (Zul u u_off u_len d).bind fun r=>chk (decide (r.2.length=u.length)&&true) (some r)
def ZsZ (w_off:Nat) (w_len:Nat) (w_:(List Int)):Option (Nat×Nat×(List Int)):=
 some (w_off,w_len,w_)
def Zre (rec_:Nat→Nat→(List Int)→Option (Nat×Nat×(List Int))) (w_off:Nat) (w_len:Nat) (t14:Bool) (w_:(List Int)):Option (Nat×Nat×(List Int)):=
 bif t14 then (
  chk (inK .i64 (((w_len:Nat):Int) - 1)) <|
  chk (Zb9 0 (((w_len:Nat):Int) - 1) (w_len:Int)) <|
  rec_ (w_off+0) (((((w_len:Nat):Int) - 1)).toNat - 0) w_
 )else (
  some (w_off,w_len,w_)
 )
def Zst (rec_:Nat→Nat→(List Int)→Option (Nat×Nat×(List Int))) (w_off:Nat) (w_len:Nat) (w_:(List Int)):Option (Nat×Nat×(List Int)):=
 bif (decide (((w_len:Nat):Int) > 0))then (
  chk (inK .i64 (((w_len:Nat):Int) - 1)) <|
  chk (inR (((w_len:Nat):Int) - 1) (w_len:Int)) <|
  (w_[(w_off+((((w_len:Nat):Int) - 1)).toNat)]?).bind fun w__e=>
  Zre rec_ w_off w_len (w__e == 0) w_
 )else (
  Zre rec_ w_off w_len false w_
 )
def ZpT:Nat→Nat→Nat→(List Int)→Option (Nat×Nat×(List Int))
 |0,_,_,_=>none
 |n_+1,w_off,w_len,w_=>Zst (ZpT n_) w_off w_len w_
def Zuf (n:Nat) (s:(Nat×Nat×(List Int))):Option (Nat×Nat×(List Int)):=ZpT n s.1 s.2.1 s.2.2
def Zug (rec_:(Nat×Nat×(List Int))→Option (Nat×Nat×(List Int))) (s:(Nat×Nat×(List Int))):Option (Nat×Nat×(List Int)):=Zst (fun w_off w_len w_=>rec_ (w_off,w_len,w_)) s.1 s.2.1 s.2.2
theorem ZvT:∀n s,Zuf (n+1) s=Zug (Zuf n) s:=fun _ _=>rfl
def Zsx (w_:(List Int)) (w_off:Nat) (w_len:Nat):Option (Nat×Nat×(List Int)):=
 (ZpT big w_off w_len w_).bind fun(x0,x1,x2)=>ZsZ x0 x1 x2
def ZrC (w_:(List Int)) (w_off:Nat) (w_len:Nat):Option (Nat×Nat×(List Int)):=
 (Zsx w_ w_off w_len).bind fun r=>chk (decide (r.2.2.length=w_.length)&&true) (some r)
def Zpn (w_:(List Int)) (i:Int):Option Int:=
 bif (decide (i < (w_.length:Int)))then (
  (idx w_ i).bind fun w__e=>
  some w__e
 )else (
  some (0:Int)
 )
def ZtF (w_:(List Int)) (w_off:Nat) (w_len:Nat) (i:Int):Option (Int×(List Int)):=
 bif (decide (i < ((w_len:Nat):Int)))then (
  chk (inR i (w_len:Int)) <|
  (w_[(w_off+(i).toNat)]?).bind fun w__e=>
  some (w__e,w_)
 )else (
  some (0,w_)
 )
def Zrc (w_:(List Int)) (w_off:Nat) (w_len:Nat) (i:Int):Option (Int×(List Int)):=
 (ZtF w_ w_off w_len i).bind fun r=>chk (decide (r.2.length=w_.length)&&true) (some r)
def ZsM (rest_off:Nat) (rest_len:Nat) (q:(List Int)) (rest:(List Int)):Option ((List Int)×(List Int)):=
 (ZnS q).bind fun q_1=>
 (ZnS ((rest.drop rest_off).take rest_len)).bind fun q_2=>
 some (q_1,q_2)
def Zp6 (rec_:Int→Nat→Nat→Int→Int→(List Int)→(List Int)→Option (Nat×Nat×(List Int)×(List Int))) (shift:Int) (rest_off:Nat) (rest_len:Nat) (t86:Int) (i:Int) (q:(List Int)) (rest:(List Int)):Option (Nat×Nat×(List Int)×(List Int)):=
 bif (decide (i < t86))then (
  chk (inK .i64 (i+1)) <|
  (Zrc rest rest_off rest_len (i+1)).bind fun(q_1,t90)=>
  chk (decide (0≤(32:Int))) <|
  chk (inR i (rest_len:Int)) <|
  (t90[(rest_off+(i).toNat)]?).bind fun t90_e=>
  chk (decide (0≤shift)) <|
  chk (inR i (rest_len:Int)) <|
  chk (inK .i64 (i+1)) <|
  rec_ shift rest_off rest_len t86 (i+1) q (t90.set (rest_off+(i).toNat) (IntKind.wrap .u32 (shrK .u64 (orK .u64 (shlK .u64 (IntKind.wrap .u64 q_1) 32) (IntKind.wrap .u64 t90_e)) shift)))
 )else (
  some (rest_off,rest_len,q,rest)
 )
def Zps:Nat→Int→Nat→Nat→Int→Int→(List Int)→(List Int)→Option (Nat×Nat×(List Int)×(List Int))
 |0,_,_,_,_,_,_,_=>none
 |n_+1,shift,rest_off,rest_len,t86,i,q,rest=>Zp6 (Zps n_) shift rest_off rest_len t86 i q rest
def Zt1 (n:Nat) (s:(Int×Nat×Nat×Int×Int×(List Int)×(List Int))):Option (Nat×Nat×(List Int)×(List Int)):=Zps n s.1 s.2.1 s.2.2.1 s.2.2.2.1 s.2.2.2.2.1 s.2.2.2.2.2.1 s.2.2.2.2.2.2
def ZrT (rec_:(Int×Nat×Nat×Int×Int×(List Int)×(List Int))→Option (Nat×Nat×(List Int)×(List Int))) (s:(Int×Nat×Nat×Int×Int×(List Int)×(List Int))):Option (Nat×Nat×(List Int)×(List Int)):=Zp6 (fun shift rest_off rest_len t86 i q rest=>rec_ (shift,rest_off,rest_len,t86,i,q,rest)) s.1 s.2.1 s.2.2.1 s.2.2.2.1 s.2.2.2.2.1 s.2.2.2.2.2.1 s.2.2.2.2.2.2
theorem ZvK:∀n s,Zt1 (n+1) s=ZrT (Zt1 n) s:=fun _ _=>rfl
def ZsN (n:Int) (shift:Int) (u:(List Int)) (q:(List Int)):Option ((List Int)×(List Int)):=
 chk (Zb9 0 n (u.length:Int)) <|
 (ZrC u 0 ((n).toNat - 0)).bind fun(rest_off,rest_len,t83)=>
 (Zps big shift rest_off rest_len ((rest_len:Nat):Int) (0:Int) q t83).bind fun(x0,x1,x2,x3)=>ZsM x0 x1 x2 x3
def Zp7 (rec_:Int→Int→(List Int)→Int→(List Int)→(List Int)→Option (Int×Int×(List Int)×(List Int))) (n:Int) (shift:Int) (d:(List Int)) (j:Int) (u:(List Int)) (q:(List Int)):Option (Int×Int×(List Int)×(List Int)):=
 bif (decide (j≥0))then (
  chk (inK .i64 (j+n)) <|
  chk (inK .i64 ((j+n)+1)) <|
  chk (Zb9 j ((j+n)+1) (u.length:Int)) <|
  (Ztp u ((j).toNat) ((((j+n)+1)).toNat - (j).toNat) d).bind fun(q_1,t77)=>
  chk (inR j (q.length:Int)) <|
  chk (inK .i64 (j - 1)) <|
  rec_ n shift d (j - 1) t77 (q.set ((j).toNat) q_1)
 )else (
  some (n,shift,u,q)
 )
def Zpt:Nat→Int→Int→(List Int)→Int→(List Int)→(List Int)→Option (Int×Int×(List Int)×(List Int))
 |0,_,_,_,_,_,_=>none
 |n_+1,n,shift,d,j,u,q=>Zp7 (Zpt n_) n shift d j u q
def Zt2 (n:Nat) (s:(Int×Int×(List Int)×Int×(List Int)×(List Int))):Option (Int×Int×(List Int)×(List Int)):=Zpt n s.1 s.2.1 s.2.2.1 s.2.2.2.1 s.2.2.2.2.1 s.2.2.2.2.2
def ZrU (rec_:(Int×Int×(List Int)×Int×(List Int)×(List Int))→Option (Int×Int×(List Int)×(List Int))) (s:(Int×Int×(List Int)×Int×(List Int)×(List Int))):Option (Int×Int×(List Int)×(List Int)):=Zp7 (fun n shift d j u q=>rec_ (n,shift,d,j,u,q)) s.1 s.2.1 s.2.2.1 s.2.2.2.1 s.2.2.2.2.1 s.2.2.2.2.2
theorem ZvL:∀n s,Zt2 (n+1) s=ZrU (Zt2 n) s:=fun _ _=>rfl
def ZoT (w_:(List Int)) (v_:(List Int)):Option ((List Int)×(List Int)):=
 (Zn6 w_ v_).bind fun q=>
 bif (decide (q < 0))then (
  (Zn3 w_).bind fun q_1=>
  some (([]:(List Int)),q_1)
 )else (
  bif ((v_.length:Int) == 1)then (
   (idx v_ 0).bind fun v__e=>
   (Zqc w_ v__e).bind fun(q_2,r_)=>
   (ZnS ([r_]:(List Int))).bind fun q_3=>
   some (q_2,q_3)
  )else (
   chk (inK .i64 ((v_.length:Int) - 1)) <|
   (idx v_ ((v_.length:Int) - 1)).bind fun v__e_1=>
   (Zo3 v__e_1).bind fun shift=>
   (Zop w_ shift).bind fun u=>
   (Zop v_ shift).bind fun q_4=>
   chk (Zb9 0 (v_.length:Int) (q_4.length:Int)) <|
   chk (inK .i64 ((w_.length:Int) - (v_.length:Int))) <|
   chk (inK .i64 (((w_.length:Int) - (v_.length:Int))+1)) <|
   chk (mkOk (((w_.length:Int) - (v_.length:Int))+1) (((w_.length:Int) - (v_.length:Int))+1) 4) <|
   chk (inK .i64 (((List.replicate ((((w_.length:Int) - (v_.length:Int))+1)).toNat (0:Int)).length:Int) - 1)) <|
   (Zpt big (v_.length:Int) shift ((q_4.drop 0).take (((v_.length:Int)).toNat - 0)) (((List.replicate ((((w_.length:Int) - (v_.length:Int))+1)).toNat (0:Int)).length:Int) - 1) u (List.replicate ((((w_.length:Int) - (v_.length:Int))+1)).toNat (0:Int))).bind fun(x0,x1,x2,x3)=>ZsN x0 x1 x2 x3
  )
 )
def ZrV (w_:(List Int)):Option (List Int):=
 some w_
def ZoG (rec_:(List Int)→(List Int)→Option (List Int)) (w_:(List Int)) (v_:(List Int)):Option (List Int):=
 bif (decide ((v_.length:Int) > 0))then (
  (ZoT w_ v_).bind fun(q,r_)=>
  rec_ v_ r_
 )else (
  some w_
 )
def Zod:Nat→(List Int)→(List Int)→Option (List Int)
 |0,_,_=>none
 |n_+1,w_,v_=>ZoG (Zod n_) w_ v_
def ZoY (w_:(List Int)) (v_:(List Int)):Option (List Int):=
 (Zod big w_ v_).bind fun x0=>ZrV x0
def ZoH (num:ZnC) (den:ZnC):Option ZnA:=
 (ZoY num.Words den.Words).bind fun g=>
 (ZoT num.Words g).bind fun(x_,q)=>
 (ZoT den.Words g).bind fun(y,q_1)=>
 (ZnX (!(num.Neg == den.Neg)) x_).bind fun q_2=>
 (ZnX false y).bind fun q_3=>
 some (ZnA.mk q_2 q_3)
def ZtK (num:ZnC) (den:ZnC):Option (ZnA×Int):=
 (ZsO ([num,den]:(List ZnC))).bind fun q=>
 bif (!q)then (
  some ((ZnA.mk (ZnC.mk false ([]:(List Int))) (ZnC.mk false ([]:(List Int)))),1)
 )else (
  bif ((den.Words.length:Int) == 0)then (
   some ((ZnA.mk (ZnC.mk false ([]:(List Int))) (ZnC.mk false ([]:(List Int)))),8)
  )else (
   (ZoH num den).bind fun q_1=>
   some (q_1,0)
  )
 )
def ZtT (num:Int) (den:Int):Option (ZnA×Int):=
 (ZqL num).bind fun q=>
 (ZqL den).bind fun q_1=>
 (ZtK q q_1).bind fun(q_2,q_3)=>
 some (q_2,q_3)
def ZtR:Option ZnA:=
 (ZtT 0 1).bind fun(f,q)=>
 some f
def ZuP (a:Int) (b:Int):Option ZnA:=
 (ZtT a b).bind fun(f,e)=>
 bif (e != 0)then (
  (ZtR).bind fun q=>
  some q
 )else (
  some f
 )
def ZqI (a:(List Str)) (b:(List Str)):Option ZnA:=
 (Zrq a b).bind fun n=>
 chk (inK .i64 ((a.length:Int)+(b.length:Int))) <|
 chk (inK .i64 (((a.length:Int)+(b.length:Int)) - n)) <|
 (ZuP n (if (1:Int) > (((a.length:Int)+(b.length:Int)) - n)then (1:Int)else (((a.length:Int)+(b.length:Int)) - n))).bind fun q=>
 some q
def Zpl (a:ZnE) (b:ZnE):Option ZnA:=
 (ZqS a).bind fun q=>
 (ZqS b).bind fun q_1=>
 (ZqI q q_1).bind fun q_2=>
 some q_2
def Zr0 (a:Str) (b:Str):Option ZnA:=
 (ZoF a).bind fun q=>
 (ZoF b).bind fun q_1=>
 (ZqI q q_1).bind fun q_2=>
 some q_2
def Zqk (t2:Bool):Option Bool:=
 some t2
def Zou (f:ZnA):Option Bool:=
 (ZsO ([f.Num,f.Den]:(List ZnC))).bind fun q=>
 bif q then (
  bif (decide ((f.Den.Words.length:Int) > 0))then (
   bif (!f.Den.Neg)then (
    (ZoY f.Num.Words f.Den.Words).bind fun q_1=>
    (Zn6 q_1 ([1]:List Int)).bind fun q_2=>
    Zqk (q_2 == 0)
   )else (
    Zqk false
   )
  )else (
   Zqk false
  )
 )else (
  Zqk false
 )
def Zsp (out:(List Int)):Option (List Int):=
 (ZnS out).bind fun q=>
 some q
def Zsq (rec_:(List Int)→(List Int)→Int→Int→(List Int)→Option (List Int)) (v_:(List Int)) (i:Int) (carry:Int) (t17:(List Int)) (t18:Int) (i_1:Int) (out:(List Int)):Option (List Int):=
 chk (inK .i64 (i+(v_.length:Int))) <|
 chk (inR (i+(v_.length:Int)) (out.length:Int)) <|
 chk (inK .i64 (i_1+1)) <|
 rec_ v_ t17 t18 (i_1+1) (out.set (((i+(v_.length:Int))).toNat) (IntKind.wrap .u32 carry))
def ZpN (rec_:(List Int)→Int→Int→Int→(List Int)→Int→Int→(List Int)→Int→Int→(List Int)→Option ((List Int)×Int×Int×(List Int)×Int×Int×(List Int))) (v_:(List Int)) (i:Int) (x_:Int) (carry:Int) (t17:(List Int)) (t18:Int) (i_1:Int) (t24:(List Int)) (t25:Int) (j:Int) (out:(List Int)):Option ((List Int)×Int×Int×(List Int)×Int×Int×(List Int)):=
 bif (decide (j < t25))then (
  (idx t24 j).bind fun y=>
  chk (inK .i64 (i+j)) <|
  chk (inR (i+j) (out.length:Int)) <|
  (out[((i+j)).toNat]?).bind fun out_e=>
  chk (inK .i64 (i+j)) <|
  chk (inR (i+j) (out.length:Int)) <|
  chk (decide (0≤(32:Int))) <|
  chk (inK .i64 (j+1)) <|
  rec_ v_ i x_ (shrK .u64 (IntKind.wrap .u64 (carry+(IntKind.wrap .u64 ((IntKind.wrap .u64 ((IntKind.wrap .u64 x_)*(IntKind.wrap .u64 y)))+(IntKind.wrap .u64 out_e))))) 32) t17 t18 i_1 t24 t25 (j+1) (out.set (((i+j)).toNat) (IntKind.wrap .u32 (IntKind.wrap .u64 (carry+(IntKind.wrap .u64 ((IntKind.wrap .u64 ((IntKind.wrap .u64 x_)*(IntKind.wrap .u64 y)))+(IntKind.wrap .u64 out_e)))))))
 )else (
  some (v_,i,carry,t17,t18,i_1,out)
 )
def Zqx:Nat→(List Int)→Int→Int→Int→(List Int)→Int→Int→(List Int)→Int→Int→(List Int)→Option ((List Int)×Int×Int×(List Int)×Int×Int×(List Int))
 |0,_,_,_,_,_,_,_,_,_,_,_=>none
 |n_+1,v_,i,x_,carry,t17,t18,i_1,t24,t25,j,out=>ZpN (Zqx n_) v_ i x_ carry t17 t18 i_1 t24 t25 j out
def ZtB (n:Nat) (s:((List Int)×Int×Int×Int×(List Int)×Int×Int×(List Int)×Int×Int×(List Int))):Option ((List Int)×Int×Int×(List Int)×Int×Int×(List Int)):=Zqx n s.1 s.2.1 s.2.2.1 s.2.2.2.1 s.2.2.2.2.1 s.2.2.2.2.2.1 s.2.2.2.2.2.2.1 s.2.2.2.2.2.2.2.1 s.2.2.2.2.2.2.2.2.1 s.2.2.2.2.2.2.2.2.2.1 s.2.2.2.2.2.2.2.2.2.2
def Zrr (rec_:((List Int)×Int×Int×Int×(List Int)×Int×Int×(List Int)×Int×Int×(List Int))→Option ((List Int)×Int×Int×(List Int)×Int×Int×(List Int))) (s:((List Int)×Int×Int×Int×(List Int)×Int×Int×(List Int)×Int×Int×(List Int))):Option ((List Int)×Int×Int×(List Int)×Int×Int×(List Int)):=ZpN (fun v_ i x_ carry t17 t18 i_1 t24 t25 j out=>rec_ (v_,i,x_,carry,t17,t18,i_1,t24,t25,j,out)) s.1 s.2.1 s.2.2.1 s.2.2.2.1 s.2.2.2.2.1 s.2.2.2.2.2.1 s.2.2.2.2.2.2.1 s.2.2.2.2.2.2.2.1 s.2.2.2.2.2.2.2.2.1 s.2.2.2.2.2.2.2.2.2.1 s.2.2.2.2.2.2.2.2.2.2
theorem Zvs:∀n s,ZtB (n+1) s=Zrr (ZtB n) s:=fun _ _=>rfl
def ZpO (rec_:(List Int)→(List Int)→Int→Int→(List Int)→Option (List Int)) (v_:(List Int)) (t17:(List Int)) (t18:Int) (i:Int) (out:(List Int)):Option (List Int):=
 bif (decide (i < t18))then (
  (idx t17 i).bind fun x_=>
  (Zqx big v_ i x_ (0:Int) t17 t18 i v_ (v_.length:Int) (0:Int) out).bind fun(x0,x1,x2,x3,x4,x5,x6)=>Zsq rec_ x0 x1 x2 x3 x4 x5 x6
 )else (
  some out
 )
def Zpc:Nat→(List Int)→(List Int)→Int→Int→(List Int)→Option (List Int)
 |0,_,_,_,_,_=>none
 |n_+1,v_,t17,t18,i,out=>ZpO (Zpc n_) v_ t17 t18 i out
def ZtC (n:Nat) (s:((List Int)×(List Int)×Int×Int×(List Int))):Option (List Int):=Zpc n s.1 s.2.1 s.2.2.1 s.2.2.2.1 s.2.2.2.2
def Zrs (rec_:((List Int)×(List Int)×Int×Int×(List Int))→Option (List Int)) (s:((List Int)×(List Int)×Int×Int×(List Int))):Option (List Int):=ZpO (fun v_ t17 t18 i out=>rec_ (v_,t17,t18,i,out)) s.1 s.2.1 s.2.2.1 s.2.2.2.1 s.2.2.2.2
theorem Zvt:∀n s,ZtC (n+1) s=Zrs (ZtC n) s:=fun _ _=>rfl
def ZoB (w_:(List Int)) (v_:(List Int)):Option (List Int):=
 chk (inK .i64 ((w_.length:Int)+(v_.length:Int))) <|
 chk (mkOk ((w_.length:Int)+(v_.length:Int)) ((w_.length:Int)+(v_.length:Int)) 4) <|
 (Zpc big v_ w_ (w_.length:Int) (0:Int) (List.replicate (((w_.length:Int)+(v_.length:Int))).toNat (0:Int))).bind fun x0=>Zsp x0
def ZnK (a:ZnC) (b:ZnC):Option ZnC:=
 (ZoB a.Words b.Words).bind fun q=>
 (ZnX (!(a.Neg == b.Neg)) q).bind fun q_1=>
 some q_1
def ZrD (t2:ZnC):Option ZnC:=
 some t2
def Zpo (a:ZnC):Option ZnC:=
 bif (!a.Neg)then (
  ZrD (ZnC.mk (decide ((a.Words.length:Int) > 0)) a.Words)
 )else (
  ZrD (ZnC.mk false a.Words)
 )
def ZsL (carry:Int) (out:(List Int)):Option (List Int):=
 chk (ZiZ (out.length+([carry]:(List Int)).length) 4) <|
 (ZnS (out++([carry]:(List Int)))).bind fun q=>
 some q
def Zp5 (rec_:(List Int)→(List Int)→Int→Int→Int→(List Int)→Option (Int×(List Int))) (w_:(List Int)) (v_:(List Int)) (carry:Int) (t20:Int) (i:Int) (out:(List Int)):Option (Int×(List Int)):=
 bif (decide (i < t20))then (
  (Zpn w_ i).bind fun q=>
  (Zpn v_ i).bind fun q_1=>
  (Zrf q q_1 carry).bind fun(d,carry_1)=>
  chk (ZiZ (out.length+([d]:(List Int)).length) 4) <|
  chk (inK .i64 (i+1)) <|
  rec_ w_ v_ carry_1 t20 (i+1) (out++([d]:(List Int)))
 )else (
  some (carry,out)
 )
def ZqK:Nat→(List Int)→(List Int)→Int→Int→Int→(List Int)→Option (Int×(List Int))
 |0,_,_,_,_,_,_=>none
 |n_+1,w_,v_,carry,t20,i,out=>Zp5 (ZqK n_) w_ v_ carry t20 i out
def Zt0 (n:Nat) (s:((List Int)×(List Int)×Int×Int×Int×(List Int))):Option (Int×(List Int)):=ZqK n s.1 s.2.1 s.2.2.1 s.2.2.2.1 s.2.2.2.2.1 s.2.2.2.2.2
def ZrS (rec_:((List Int)×(List Int)×Int×Int×Int×(List Int))→Option (Int×(List Int))) (s:((List Int)×(List Int)×Int×Int×Int×(List Int))):Option (Int×(List Int)):=Zp5 (fun w_ v_ carry t20 i out=>rec_ (w_,v_,carry,t20,i,out)) s.1 s.2.1 s.2.2.1 s.2.2.2.1 s.2.2.2.2.1 s.2.2.2.2.2
theorem ZvJ:∀n s,Zt0 (n+1) s=ZrS (Zt0 n) s:=fun _ _=>rfl
def Zpr (w_:(List Int)) (v_:(List Int)):Option (List Int):=
 chk (inK .i64 ((if (v_.length:Int) > (w_.length:Int)then (v_.length:Int)else (w_.length:Int))+1)) <|
 chk (mkOk 0 ((if (v_.length:Int) > (w_.length:Int)then (v_.length:Int)else (w_.length:Int))+1) 4) <|
 (ZqK big w_ v_ (0:Int) (if (v_.length:Int) > (w_.length:Int)then (v_.length:Int)else (w_.length:Int)) (0:Int) (List.replicate ((0:Int)).toNat (0:Int))).bind fun(x0,x1)=>ZsL x0 x1
def Zss (out:(List Int)):Option (List Int):=
 (ZnS out).bind fun q=>
 some q
def ZpR (rec_:(List Int)→(List Int)→Int→Int→Int→(List Int)→Option (List Int)) (w_:(List Int)) (v_:(List Int)) (borrow:Int) (t12:Int) (i:Int) (out:(List Int)):Option (List Int):=
 bif (decide (i < t12))then (
  (idx w_ i).bind fun w__e=>
  (Zpn v_ i).bind fun q=>
  (Zqh w__e q borrow).bind fun(q_1,borrow_1)=>
  chk (inR i (out.length:Int)) <|
  chk (inK .i64 (i+1)) <|
  rec_ w_ v_ borrow_1 t12 (i+1) (out.set ((i).toNat) q_1)
 )else (
  some out
 )
def Zqz:Nat→(List Int)→(List Int)→Int→Int→Int→(List Int)→Option (List Int)
 |0,_,_,_,_,_,_=>none
 |n_+1,w_,v_,borrow,t12,i,out=>ZpR (Zqz n_) w_ v_ borrow t12 i out
def ZtE (n:Nat) (s:((List Int)×(List Int)×Int×Int×Int×(List Int))):Option (List Int):=Zqz n s.1 s.2.1 s.2.2.1 s.2.2.2.1 s.2.2.2.2.1 s.2.2.2.2.2
def Zrv (rec_:((List Int)×(List Int)×Int×Int×Int×(List Int))→Option (List Int)) (s:((List Int)×(List Int)×Int×Int×Int×(List Int))):Option (List Int):=ZpR (fun w_ v_ borrow t12 i out=>rec_ (w_,v_,borrow,t12,i,out)) s.1 s.2.1 s.2.2.1 s.2.2.2.1 s.2.2.2.2.1 s.2.2.2.2.2
theorem Zvv:∀n s,ZtE (n+1) s=Zrv (ZtE n) s:=fun _ _=>rfl
def Zo6 (w_:(List Int)) (v_:(List Int)):Option (List Int):=
 chk (mkOk (w_.length:Int) (w_.length:Int) 4) <|
 (Zqz big w_ v_ (0:Int) (w_.length:Int) (0:Int) (List.replicate ((w_.length:Int)).toNat (0:Int))).bind fun x0=>Zss x0
def Zsu (a:ZnC) (b:ZnC):Option ZnC:=
 bif (a.Neg == b.Neg)then (
  (Zpr a.Words b.Words).bind fun q=>
  (ZnX a.Neg q).bind fun q_1=>
  some q_1
 )else (
  (Zn6 a.Words b.Words).bind fun q_2=>
  bif (decide (q_2≥0))then (
   (Zo6 a.Words b.Words).bind fun q_3=>
   (ZnX a.Neg q_3).bind fun q_4=>
   some q_4
  )else (
   (Zo6 b.Words a.Words).bind fun q_5=>
   (ZnX b.Neg q_5).bind fun q_6=>
   some q_6
  )
 )
def ZtU (t13:Bool) (a:ZnA) (b:ZnA):Option Int:=
 bif t13 then (
  some (0:Int)
 )else (
  (ZnK a.Num b.Den).bind fun q=>
  (ZnK b.Num a.Den).bind fun q_1=>
  (Zpo q_1).bind fun q_2=>
  (Zsu q q_2).bind fun d=>
  bif d.Neg then (
   some (-1:Int)
  )else (
   bif (decide ((d.Words.length:Int) > 0))then (
    some (1:Int)
   )else (
    some (0:Int)
   )
  )
 )
def Zuj (a:ZnA) (b:ZnA):Option Int:=
 (Zou a).bind fun q=>
 bif (!q)then (
  ZtU true a b
 )else (
  (Zou b).bind fun q_1=>
  ZtU (!q_1) a b
 )
def ZuK (a:ZnA):Option Int:=
 (ZtR).bind fun q=>
 (Zuj a q).bind fun q_1=>
 some q_1
def Zvj:Option (List (Int×Zom)):=
 some (setB (k:=(.int .i64)) (v:=(.st 4)) (car:=Zwu) (setB (k:=(.int .i64)) (v:=(.st 4)) (car:=Zwu) (setB (k:=(.int .i64)) (v:=(.st 4)) (car:=Zwu) (setB (k:=(.int .i64)) (v:=(.st 4)) (car:=Zwu) (setB (k:=(.int .i64)) (v:=(.st 4)) (car:=Zwu) ([]:(List (Int×Zom))) 1 (Zom.mk ([116,101,120,116]:Str) (none:Option Nat) (some 237:Option Nat))) 2 (Zom.mk ([98,111,111,108]:Str) (some 238:Option Nat) (some 239:Option Nat))) 3 (Zom.mk ([105,110,116,101,103,101,114]:Str) (some 240:Option Nat) (some 241:Option Nat))) 4 (Zom.mk ([100,101,99,105,109,97,108]:Str) (some 242:Option Nat) (some 241:Option Nat))) 5 (Zom.mk ([100,97,116,101]:Str) (some 243:Option Nat) (some 244:Option Nat)))
def Zv1 (s cs:Str):Option Str:=
 chk (cs.all fun b=>decide (b.toNat < 128)) <| chk (decide (cs.length < 4294967281)) <| some (Lib.trimS s cs)
def ZwV (s:Str):Option Str:=
 (Zv1 s ([32]:Str)).bind fun q=>
 some q
def Zpm (t4:Bool):Option Bool:=
 some t4
def ZoM (s:Str) (prefix_:Str):Option Bool:=
 bif (decide ((s.length:Int)≥(prefix_.length:Int)))then (
  chk (Zb9 0 (prefix_.length:Int) (s.length:Int)) <|
  Zpm ((s.take ((prefix_.length:Int)).toNat) == prefix_)
 )else (
  Zpm false
 )
def ZpY (s:Str) (prefix_:Str):Option (Str×Bool):=
 (ZoM s prefix_).bind fun q=>
 bif (!q)then (
  some (s,false)
 )else (
  chk (Zb9 (prefix_.length:Int) (s.length:Int) (s.length:Int)) <|
  some ((s.drop ((prefix_.length:Int)).toNat),true)
 )
def Zum (s:Str) (prefix_:Str):Option (Str×Bool):=
 (ZpY s prefix_).bind fun(after,found)=>
 some (after,found)
def ZpM (s:Str) (prefix_:Str):Option Str:=
 (ZoM s prefix_).bind fun q=>
 bif q then (
  chk (Zb9 (prefix_.length:Int) (s.length:Int) (s.length:Int)) <|
  some (s.drop ((prefix_.length:Int)).toNat)
 )else (
  some s
 )
def Zt3 (s:Str) (prefix_:Str):Option Str:=
 (ZpM s prefix_).bind fun q=>
 some q
def ZpX (s:Str) (c:Int):Option Int:=
 some (Lib.indexByte s c.toNat.toUInt8)
def Zqi (s:Str) (substr:Str) (n:Int) (t16:Bool):Option Int:=
 bif t16 then (
  some (0:Int)
 )else (
  bif (n == 1)then (
   (idx substr 0).bind fun c=>
   (ZpX s ((c.toNat:Nat):Int)).bind fun q=>
   some q
  )else (
   bif (decide (n≥(s.length:Int)))then (
    some (-1:Int)
   )else (
    none
   )
  )
 )
def Zrb (s:Str) (substr:Str):Option Int:=
 bif ((substr.length:Int) == 0)then (
  Zqi s substr (substr.length:Int) true
 )else (
  Zqi s substr (substr.length:Int) (substr == s)
 )
def ZrR (s:Str) (sep:Str):Option (Str×Str×Bool):=
 (Zrb s sep).bind fun i=>
 bif (decide (i≥0))then (
  chk (Zb9 0 i (s.length:Int)) <|
  chk (inK .i64 (i+(sep.length:Int))) <|
  chk (Zb9 (i+(sep.length:Int)) (s.length:Int) (s.length:Int)) <|
  some ((s.take (i).toNat),(s.drop ((i+(sep.length:Int))).toNat),true)
 )else (
  some (s,([]:Str),false)
 )
def Zvr (s:Str) (sep:Str):Option (Str×Str×Bool):=
 (ZrR s sep).bind fun(before,after,found)=>
 some (before,after,found)
def Zsz (t4:Bool):Option Bool:=
 some t4
def ZtS (s:Str) (most:Int):Option Bool:=
 bif (decide ((s.length:Int)≥1))then (
  bif (decide ((s.length:Int)≤most))then (
   (Zv1 s ([48,49,50,51,52,53,54,55,56,57]:Str)).bind fun q=>
   Zsz (q == ([]:Str))
  )else (
   Zsz false
  )
 )else (
  Zsz false
 )
def Zr4 (neg:Bool) (num:(List Int)) (den:(List Int)) (t2:Bool) (t2_1:Bool) (t2_2:(List Int)) (t2_3:(List Int)):Option (ZnA×Bool):=
 (ZnX neg num).bind fun q=>
 (ZnX false den).bind fun q_1=>
 (ZoH q q_1).bind fun q_2=>
 some (q_2,true)
def Zwf (rec_:Bool→(List Int)→(List Int)→(List Int)→Int→Int→Bool→Bool→(List Int)→(List Int)→Option (Bool×(List Int)×(List Int)×Bool×Bool×(List Int)×(List Int))) (neg:Bool) (num:(List Int)) (ten:(List Int)) (den:(List Int)) (t63:Int) (t64:Int) (t2:Bool) (t2_1:Bool) (t2_2:(List Int)) (t2_3:(List Int)):Option (Bool×(List Int)×(List Int)×Bool×Bool×(List Int)×(List Int)):=
 bif (decide (t64 < t63))then (
  (ZoB den ten).bind fun den_1=>
  chk (inK .i64 (t64+1)) <|
  rec_ neg num ten den_1 t63 (t64+1) t2 t2_1 t2_2 t2_3
 )else (
  some (neg,num,den,t2,t2_1,t2_2,t2_3)
 )
def ZtL:Nat→Bool→(List Int)→(List Int)→(List Int)→Int→Int→Bool→Bool→(List Int)→(List Int)→Option (Bool×(List Int)×(List Int)×Bool×Bool×(List Int)×(List Int))
 |0,_,_,_,_,_,_,_,_,_,_=>none
 |n_+1,neg,num,ten,den,t63,t64,t2,t2_1,t2_2,t2_3=>Zwf (ZtL n_) neg num ten den t63 t64 t2 t2_1 t2_2 t2_3
def Zu1 (neg:Bool) (back:Str) (num:(List Int)) (ten:(List Int)) (t2:Bool) (t2_1:Bool) (den:(List Int)) (t2_2:(List Int)) (t2_3:(List Int)):Option (ZnA×Bool):=
 (ZtL big neg num ten den (back.length:Int) (0:Int) t2 t2_1 t2_2 t2_3).bind fun(x0,x1,x2,x3,x4,x5,x6)=>Zr4 x0 x1 x2 x3 x4 x5 x6
def Zwg (rec_:Bool→Str→(List Int)→(List Int)→Int→Int→Bool→Bool→(List Int)→(List Int)→(List Int)→(List Int)→Option (Bool×Str×(List Int)×(List Int)×Bool×Bool×(List Int)×(List Int)×(List Int))) (neg:Bool) (back:Str) (num:(List Int)) (ten:(List Int)) (t48:Int) (t49:Int) (t2:Bool) (t2_1:Bool) (den:(List Int)) (t47:(List Int)) (t2_2:(List Int)) (t2_3:(List Int)):Option (Bool×Str×(List Int)×(List Int)×Bool×Bool×(List Int)×(List Int)×(List Int)):=
 bif (decide (t49 < t48))then (
  chk (inR t49 (t47.length:Int)) <|
  (t47[(t49).toNat]?).bind fun d=>
  (ZoB num ten).bind fun q=>
  (ZpU (IntKind.wrap .u64 (IntKind.wrap .u8 (d - 48)))).bind fun q_1=>
  (Zpr q q_1).bind fun num_1=>
  chk (inK .i64 (t49+1)) <|
  rec_ neg back num_1 ten t48 (t49+1) t2 t2_1 den t47 t2_2 t2_3
 )else (
  some (neg,back,num,ten,t2,t2_1,den,t2_2,t2_3)
 )
def ZtM:Nat→Bool→Str→(List Int)→(List Int)→Int→Int→Bool→Bool→(List Int)→(List Int)→(List Int)→(List Int)→Option (Bool×Str×(List Int)×(List Int)×Bool×Bool×(List Int)×(List Int)×(List Int))
 |0,_,_,_,_,_,_,_,_,_,_,_,_=>none
 |n_+1,neg,back,num,ten,t48,t49,t2,t2_1,den,t47,t2_2,t2_3=>Zwg (ZtM n_) neg back num ten t48 t49 t2 t2_1 den t47 t2_2 t2_3
def Zr5 (neg:Bool) (front:Str) (back:Str) (t39:Bool) (t2:Bool) (t2_1:Bool) (t2_2:(List Int)) (t2_3:(List Int)):Option (ZnA×Bool):=
 bif t39 then (
  some ((ZnA.mk (ZnC.mk false ([]:(List Int))) (ZnC.mk false ([]:(List Int)))),false)
 )else (
  (Zn3 ([1]:List Int)).bind fun den=>
  chk (decide (front.length+back.length≤Zq)) <|
  chk (decide ((front++back).length≤281474976710656)) <|
  (ZtM big neg back ([]:(List Int)) ([10]:(List Int)) (((front++back).map fun b=>((b.toNat:Nat):Int)).length:Int) (0:Int) t2 t2_1 den ((front++back).map fun b=>((b.toNat:Nat):Int)) t2_2 t2_3).bind fun(x0,x1,x2,x3,x4,x5,x6,x7,x8)=>Zu1 x0 x1 x2 x3 x4 x5 x6 x7 x8
 )
def ZtN (body:Str) (neg:Bool) (t2:Bool) (t2_1:Bool) (t2_2:(List Int)) (t2_3:(List Int)):Option (ZnA×Bool):=
 (Zvr body ([46]:Str)).bind fun(front,back,point)=>
 (ZtS front 15).bind fun q=>
 bif (!q)then (
  Zr5 neg front back true t2 t2_1 t2_2 t2_3
 )else (
  bif point then (
   (ZtS back 9).bind fun q_1=>
   Zr5 neg front back (!q_1) t2 t2_1 t2_2 t2_3
  )else (
   Zr5 neg front back false t2 t2_1 t2_2 t2_3
  )
 )
def ZqM (text:Str):Option (ZnA×Bool):=
 (Zum text ([45]:Str)).bind fun(body,neg)=>
 bif (!neg)then (
  (Zt3 text ([43]:Str)).bind fun body_1=>
  ZtN body_1 neg false false ([]:(List Int)) ([]:(List Int))
 )else (
  ZtN body neg false false ([]:(List Int)) ([]:(List Int))
 )
def Zuu (s cs:Str):Option Str:=
 chk (cs.all fun b=>decide (b.toNat < 128)) <| chk (decide (cs.length < 4294967281)) <| some (Lib.trimLeftS s cs)
def ZvG (s cs:Str):Option Str:=
 chk (cs.all fun b=>decide (b.toNat < 128)) <| chk (decide (cs.length < 4294967281)) <| some (Lib.trimRightS s cs)
def ZvV (zero:Str):Option Str:=
 some zero
def ZwN (rec_:Str→(List Str)→Int→Int→Option (Out Str Str)) (zero:Str) (t6:(List Str)) (t7:Int) (t8:Int):Option (Out Str Str):=
 bif (decide (t8 < t7))then (
  (idx t6 t8).bind fun val=>
  bif (!(val == zero))then (
   some (.ret val)
  )else (
   chk (inK .i64 (t8+1)) <|
   rec_ zero t6 t7 (t8+1)
  )
 )else (
  some (.brk zero)
 )
def ZuB:Nat→Str→(List Str)→Int→Int→Option (Out Str Str)
 |0,_,_,_,_=>none
 |n_+1,zero,t6,t7,t8=>ZwN (ZuB n_) zero t6 t7 t8
def ZvM (vals:(List Str)):Option Str:=
 (ZuB big ([]:Str) vals (vals.length:Int) (0:Int)).bind fun
  | .ret q_=>some q_
  | .brk x0=>ZvV x0
def Zur (out:Str):Option (Str×Bool):=
 some (out,true)
def Zus (out:Str) (t43:Bool):Option (Str×Bool):=
 bif t43 then (
  chk (decide (([45]:Str).length+out.length≤Zq)) <|
  Zur (([45]:Str)++out)
 )else (
  Zur out
 )
def Zut (t:Str) (out:Str):Option (Str×Bool):=
 (idx t 0).bind fun c=>
 bif (((c.toNat:Nat):Int) == 45)then (
  Zus out (!(out == ([48]:Str)))
 )else (
  Zus out false
 )
def Ztt (t:Str):Option (Str×Bool):=
 (ZqM t).bind fun(q,ok)=>
 bif (!ok)then (
  some (([]:Str),false)
 )else (
  (Zuu t ([43,45]:Str)).bind fun q_1=>
  (Zvr q_1 ([46]:Str)).bind fun(front,back,q_2)=>
  (Zuu front ([48]:Str)).bind fun front_1=>
  (ZvG back ([48]:Str)).bind fun back_1=>
  (ZvM ([front_1,([48]:Str)]:(List Str))).bind fun out=>
  bif (!(back_1 == ([]:Str)))then (
   chk (decide (([46]:Str).length+back_1.length≤Zq)) <|
   chk (decide (out.length+(([46]:Str)++back_1).length≤Zq)) <|
   Zut t (out++(([46]:Str)++back_1))
  )else (
   Zut t out
  )
 )
def ZsD (n:Int) (s:Str):Option (Str×Bool):=
 (Zvj).bind fun q=>
 bif (!(Zg3 (k:=(.int .i64)) (v:=(.st 4)) (car:=Zwu) q n).isSome)then (
  some (([]:Str),false)
 )else (
  bif (Option.isNone (((Zg3 (k:=(.int .i64)) (v:=(.st 4)) (car:=Zwu) q n).getD (Zom.mk ([]:Str) (none:Option Nat) (none:Option Nat))).canonical))then (
   some (s,true)
  )else (
   (ZwV s).bind fun q_1=>
   chk (decide (((Zg3 (k:=(.int .i64)) (v:=(.st 4)) (car:=Zwu) q n).getD (Zom.mk ([]:Str) (none:Option Nat) (none:Option Nat))).canonical=some 242)) <|
   (Ztt q_1).bind fun(q_2,q_3)=>
   some (q_2,q_3)
  )
 )
def Zvk (n:Int) (s:Str):Option (ZnA×Bool):=
 (ZsD n s).bind fun(t,ok)=>
 bif (!ok)then (
  some ((ZnA.mk (ZnC.mk false ([]:(List Int))) (ZnC.mk false ([]:(List Int)))),false)
 )else (
  (Zvj).bind fun q=>
  chk (decide (((Zg3 (k:=(.int .i64)) (v:=(.st 4)) (car:=Zwu) q n).getD (Zom.mk ([]:Str) (none:Option Nat) (none:Option Nat))).value=some 241)) <|
  (ZqM t).bind fun(q_1,q_2)=>
  some (q_1,q_2)
 )
def ZpL (c:ZnB):Option (ZnA×Bool):=
 bif c.Null then (
  (ZtR).bind fun q=>
  some (q,false)
 )else (
  (Zvk 4 c.Text).bind fun(q_1,q_2)=>
  some (q_1,q_2)
 )
def Ztz (full:Int) (n:Int) (t2:Bool) (t2_1:Bool) (t2_2:(List Int)) (t2_3:(List Int)):Option ZnA:=
 (ZuP n (if (1:Int) > full then (1:Int)else full)).bind fun q=>
 some q
def ZqD (rec_:Int→Int→(List ZnB)→Int→Int→Bool→Bool→(List Int)→(List Int)→Option (Int×Int×Bool×Bool×(List Int)×(List Int))) (full:Int) (n:Int) (t10:(List ZnB)) (t11:Int) (t12:Int) (t2:Bool) (t2_1:Bool) (t2_2:(List Int)) (t2_3:(List Int)):Option (Int×Int×Bool×Bool×(List Int)×(List Int)):=
 chk (inK .i64 (t12+1)) <|
 rec_ full n t10 t11 (t12+1) t2 t2_1 t2_2 t2_3
def Zra (rec_:Int→Int→(List ZnB)→Int→Int→Bool→Bool→(List Int)→(List Int)→Option (Int×Int×Bool×Bool×(List Int)×(List Int))) (full:Int) (n:Int) (t10:(List ZnB)) (t11:Int) (t12:Int) (t2:Bool) (t2_1:Bool) (t2_2:(List Int)) (t2_3:(List Int)):Option (Int×Int×Bool×Bool×(List Int)×(List Int)):=
 bif (decide (t12 < t11))then (
  (idx t10 t12).bind fun x_=>
  bif x_.Null then (
   ZqD rec_ full n t10 t11 t12 t2 t2_1 t2_2 t2_3
  )else (
   chk (inK .i64 (full+1)) <|
   (ZpL x_).bind fun(q,ok)=>
   bif ok then (
    chk (inK .i64 (n+1)) <|
    ZqD rec_ (full+1) (n+1) t10 t11 t12 t2 t2_1 t2_2 t2_3
   )else (
    ZqD rec_ (full+1) n t10 t11 t12 t2 t2_1 t2_2 t2_3
   )
  )
 )else (
  some (full,n,t2,t2_1,t2_2,t2_3)
 )
def ZqC:Nat→Int→Int→(List ZnB)→Int→Int→Bool→Bool→(List Int)→(List Int)→Option (Int×Int×Bool×Bool×(List Int)×(List Int))
 |0,_,_,_,_,_,_,_,_,_=>none
 |n_+1,full,n,t10,t11,t12,t2,t2_1,t2_2,t2_3=>Zra (ZqC n_) full n t10 t11 t12 t2 t2_1 t2_2 t2_3
def Zuv (n:Nat) (s:(Int×Int×(List ZnB)×Int×Int×Bool×Bool×(List Int)×(List Int))):Option (Int×Int×Bool×Bool×(List Int)×(List Int)):=ZqC n s.1 s.2.1 s.2.2.1 s.2.2.2.1 s.2.2.2.2.1 s.2.2.2.2.2.1 s.2.2.2.2.2.2.1 s.2.2.2.2.2.2.2.1 s.2.2.2.2.2.2.2.2
def ZsY (rec_:(Int×Int×(List ZnB)×Int×Int×Bool×Bool×(List Int)×(List Int))→Option (Int×Int×Bool×Bool×(List Int)×(List Int))) (s:(Int×Int×(List ZnB)×Int×Int×Bool×Bool×(List Int)×(List Int))):Option (Int×Int×Bool×Bool×(List Int)×(List Int)):=Zra (fun full n t10 t11 t12 t2 t2_1 t2_2 t2_3=>rec_ (full,n,t10,t11,t12,t2,t2_1,t2_2,t2_3)) s.1 s.2.1 s.2.2.1 s.2.2.2.1 s.2.2.2.2.1 s.2.2.2.2.2.1 s.2.2.2.2.2.2.1 s.2.2.2.2.2.2.2.1 s.2.2.2.2.2.2.2.2
theorem Zv5:∀n s,Zuv (n+1) s=ZsY (Zuv n) s:=fun _ _=>rfl
def Zuw (c:ZnE):Option ZnA:=
 (ZqC big (0:Int) (0:Int) c.Cells (c.Cells.length:Int) (0:Int) false false ([]:(List Int)) ([]:(List Int))).bind fun(x0,x1,x2,x3,x4,x5)=>Ztz x0 x1 x2 x3 x4 x5
def Zn8 (c:ZnE):Option ZnA:=ZxI (Zuw c)
def Zuz (a:ZnA) (b:ZnA):Option (ZnC×ZnC):=
 (ZnK a.Num b.Den).bind fun q=>
 (ZnK b.Num a.Den).bind fun q_1=>
 (Zsu q q_1).bind fun num=>
 (ZnK a.Den b.Den).bind fun den=>
 some (num,den)
def Zo4 (t18:Bool) (a:ZnA) (b:ZnA) (t6:Bool) (t6_1:Bool) (t6_2:(List Int)) (t6_3:(List Int)):Option (ZnA×Int):=
 bif t18 then (
  some ((ZnA.mk (ZnC.mk false ([]:(List Int))) (ZnC.mk false ([]:(List Int)))),1)
 )else (
  (Zuz a b).bind fun(num,den)=>
  bif ((den.Words.length:Int) == 0)then (
   some ((ZnA.mk (ZnC.mk false ([]:(List Int))) (ZnC.mk false ([]:(List Int)))),8)
  )else (
   (ZoH num den).bind fun f=>
   bif (decide ((if (f.Den.Words.length:Int) > (f.Num.Words.length:Int)then (f.Den.Words.length:Int)else (f.Num.Words.length:Int)) > 256))then (
    some ((ZnA.mk (ZnC.mk false ([]:(List Int))) (ZnC.mk false ([]:(List Int)))),3)
   )else (
    some (f,0)
   )
  )
 )
def Zoq (a:ZnA) (b:ZnA):Option (ZnA×Int):=
 (Zou a).bind fun q=>
 bif (!q)then (
  Zo4 true a b false false ([]:(List Int)) ([]:(List Int))
 )else (
  (Zou b).bind fun q_1=>
  Zo4 (!q_1) a b false false ([]:(List Int)) ([]:(List Int))
 )
def Zuh (a:ZnA) (b:ZnA):Option (ZnA×Int):=
 (Zou b).bind fun q=>
 bif (!q)then (
  some ((ZnA.mk (ZnC.mk false ([]:(List Int))) (ZnC.mk false ([]:(List Int)))),1)
 )else (
  (Zpo b.Num).bind fun q_1=>
  (Zoq a (ZnA.mk q_1 b.Den)).bind fun(q_2,q_3)=>
  some (q_2,q_3)
 )
def ZtA (f:ZnA) (a1:Int):Option ZnA:=
 some f
def ZvH (a:ZnA) (b:ZnA):Option ZnA:=
 (Zuh a b).bind fun(q,q_1)=>
 (ZtA q q_1).bind fun q_2=>
 some q_2
def Ztb (a:ZnA) (b:ZnA):Option (ZnA×Int):=
 (Zoq a b).bind fun(q,q_1)=>
 some (q,q_1)
def ZvI (a:ZnA) (b:ZnA):Option ZnA:=
 (Ztb a b).bind fun(q,q_1)=>
 (ZtA q q_1).bind fun q_2=>
 some q_2
def ZuA (a:ZnA) (b:ZnA):Option (ZnC×ZnC):=
 (ZnK a.Num b.Den).bind fun num=>
 (ZnK a.Den b.Num).bind fun den=>
 some (num,den)
def ZoN (t18:Bool) (a:ZnA) (b:ZnA) (t6:Bool) (t6_1:Bool) (t6_2:(List Int)) (t6_3:(List Int)):Option (ZnA×Int):=
 bif t18 then (
  some ((ZnA.mk (ZnC.mk false ([]:(List Int))) (ZnC.mk false ([]:(List Int)))),1)
 )else (
  (ZuA a b).bind fun(num,den)=>
  bif ((den.Words.length:Int) == 0)then (
   some ((ZnA.mk (ZnC.mk false ([]:(List Int))) (ZnC.mk false ([]:(List Int)))),8)
  )else (
   (ZoH num den).bind fun f=>
   bif (decide ((if (f.Den.Words.length:Int) > (f.Num.Words.length:Int)then (f.Den.Words.length:Int)else (f.Num.Words.length:Int)) > 256))then (
    some ((ZnA.mk (ZnC.mk false ([]:(List Int))) (ZnC.mk false ([]:(List Int)))),3)
   )else (
    some (f,0)
   )
  )
 )
def Zpk (a:ZnA) (b:ZnA):Option (ZnA×Int):=
 (Zou a).bind fun q=>
 bif (!q)then (
  ZoN true a b false false ([]:(List Int)) ([]:(List Int))
 )else (
  (Zou b).bind fun q_1=>
  ZoN (!q_1) a b false false ([]:(List Int)) ([]:(List Int))
 )
def Zui (a:ZnA) (b:ZnA):Option (ZnA×Int):=
 (Zpk a b).bind fun(q,q_1)=>
 some (q,q_1)
def ZwA (a:ZnA) (b:ZnA):Option ZnA:=
 (Zui a b).bind fun(q,q_1)=>
 (ZtA q q_1).bind fun q_2=>
 some q_2
def ZrZ (t4:Bool) (t4_1:Bool) (values:ZnA) (Zky:ZnA) (apart:ZnA) (t4_2:(List Int)) (t4_3:(List Int)):Option ZnA:=
 (ZvI values values).bind fun q=>
 (ZvI q Zky).bind fun q_1=>
 (ZuP 1 1).bind fun q_2=>
 (ZvH q_2 apart).bind fun q_3=>
 (ZvI q_1 q_3).bind fun sum=>
 (ZuP 4 1).bind fun q_4=>
 (ZwA sum q_4).bind fun q_5=>
 some q_5
def ZqJ (t24:Bool) (a:ZnE) (b:ZnE) (t4:Bool) (t4_1:Bool) (values:ZnA) (Zky:ZnA) (t4_2:(List Int)) (t4_3:(List Int)):Option ZnA:=
 bif t24 then (
  (ZtR).bind fun q=>
  some q
 )else (
  (Zn8 a).bind fun q_1=>
  (Zn8 b).bind fun q_2=>
  (ZvH q_1 q_2).bind fun apart=>
  (ZuK apart).bind fun q_3=>
  bif (decide (q_3 < 0))then (
   (ZtR).bind fun q_4=>
   (ZvH q_4 apart).bind fun apart_1=>
   ZrZ t4 t4_1 values Zky apart_1 t4_2 t4_3
  )else (
   ZrZ t4 t4_1 values Zky apart t4_2 t4_3
  )
 )
def ZqE (a:ZnE) (b:ZnE):Option ZnA:=
 (Zpl a b).bind fun values=>
 (Zr0 a.Name b.Name).bind fun Zky=>
 (ZuK values).bind fun q=>
 bif (q == 0)then (
  (ZuK Zky).bind fun q_1=>
  ZqJ (q_1 == 0) a b false false values Zky ([]:(List Int)) ([]:(List Int))
 )else (
  ZqJ false a b false false values Zky ([]:(List Int)) ([]:(List Int))
 )
def ZtZ (w_:(List Int)):Option (List Int):=
 some w_
def ZrN (rec_:(List Int)→Option (List Int)) (w_:(List Int)) (t14:Bool):Option (List Int):=
 bif t14 then (
  chk (inK .i64 ((w_.length:Int) - 1)) <|
  chk (Zb9 0 ((w_.length:Int) - 1) (w_.length:Int)) <|
  rec_ (w_.take (((w_.length:Int) - 1)).toNat)
 )else (
  some w_
 )
def Ztm (rec_:(List Int)→Option (List Int)) (w_:(List Int)):Option (List Int):=
 bif (decide ((w_.length:Int) > 0))then (
  chk (inK .i64 ((w_.length:Int) - 1)) <|
  (idx w_ ((w_.length:Int) - 1)).bind fun w__e=>
  ZrN rec_ w_ (w__e == 0)
 )else (
  ZrN rec_ w_ false
 )
def Zob:Nat→(List Int)→Option (List Int)
 |0,_=>none
 |n_+1,w_=>Ztm (Zob n_) w_
def ZnR (w_:(List Int)):Option (List Int):=
 (Zob big w_).bind fun x0=>ZtZ x0
def Zqw (t4:ZnC):Option ZnC:=
 some t4
def ZnO (neg:Bool) (w_:(List Int)):Option ZnC:=
 (ZnR w_).bind fun w__1=>
 bif neg then (
  Zqw (ZnC.mk (decide ((w__1.length:Int) > 0)) w__1)
 )else (
  Zqw (ZnC.mk false w__1)
 )
def Zpg (n:Int) (u:Int) (t2:Bool) (t2_1:(List Int)):Option ZnC:=
 chk (decide (0≤(32:Int))) <|
 (ZnO (decide (n < 0)) ([(IntKind.wrap .u32 u),(IntKind.wrap .u32 (shrK .u64 u 32))]:(List Int))).bind fun q=>
 some q
def ZnM (n:Int):Option ZnC:=
 bif (decide (n < 0))then (
  Zpg n (IntKind.wrap .u64 (0 - (IntKind.wrap .u64 n))) false ([]:(List Int))
 )else (
  Zpg n (IntKind.wrap .u64 n) false ([]:(List Int))
 )
def ZnU (t2:Bool):Option Bool:=
 some t2
def ZoR (a:ZnC):Option Bool:=
 bif (decide ((a.Words.length:Int)≤256))then (
  bif ((a.Words.length:Int) == 0)then (
   bif (!a.Neg)then (
    ZnU true
   )else (
    bif (decide ((a.Words.length:Int) > 0))then (
     chk (inK .i64 ((a.Words.length:Int) - 1)) <|
     (idx a.Words ((a.Words.length:Int) - 1)).bind fun Word=>
     ZnU (Word != 0)
    )else (
     ZnU false
    )
   )
  )else (
   bif (decide ((a.Words.length:Int) > 0))then (
    chk (inK .i64 ((a.Words.length:Int) - 1)) <|
    (idx a.Words ((a.Words.length:Int) - 1)).bind fun Word_1=>
    ZnU (Word_1 != 0)
   )else (
    ZnU false
   )
  )
 )else (
  ZnU false
 )
def ZrO (out:(List Int)):Option (List Int):=
 (ZnR out).bind fun q=>
 some q
def Zo1 (rec_:(List Int)→Int→Int→(List Int)→Option (List Int)) (a:(List Int)) (t9:Int) (i:Int) (out:(List Int)):Option (List Int):=
 chk (inK .i64 (i+1)) <|
 rec_ a t9 (i+1) out
def Zpw (rec_:(List Int)→Int→Int→(List Int)→Option (List Int)) (a:(List Int)) (t9:Int) (i:Int) (out:(List Int)):Option (List Int):=
 bif (decide (i < t9))then (
  chk (inR i (out.length:Int)) <|
  (out[(i).toNat]?).bind fun out_e=>
  chk (decide (0≤(1:Int))) <|
  chk (inR i (out.length:Int)) <|
  chk (inK .i64 (i+1)) <|
  bif (decide ((i+1) < (a.length:Int)))then (
   chk (inR i ((out.set ((i).toNat) (shrK .u32 out_e 1)).length:Int)) <|
   ((out.set ((i).toNat) (shrK .u32 out_e 1))[(i).toNat]?).bind fun e_e=>
   chk (inK .i64 (i+1)) <|
   (idx a (i+1)).bind fun a_e=>
   chk (decide (0≤(31:Int))) <|
   chk (inR i ((out.set ((i).toNat) (shrK .u32 out_e 1)).length:Int)) <|
   Zo1 rec_ a t9 i ((out.set ((i).toNat) (shrK .u32 out_e 1)).set ((i).toNat) (orK .u32 e_e (shlK .u32 a_e 31)))
  )else (
   Zo1 rec_ a t9 i (out.set ((i).toNat) (shrK .u32 out_e 1))
  )
 )else (
  some out
 )
def Zo0:Nat→(List Int)→Int→Int→(List Int)→Option (List Int)
 |0,_,_,_,_=>none
 |n_+1,a,t9,i,out=>Zpw (Zo0 n_) a t9 i out
def Ztn (n:Nat) (s:((List Int)×Int×Int×(List Int))):Option (List Int):=Zo0 n s.1 s.2.1 s.2.2.1 s.2.2.2
def Zq8 (rec_:((List Int)×Int×Int×(List Int))→Option (List Int)) (s:((List Int)×Int×Int×(List Int))):Option (List Int):=Zpw (fun a t9 i out=>rec_ (a,t9,i,out)) s.1 s.2.1 s.2.2.1 s.2.2.2
theorem Zu6:∀n s,Ztn (n+1) s=Zq8 (Ztn n) s:=fun _ _=>rfl
def Zoe (a:(List Int)):Option (List Int):=
 chk (ZiZ (([]:(List Int)).length+a.length) 4) <|
 (Zo0 big a ((([]:(List Int))++a).length:Int) (0:Int) (([]:(List Int))++a)).bind fun x0=>ZrO x0
def Zsl:Option Int:=
 some (0:Int)
def ZpD (rec_:(List Int)→(List Int)→Int→Option (Out Unit Int)) (a:(List Int)) (b:(List Int)) (i:Int):Option (Out Unit Int):=
 bif (decide (i≥0))then (
  (idx a i).bind fun a_e=>
  (idx b i).bind fun b_e=>
  bif (decide (a_e < b_e))then (
   some (.ret (-1:Int))
  )else (
   (idx a i).bind fun a_e_1=>
   (idx b i).bind fun b_e_1=>
   bif (decide (a_e_1 > b_e_1))then (
    some (.ret (1:Int))
   )else (
    chk (inK .i64 (i - 1)) <|
    rec_ a b (i - 1)
   )
  )
 )else (
  some (.brk ())
 )
def Zqv:Nat→(List Int)→(List Int)→Int→Option (Out Unit Int)
 |0,_,_,_=>none
 |n_+1,a,b,i=>ZpD (Zqv n_) a b i
def Ztw (n:Nat) (s:((List Int)×(List Int)×Int)):Option (Out Unit Int):=Zqv n s.1 s.2.1 s.2.2
def Zrm (rec_:((List Int)×(List Int)×Int)→Option (Out Unit Int)) (s:((List Int)×(List Int)×Int)):Option (Out Unit Int):=ZpD (fun a b i=>rec_ (a,b,i)) s.1 s.2.1 s.2.2
theorem Zvq:∀n s,Ztw (n+1) s=Zrm (Ztw n) s:=fun _ _=>rfl
def ZoA (a:(List Int)) (b:(List Int)):Option Int:=
 bif ((a.length:Int) != (b.length:Int))then (
  bif (decide ((a.length:Int) < (b.length:Int)))then (
   some (-1:Int)
  )else (
   some (1:Int)
  )
 )else (
  chk (inK .i64 ((a.length:Int) - 1)) <|
  (Zqv big a b ((a.length:Int) - 1)).bind fun
   | .ret q_=>some q_
   | .brk ()=>Zsl
 )
def Zsd (out:(List Int)):Option (List Int):=
 (ZnR out).bind fun q=>
 some q
def Zo9 (rec_:(List Int)→(List Int)→Int→Int→(List Int)→Option (List Int)) (a:(List Int)) (b:(List Int)) (c:Int) (i:Int) (out:(List Int)):Option (List Int):=
 chk (ZiZ (out.length+([(IntKind.wrap .u32 c)]:(List Int)).length) 4) <|
 chk (decide (0≤(32:Int))) <|
 chk (inK .i64 (i+1)) <|
 rec_ a b (shrK .i64 c 32) (i+1) (out++([(IntKind.wrap .u32 c)]:(List Int)))
def ZpB (rec_:(List Int)→(List Int)→Int→Int→(List Int)→Option (List Int)) (a:(List Int)) (b:(List Int)) (c:Int) (i:Int) (out:(List Int)):Option (List Int):=
 bif (decide (i < (a.length:Int)))then (
  (idx a i).bind fun a_e=>
  chk (inK .i64 (c+(IntKind.wrap .i64 a_e))) <|
  bif (decide (i < (b.length:Int)))then (
   (idx b i).bind fun b_e=>
   chk (inK .i64 ((c+(IntKind.wrap .i64 a_e)) - (IntKind.wrap .i64 b_e))) <|
   Zo9 rec_ a b ((c+(IntKind.wrap .i64 a_e)) - (IntKind.wrap .i64 b_e)) i out
  )else (
   Zo9 rec_ a b (c+(IntKind.wrap .i64 a_e)) i out
  )
 )else (
  some out
 )
def Zo8:Nat→(List Int)→(List Int)→Int→Int→(List Int)→Option (List Int)
 |0,_,_,_,_,_=>none
 |n_+1,a,b,c,i,out=>ZpB (Zo8 n_) a b c i out
def Ztu (n:Nat) (s:((List Int)×(List Int)×Int×Int×(List Int))):Option (List Int):=Zo8 n s.1 s.2.1 s.2.2.1 s.2.2.2.1 s.2.2.2.2
def Zri (rec_:((List Int)×(List Int)×Int×Int×(List Int))→Option (List Int)) (s:((List Int)×(List Int)×Int×Int×(List Int))):Option (List Int):=ZpB (fun a b c i out=>rec_ (a,b,c,i,out)) s.1 s.2.1 s.2.2.1 s.2.2.2.1 s.2.2.2.2
theorem Zvo:∀n s,Ztu (n+1) s=Zri (Ztu n) s:=fun _ _=>rfl
def Zok (a:(List Int)) (b:(List Int)):Option (List Int):=
 (Zo8 big a b (0:Int) (0:Int) ([]:(List Int))).bind fun x0=>Zsd x0
def Zrh (d:Int) (out:(List Int)):Option (List Int):=
 chk (ZiZ (out.length+([d]:(List Int)).length) 4) <|
 (ZnR (out++([d]:(List Int)))).bind fun q=>
 some q
def Zpf (rec_:(List Int)→Int→Int→(List Int)→Option (Int×(List Int))) (a:(List Int)) (d:Int) (i:Int) (out:(List Int)):Option (Int×(List Int)):=
 bif (decide (i < (a.length:Int)))then (
  (idx a i).bind fun a_e=>
  chk (decide (0≤(1:Int))) <|
  chk (ZiZ (out.length+([(orK .u32 (shlK .u32 a_e 1) d)]:(List Int)).length) 4) <|
  (idx a i).bind fun a_e_1=>
  chk (decide (0≤(31:Int))) <|
  chk (inK .i64 (i+1)) <|
  rec_ a (shrK .u32 a_e_1 31) (i+1) (out++([(orK .u32 (shlK .u32 a_e 1) d)]:(List Int)))
 )else (
  some (d,out)
 )
def ZpA:Nat→(List Int)→Int→Int→(List Int)→Option (Int×(List Int))
 |0,_,_,_,_=>none
 |n_+1,a,d,i,out=>Zpf (ZpA n_) a d i out
def Zs4 (n:Nat) (s:((List Int)×Int×Int×(List Int))):Option (Int×(List Int)):=ZpA n s.1 s.2.1 s.2.2.1 s.2.2.2
def ZqO (rec_:((List Int)×Int×Int×(List Int))→Option (Int×(List Int))) (s:((List Int)×Int×Int×(List Int))):Option (Int×(List Int)):=Zpf (fun a d i out=>rec_ (a,d,i,out)) s.1 s.2.1 s.2.2.1 s.2.2.2
theorem ZuU:∀n s,Zs4 (n+1) s=ZqO (Zs4 n) s:=fun _ _=>rfl
def ZoK (a:(List Int)) (d:Int):Option (List Int):=
 (ZpA big a d (0:Int) ([]:(List Int))).bind fun(x0,x1)=>Zrh x0 x1
def Zsf (a:(List Int)):Option (List Int):=
 some a
def ZoO (rec_:(List Int)→Int→Option (List Int)) (a:(List Int)) (k:Int):Option (List Int):=
 bif (decide (k > 0))then (
  (ZoK a 0).bind fun a_1=>
  chk (inK .i64 (k - 1)) <|
  rec_ a_1 (k - 1)
 )else (
  some a
 )
def Zox:Nat→(List Int)→Int→Option (List Int)
 |0,_,_=>none
 |n_+1,a,k=>ZoO (Zox n_) a k
def Zsg (a:(List Int)) (k:Int):Option (List Int):=
 (Zox big a k).bind fun x0=>Zsf x0
def Zqt (rec_:(List Int)→(List Int)→Int→Option ((List Int)×Int)) (a:(List Int)) (b:(List Int)) (k:Int):Option ((List Int)×Int):=
 (Zok b a).bind fun b_1=>
 rec_ a b_1 k
def Zsh (rec_:(List Int)→(List Int)→Int→Option ((List Int)×Int)) (a:(List Int)) (b:(List Int)) (k:Int):Option ((List Int)×Int):=
 (ZoA a b).bind fun q=>
 bif (decide (q > 0))then (
  Zqt rec_ b a k
 )else (
  Zqt rec_ a b k
 )
def Zrj (rec_:(List Int)→(List Int)→Int→Option ((List Int)×(List Int)×Int)) (a:(List Int)) (b:(List Int)) (k:Int):Option ((List Int)×(List Int)×Int):=
 (idx b 0).bind fun b_e=>
 bif ((andK .u32 b_e 1) == 0)then (
  (Zoe b).bind fun b_1=>
  rec_ a b_1 k
 )else (
  some (a,b,k)
 )
def Zn1:Nat→(List Int)→(List Int)→Int→Option ((List Int)×(List Int)×Int)
 |0,_,_,_=>none
 |n_+1,a,b,k=>Zrj (Zn1 n_) a b k
def Zsi (rec_:(List Int)→(List Int)→Int→Option ((List Int)×Int)) (a:(List Int)) (b:(List Int)) (k:Int):Option ((List Int)×Int):=
 (Zn1 big a b k).bind fun(x0,x1,x2)=>Zsh rec_ x0 x1 x2
def ZoP (rec_:(List Int)→(List Int)→Int→Option ((List Int)×(List Int)×Int)) (a:(List Int)) (b:(List Int)) (k:Int):Option ((List Int)×(List Int)×Int):=
 (idx a 0).bind fun a_e=>
 bif ((andK .u32 a_e 1) == 0)then (
  (Zoe a).bind fun a_1=>
  rec_ a_1 b k
 )else (
  some (a,b,k)
 )
def Zn2:Nat→(List Int)→(List Int)→Int→Option ((List Int)×(List Int)×Int)
 |0,_,_,_=>none
 |n_+1,a,b,k=>ZoP (Zn2 n_) a b k
def ZoQ (rec_:(List Int)→(List Int)→Int→Option ((List Int)×Int)) (a:(List Int)) (b:(List Int)) (k:Int):Option ((List Int)×Int):=
 bif (decide ((b.length:Int) > 0))then (
  (Zn2 big a b k).bind fun(x0,x1,x2)=>Zsi rec_ x0 x1 x2
 )else (
  some (a,k)
 )
def ZnP:Nat→(List Int)→(List Int)→Int→Option ((List Int)×Int)
 |0,_,_,_=>none
 |n_+1,a,b,k=>ZoQ (ZnP n_) a b k
def Zsj (a:(List Int)) (b:(List Int)) (k:Int):Option (List Int):=
 (ZnP big a b k).bind fun(x0,x1)=>Zsg x0 x1
def Zqu (rec_:(List Int)→(List Int)→Int→Option ((List Int)×(List Int)×Int)) (a:(List Int)) (b:(List Int)) (k:Int) (t17:Bool):Option ((List Int)×(List Int)×Int):=
 bif t17 then (
  (Zoe a).bind fun a_1=>
  (Zoe b).bind fun b_1=>
  chk (inK .i64 (k+1)) <|
  rec_ a_1 b_1 (k+1)
 )else (
  some (a,b,k)
 )
def Zrk (rec_:(List Int)→(List Int)→Int→Option ((List Int)×(List Int)×Int)) (a:(List Int)) (b:(List Int)) (k:Int):Option ((List Int)×(List Int)×Int):=
 (idx a 0).bind fun a_e=>
 bif ((andK .u32 a_e 1) == 0)then (
  (idx b 0).bind fun b_e=>
  Zqu rec_ a b k ((andK .u32 b_e 1) == 0)
 )else (
  Zqu rec_ a b k false
 )
def Zoy:Nat→(List Int)→(List Int)→Int→Option ((List Int)×(List Int)×Int)
 |0,_,_,_=>none
 |n_+1,a,b,k=>Zrk (Zoy n_) a b k
def Zp9 (a:(List Int)) (b:(List Int)):Option (List Int):=
 (Zoy big a b (0:Int)).bind fun(x0,x1,x2)=>Zsj x0 x1 x2
def Zqa (a:(List Int)) (i:Int):Option Int:=
 chk (decide ((32:Int)≠0)) <|
 chk (inK .i64 (Int.tdiv i 32)) <|
 (idx a (Int.tdiv i 32)).bind fun a_e=>
 chk (decide ((32:Int)≠0)) <|
 chk (decide (0≤(IntKind.wrap .u64 (Int.tmod i 32)))) <|
 some (andK .u32 (shrK .u32 a_e (IntKind.wrap .u64 (Int.tmod i 32))) 1)
def Zsk (r_:(List Int)) (q:(List Int)):Option ((List Int)×(List Int)):=
 (ZnR q).bind fun q_1=>
 some (q_1,r_)
def Zpb (rec_:(List Int)→(List Int)→(List Int)→Int→(List Int)→Option ((List Int)×(List Int))) (a:(List Int)) (b:(List Int)) (r_:(List Int)) (i:Int) (q:(List Int)):Option ((List Int)×(List Int)):=
 chk (inK .i64 (i - 1)) <|
 rec_ a b r_ (i - 1) q
def ZpC (rec_:(List Int)→(List Int)→(List Int)→Int→(List Int)→Option ((List Int)×(List Int))) (a:(List Int)) (b:(List Int)) (r_:(List Int)) (i:Int) (q:(List Int)):Option ((List Int)×(List Int)):=
 bif (decide (i≥0))then (
  (Zqa a i).bind fun q_1=>
  (ZoK r_ q_1).bind fun r__1=>
  (ZoA r__1 b).bind fun q_2=>
  bif (decide (q_2≥0))then (
   (Zok r__1 b).bind fun r__2=>
   chk (decide ((32:Int)≠0)) <|
   chk (inK .i64 (Int.tdiv i 32)) <|
   chk (inR (Int.tdiv i 32) (q.length:Int)) <|
   (q[((Int.tdiv i 32)).toNat]?).bind fun q_e=>
   chk (decide ((32:Int)≠0)) <|
   chk (decide (0≤(IntKind.wrap .u64 (Int.tmod i 32)))) <|
   chk (inR (Int.tdiv i 32) (q.length:Int)) <|
   Zpb rec_ a b r__2 i (q.set (((Int.tdiv i 32)).toNat) (orK .u32 q_e (shlK .u32 1 (IntKind.wrap .u64 (Int.tmod i 32)))))
  )else (
   Zpb rec_ a b r__1 i q
  )
 )else (
  some (r_,q)
 )
def Zpa:Nat→(List Int)→(List Int)→(List Int)→Int→(List Int)→Option ((List Int)×(List Int))
 |0,_,_,_,_,_=>none
 |n_+1,a,b,r_,i,q=>ZpC (Zpa n_) a b r_ i q
def Ztv (n:Nat) (s:((List Int)×(List Int)×(List Int)×Int×(List Int))):Option ((List Int)×(List Int)):=Zpa n s.1 s.2.1 s.2.2.1 s.2.2.2.1 s.2.2.2.2
def Zrl (rec_:((List Int)×(List Int)×(List Int)×Int×(List Int))→Option ((List Int)×(List Int))) (s:((List Int)×(List Int)×(List Int)×Int×(List Int))):Option ((List Int)×(List Int)):=ZpC (fun a b r_ i q=>rec_ (a,b,r_,i,q)) s.1 s.2.1 s.2.2.1 s.2.2.2.1 s.2.2.2.2
theorem Zvp:∀n s,Ztv (n+1) s=Zrl (Ztv n) s:=fun _ _=>rfl
def Zo5 (a:(List Int)) (b:(List Int)):Option ((List Int)×(List Int)):=
 chk (mkOk (a.length:Int) (a.length:Int) 4) <|
 chk (inK .i64 (32*(a.length:Int))) <|
 chk (inK .i64 ((32*(a.length:Int)) - 1)) <|
 (Zpa big a b ([]:(List Int)) ((32*(a.length:Int)) - 1) (List.replicate ((a.length:Int)).toNat (0:Int))).bind fun(x0,x1)=>Zsk x0 x1
def Zow (num:ZnC) (den:ZnC):Option ZnA:=
 bif ((num.Words.length:Int) == 0)then (
  (ZnM 1).bind fun q=>
  some (ZnA.mk (ZnC.mk false ([]:(List Int))) q)
 )else (
  (Zp9 num.Words den.Words).bind fun g=>
  (Zo5 num.Words g).bind fun(x_,q_1)=>
  (Zo5 den.Words g).bind fun(y,q_2)=>
  (ZnO (!(num.Neg == den.Neg)) x_).bind fun q_3=>
  (ZnO false y).bind fun q_4=>
  some (ZnA.mk q_3 q_4)
 )
def Zp4 (t13:Bool) (num:ZnC) (den:ZnC) (t4:Bool) (t4_1:Bool) (t4_2:(List Int)) (t4_3:(List Int)):Option (ZnA×Int):=
 bif t13 then (
  some ((ZnA.mk (ZnC.mk false ([]:(List Int))) (ZnC.mk false ([]:(List Int)))),1)
 )else (
  bif ((den.Words.length:Int) == 0)then (
   some ((ZnA.mk (ZnC.mk false ([]:(List Int))) (ZnC.mk false ([]:(List Int)))),8)
  )else (
   (Zow num den).bind fun q=>
   some (q,0)
  )
 )
def ZpJ (num:ZnC) (den:ZnC):Option (ZnA×Int):=
 (ZoR num).bind fun q=>
 bif (!q)then (
  Zp4 true num den false false ([]:(List Int)) ([]:(List Int))
 )else (
  (ZoR den).bind fun q_1=>
  Zp4 (!q_1) num den false false ([]:(List Int)) ([]:(List Int))
 )
def Zpq (num:Int) (den:Int):Option (ZnA×Int):=
 (ZnM num).bind fun q=>
 (ZnM den).bind fun q_1=>
 (ZpJ q q_1).bind fun(q_2,q_3)=>
 some (q_2,q_3)
def ZsU (n:Int) (d:Int):Option ZnA:=
 (Zpq n d).bind fun(f,q)=>
 some f
def Zof (n:Int) (d:Int):Option ZnA:=ZxI (ZsU n d)
def Ztd (n:Int):Option ZnA:=
 (Zof n 1).bind fun q=>
 some q
def Zpp (n:Int):Option ZnA:=ZxI (Ztd n)
def ZqN:Option Bool:=
 some true
def ZoU (rec_:(List Int)→Int→Int→ZnC→Option (Out Unit Bool)) (t22:(List Int)) (t23:Int) (i:Int) (b:ZnC):Option (Out Unit Bool):=
 bif (decide (i < t23))then (
  (idx t22 i).bind fun w_=>
  (idx b.Words i).bind fun Word=>
  bif (Word != w_)then (
   some (.ret false)
  )else (
   chk (inK .i64 (i+1)) <|
   rec_ t22 t23 (i+1) b
  )
 )else (
  some (.brk ())
 )
def Zpd:Nat→(List Int)→Int→Int→ZnC→Option (Out Unit Bool)
 |0,_,_,_,_=>none
 |n_+1,t22,t23,i,b=>ZoU (Zpd n_) t22 t23 i b
def ZsF (n:Nat) (s:((List Int)×Int×Int×ZnC)):Option (Out Unit Bool):=Zpd n s.1 s.2.1 s.2.2.1 s.2.2.2
def Zqd (rec_:((List Int)×Int×Int×ZnC)→Option (Out Unit Bool)) (s:((List Int)×Int×Int×ZnC)):Option (Out Unit Bool):=ZoU (fun t22 t23 i b=>rec_ (t22,t23,i,b)) s.1 s.2.1 s.2.2.1 s.2.2.2
theorem ZuE:∀n s,ZsF (n+1) s=Zqd (ZsF n) s:=fun _ _=>rfl
def Zpe (t20:Bool) (a:ZnC) (b:ZnC):Option Bool:=
 bif t20 then (
  some false
 )else (
  (Zpd big a.Words (a.Words.length:Int) (0:Int) b).bind fun
   | .ret q_=>some q_
   | .brk ()=>ZqN
 )
def Zos (a:ZnC) (b:ZnC):Option Bool:=
 bif (!(a.Neg == b.Neg))then (
  Zpe true a b
 )else (
  Zpe ((a.Words.length:Int) != (b.Words.length:Int)) a b
 )
def ZpZ (t4:Bool):Option Bool:=
 some t4
def ZnT (a:ZnA) (b:ZnA):Option Bool:=
 (Zos a.Num b.Num).bind fun q=>
 bif q then (
  (Zos a.Den b.Den).bind fun q_1=>
  ZpZ q_1
 )else (
  ZpZ false
 )
def ZoS (t0:Bool):Option Bool:=
 some t0
def ZoL:Option Bool:=
 (ZoF ([85,110,105,116,32,80,114,105,99,101,95,50]:Str)).bind fun q=>
 (ZoD q ([([50]:Str),([112,114,105,99,101]:Str),([117,110,105,116]:Str)]:(List Str))).bind fun q_1=>
 bif q_1 then (
  (ZqE (ZnE.mk ([85,110,105,116,32,80,114,105,99,101,95,50]:Str) ([(ZnB.mk false ([49]:Str)),(ZnB.mk false ([120]:Str))]:(List ZnB))) (ZnE.mk ([85,110,105,116,32,80,114,105,99,101,95,50]:Str) ([(ZnB.mk false ([49]:Str)),(ZnB.mk false ([120]:Str))]:(List ZnB)))).bind fun q_2=>
  (Zpp 1).bind fun q_3=>
  (ZnT q_2 q_3).bind fun q_4=>
  bif q_4 then (
   (Zn8 (ZnE.mk ([85,110,105,116,32,80,114,105,99,101,95,50]:Str) ([(ZnB.mk false ([49]:Str)),(ZnB.mk false ([120]:Str))]:(List ZnB)))).bind fun q_5=>
   (Zof 1 2).bind fun q_6=>
   (ZnT q_5 q_6).bind fun q_7=>
   ZoS q_7
  )else (
   ZoS false
  )
 )else (
  ZoS false
 )
def ZrY (t:(List Int)):Option ZnD:=
 some (ZnD.mk t 0)
def ZpV (n:Int) (m:Int):Option Int:=
 bif (decide (m < 1))then (
  some (0:Int)
 )else (
  chk (decide (m≠0)) <|
  chk (inK .i64 ((Int.tmod n m)+m)) <|
  chk (decide (m≠0)) <|
  some (Int.tmod ((Int.tmod n m)+m) m)
 )
def ZnN (d:ZnD) (n:Int):Option (Int×ZnD):=
 bif (decide (d.at_≥(d.l.length:Int)))then (
  some (0,d)
 )else (
  chk (inK .i64 (d.at_+1)) <|
  chk (inK .i64 ((d.at_+1) - 1)) <|
  (idx d.l ((d.at_+1) - 1)).bind fun l_e=>
  (ZpV l_e n).bind fun q=>
  some (q,(ZnD.mk d.l (d.at_+1)))
 )
def ZnY (d:ZnD) (l:(List Str)):Option (Str×ZnD):=
 (ZnN d (l.length:Int)).bind fun(q,t6)=>
 (idx l q).bind fun l_e=>
 some (l_e,t6)
def ZqA (d:ZnD):Option (ZnB×ZnD):=
 (ZnN d 7).bind fun(q,t3)=>
 bif (q == 1)then (
  some ((ZnB.mk true ([]:Str)),t3)
 )else (
  (ZnY t3 ([([97]:Str),([98]:Str),([99]:Str),([49]:Str),([50]:Str),([51]:Str),([49,48]:Str),([120]:Str),([45,49,46,53]:Str),([50]:Str)]:(List Str))).bind fun(q_1,t7)=>
  some ((ZnB.mk false q_1),t7)
 )
def Zta (n:Int):Option Str:=
 some (Lib.itoa n)
def ZpK (d:ZnD):Option (ZnB×ZnD):=
 (ZnN d 9).bind fun(q,t3)=>
 bif (q == 1)then (
  some ((ZnB.mk true ([]:Str)),t3)
 )else (
  bif (q == 2)then (
   (ZnY t3 ([([120]:Str),([]:Str),([49,46,50,46,51]:Str),([49,46,53,48]:Str)]:(List Str))).bind fun(q_1,t10)=>
   some ((ZnB.mk false q_1),t10)
  )else (
   (ZnN t3 12).bind fun(q_2,t14)=>
   chk (inK .i64 (q_2 - 3)) <|
   (Zta (q_2 - 3)).bind fun q_3=>
   some ((ZnB.mk false q_3),t14)
  )
 )
def ZrQ (d:ZnD) (t4:Str) (c:Str) (t4_1:(List ZnB)) (c_1:(List ZnB)):Option (ZnE×ZnD):=
 some ((ZnE.mk c c_1),d)
def Zoc (rec_:Int→Int→Int→ZnD→Str→Str→(List ZnB)→(List ZnB)→Option (ZnD×Str×Str×(List ZnB)×(List ZnB))) (kind:Int) (t15:Int) (i:Int) (d:ZnD) (t4:Str) (c:Str) (x_:ZnB) (t4_1:(List ZnB)) (c_1:(List ZnB)):Option (ZnD×Str×Str×(List ZnB)×(List ZnB)):=
 chk (ZiZ (c_1.length+([x_]:(List ZnB)).length) 24) <|
 chk (inK .i64 (i+1)) <|
 rec_ kind t15 (i+1) d t4 c t4_1 (c_1++([x_]:(List ZnB)))
def Zpx (rec_:Int→Int→Int→ZnD→Str→Str→(List ZnB)→(List ZnB)→Option (ZnD×Str×Str×(List ZnB)×(List ZnB))) (kind:Int) (t15:Int) (i:Int) (d:ZnD) (t4:Str) (c:Str) (t4_1:(List ZnB)) (c_1:(List ZnB)):Option (ZnD×Str×Str×(List ZnB)×(List ZnB)):=
 bif (decide (i < t15))then (
  (ZqA d).bind fun(x_,t19)=>
  bif (kind == 0)then (
   (ZpK t19).bind fun(x__1,t24)=>
   Zoc rec_ kind t15 i t24 t4 c x__1 t4_1 c_1
  )else (
   bif (kind == 1)then (
    (Zta i).bind fun q=>
    chk (decide (([107]:Str).length+q.length≤Zq)) <|
    Zoc rec_ kind t15 i t19 t4 c (ZnB.mk false (([107]:Str)++q)) t4_1 c_1
   )else (
    bif (kind == 2)then (
     (ZnY t19 ([([97]:Str),([98]:Str),([99]:Str),([100]:Str)]:(List Str))).bind fun(q_1,t34)=>
     Zoc rec_ kind t15 i t34 t4 c (ZnB.mk false q_1) t4_1 c_1
    )else (
     Zoc rec_ kind t15 i t19 t4 c x_ t4_1 c_1
    )
   )
  )
 )else (
  some (d,t4,c,t4_1,c_1)
 )
def Zo2:Nat→Int→Int→Int→ZnD→Str→Str→(List ZnB)→(List ZnB)→Option (ZnD×Str×Str×(List ZnB)×(List ZnB))
 |0,_,_,_,_,_,_,_,_=>none
 |n_+1,kind,t15,i,d,t4,c,t4_1,c_1=>Zpx (Zo2 n_) kind t15 i d t4 c t4_1 c_1
def Zto (n:Nat) (s:(Int×Int×Int×ZnD×Str×Str×(List ZnB)×(List ZnB))):Option (ZnD×Str×Str×(List ZnB)×(List ZnB)):=Zo2 n s.1 s.2.1 s.2.2.1 s.2.2.2.1 s.2.2.2.2.1 s.2.2.2.2.2.1 s.2.2.2.2.2.2.1 s.2.2.2.2.2.2.2
def Zq9 (rec_:(Int×Int×Int×ZnD×Str×Str×(List ZnB)×(List ZnB))→Option (ZnD×Str×Str×(List ZnB)×(List ZnB))) (s:(Int×Int×Int×ZnD×Str×Str×(List ZnB)×(List ZnB))):Option (ZnD×Str×Str×(List ZnB)×(List ZnB)):=Zpx (fun kind t15 i d t4 c t4_1 c_1=>rec_ (kind,t15,i,d,t4,c,t4_1,c_1)) s.1 s.2.1 s.2.2.1 s.2.2.2.1 s.2.2.2.2.1 s.2.2.2.2.2.1 s.2.2.2.2.2.2.1 s.2.2.2.2.2.2.2
theorem Zu9:∀n s,Zto (n+1) s=Zq9 (Zto n) s:=fun _ _=>rfl
def ZoW (d:ZnD) (rows:Int):Option (ZnE×ZnD):=
 (ZnY d ([([105,100]:Str),([110,97,109,101]:Str),([85,110,105,116,32,80,114,105,99,101]:Str),([99,105,116,121]:Str),([117,110,105,116]:Str),([112,114,105,99,101]:Str),([105,100,50]:Str),([]:Str)]:(List Str))).bind fun(q,t9)=>
 (ZnN t9 5).bind fun(kind,t13)=>
 (Zo2 big kind rows (0:Int) t13 ([]:Str) q ([]:(List ZnB)) ([]:(List ZnB))).bind fun(x0,x1,x2,x3,x4)=>ZrQ x0 x1 x2 x3 x4
def ZtW (s:Str):Option Str:=
 some s
def ZrJ (rec_:Str→Option Str) (s:Str) (t23:Bool):Option Str:=
 bif t23 then (
  chk (inK .i64 ((s.length:Int) - 1)) <|
  chk (Zb9 0 ((s.length:Int) - 1) (s.length:Int)) <|
  rec_ (s.take (((s.length:Int) - 1)).toNat)
 )else (
  some s
 )
def Zvl (rec_:Str→Option Str) (s:Str):Option Str:=
 bif (decide ((s.length:Int) > 0))then (
  chk (inK .i64 ((s.length:Int) - 1)) <|
  (idx s ((s.length:Int) - 1)).bind fun c=>
  ZrJ rec_ s (((c.toNat:Nat):Int) == 32)
 )else (
  ZrJ rec_ s false
 )
def Zp2:Nat→Str→Option Str
 |0,_=>none
 |n_+1,s=>Zvl (Zp2 n_) s
def ZtX (s:Str):Option Str:=
 (Zp2 big s).bind fun x0=>ZtW x0
def ZrK (rec_:Str→Option Str) (s:Str) (t10:Bool):Option Str:=
 bif t10 then (
  chk (Zb9 1 (s.length:Int) (s.length:Int)) <|
  rec_ (s.drop ((1:Int)).toNat)
 )else (
  some s
 )
def Zvm (rec_:Str→Option Str) (s:Str):Option Str:=
 bif (decide ((s.length:Int) > 0))then (
  (idx s 0).bind fun c=>
  ZrK rec_ s (((c.toNat:Nat):Int) == 32)
 )else (
  ZrK rec_ s false
 )
def Zp3:Nat→Str→Option Str
 |0,_=>none
 |n_+1,s=>Zvm (Zp3 n_) s
def ZsV (s:Str):Option Str:=
 (Zp3 big s).bind fun x0=>ZtX x0
def ZtY (b:(List Int)):Option Str:=
 some (b.map fun n=>UInt8.ofNat (Int.toNat n))
def ZrL (rec_:Int→Int→(List Int)→Option (List Int)) (t8:Int) (i:Int) (b:(List Int)):Option (List Int):=
 chk (inK .i64 (i+1)) <|
 rec_ t8 (i+1) b
def ZrM (rec_:Int→Int→(List Int)→Option (List Int)) (i:Int) (t8:Int) (i_1:Int) (t23:Bool) (b:(List Int)):Option (List Int):=
 bif t23 then (
  chk (inR i (b.length:Int)) <|
  (b[(i).toNat]?).bind fun b_e=>
  chk (inR i (b.length:Int)) <|
  ZrL rec_ t8 i_1 (b.set ((i).toNat) (IntKind.wrap .u8 (b_e+32)))
 )else (
  ZrL rec_ t8 i_1 b
 )
def Zvn (rec_:Int→Int→(List Int)→Option (List Int)) (t8:Int) (i:Int) (b:(List Int)):Option (List Int):=
 bif (decide (i < t8))then (
  chk (inR i (b.length:Int)) <|
  (b[(i).toNat]?).bind fun b_e=>
  bif (decide (b_e≥65))then (
   chk (inR i (b.length:Int)) <|
   (b[(i).toNat]?).bind fun b_e_1=>
   ZrM rec_ i t8 i (decide (b_e_1≤90)) b
  )else (
   ZrM rec_ i t8 i false b
  )
 )else (
  some b
 )
def ZoZ:Nat→Int→Int→(List Int)→Option (List Int)
 |0,_,_,_=>none
 |n_+1,t8,i,b=>Zvn (ZoZ n_) t8 i b
def ZsW (s:Str):Option Str:=
 chk (decide (s.length≤281474976710656)) <|
 (ZoZ big ((s.map fun b=>((b.toNat:Nat):Int)).length:Int) (0:Int) (s.map fun b=>((b.toNat:Nat):Int))).bind fun x0=>ZtY x0
def Ztx (neg:Bool) (digits:Str) (places:Str):Option (Bool×Str×Str×Bool):=
 some (neg,digits,places,true)
def Zrn (rec_:Bool→Str→Str→Int→Option (Out (Bool×Str×Str) (Bool×Str×Str×Bool))) (neg:Bool) (digits:Str) (places:Str) (i:Int) (t92:Bool):Option (Out (Bool×Str×Str) (Bool×Str×Str×Bool)):=
 bif t92 then (
  some (.ret (false,([]:Str),([]:Str),false))
 )else (
  chk (inK .i64 (i+1)) <|
  rec_ neg digits places (i+1)
 )
def Zu7 (rec_:Bool→Str→Str→Int→Option (Out (Bool×Str×Str) (Bool×Str×Str×Bool))) (neg:Bool) (digits:Str) (places:Str) (i:Int):Option (Out (Bool×Str×Str) (Bool×Str×Str×Bool)):=
 bif (decide (i < (places.length:Int)))then (
  (idx places i).bind fun c=>
  bif (decide (((c.toNat:Nat):Int) < 48))then (
   Zrn rec_ neg digits places i true
  )else (
   (idx places i).bind fun c_1=>
   Zrn rec_ neg digits places i (decide (((c_1.toNat:Nat):Int) > 57))
  )
 )else (
  some (.brk (neg,digits,places))
 )
def ZpE:Nat→Bool→Str→Str→Int→Option (Out (Bool×Str×Str) (Bool×Str×Str×Bool))
 |0,_,_,_,_=>none
 |n_+1,neg,digits,places,i=>Zu7 (ZpE n_) neg digits places i
def ZpG (neg:Bool) (digits:Str) (places:Str) (t76:Bool):Option (Bool×Str×Str×Bool):=
 bif t76 then (
  some (false,([]:Str),([]:Str),false)
 )else (
  (ZpE big neg digits places (0:Int)).bind fun
   | .ret q_=>some q_
   | .brk (x0,x1,x2)=>Ztx x0 x1 x2
 )
def Zro (s:Str) (neg:Bool) (digits:Str) (k:Int) (t52:Bool):Option (Bool×Str×Str×Bool):=
 bif t52 then (
  some (false,([]:Str),([]:Str),false)
 )else (
  bif (k == (s.length:Int))then (
   some (neg,digits,([]:Str),true)
  )else (
   chk (inK .i64 (k+1)) <|
   chk (Zb9 (k+1) (s.length:Int) (s.length:Int)) <|
   (idx s k).bind fun c=>
   bif (((c.toNat:Nat):Int) != 46)then (
    ZpG neg digits (s.drop ((k+1)).toNat) true
   )else (
    bif (decide (((s.drop ((k+1)).toNat).length:Int) < 1))then (
     ZpG neg digits (s.drop ((k+1)).toNat) true
    )else (
     ZpG neg digits (s.drop ((k+1)).toNat) (decide (((s.drop ((k+1)).toNat).length:Int) > 9))
    )
   )
  )
 )
def Zty (s:Str) (neg:Bool) (k:Int):Option (Bool×Str×Str×Bool):=
 chk (Zb9 0 k (s.length:Int)) <|
 bif (decide (k < 1))then (
  Zro s neg (s.take (k).toNat) k true
 )else (
  Zro s neg (s.take (k).toNat) k (decide (k > 15))
 )
def ZpH (rec_:Str→Bool→Int→Option (Str×Bool×Int)) (s:Str) (neg:Bool) (k:Int) (t41:Bool):Option (Str×Bool×Int):=
 bif t41 then (
  chk (inK .i64 (k+1)) <|
  rec_ s neg (k+1)
 )else (
  some (s,neg,k)
 )
def Zu8 (rec_:Str→Bool→Int→Option (Str×Bool×Int)) (s:Str) (neg:Bool) (k:Int):Option (Str×Bool×Int):=
 bif (decide (k < (s.length:Int)))then (
  (idx s k).bind fun c=>
  bif (decide (((c.toNat:Nat):Int)≥48))then (
   (idx s k).bind fun c_1=>
   ZpH rec_ s neg k (decide (((c_1.toNat:Nat):Int)≤57))
  )else (
   ZpH rec_ s neg k false
  )
 )else (
  ZpH rec_ s neg k false
 )
def ZpF:Nat→Str→Bool→Int→Option (Str×Bool×Int)
 |0,_,_,_=>none
 |n_+1,s,neg,k=>Zu8 (ZpF n_) s neg k
def Zrp (s:Str) (neg:Bool):Option (Bool×Str×Str×Bool):=
 (ZpF big s neg (0:Int)).bind fun(x0,x1,x2)=>Zty x0 x1 x2
def ZpI (s:Str) (neg:Bool) (t20:Bool):Option (Bool×Str×Str×Bool):=
 bif t20 then (
  (idx s 0).bind fun c=>
  chk (Zb9 1 (s.length:Int) (s.length:Int)) <|
  Zrp (s.drop ((1:Int)).toNat) (((c.toNat:Nat):Int) == 45)
 )else (
  Zrp s neg
 )
def ZqG (s:Str):Option (Bool×Str×Str×Bool):=
 bif (decide ((s.length:Int) > 0))then (
  (idx s 0).bind fun c=>
  bif (((c.toNat:Nat):Int) == 43)then (
   ZpI s false true
  )else (
   (idx s 0).bind fun c_1=>
   ZpI s false (((c_1.toNat:Nat):Int) == 45)
  )
 )else (
  ZpI s false false
 )
def ZqZ (digits:Str):Option Str:=
 some digits
def Zq0 (digits:Str) (t43:Bool):Option Str:=
 bif t43 then (
  chk (decide (([45]:Str).length+digits.length≤Zq)) <|
  ZqZ (([45]:Str)++digits)
 )else (
  ZqZ digits
 )
def Zq1 (neg:Bool) (digits:Str):Option Str:=
 bif neg then (
  Zq0 digits (!(digits == ([48]:Str)))
 )else (
  Zq0 digits false
 )
def Ztk (neg:Bool) (digits:Str) (places:Str):Option Str:=
 bif (!(places == ([]:Str)))then (
  chk (decide (([46]:Str).length+places.length≤Zq)) <|
  chk (decide (digits.length+(([46]:Str)++places).length≤Zq)) <|
  Zq1 neg (digits++(([46]:Str)++places))
 )else (
  Zq1 neg digits
 )
def Zq2 (rec_:Bool→Str→Str→Option (Bool×Str×Str)) (neg:Bool) (digits:Str) (places:Str) (t27:Bool):Option (Bool×Str×Str):=
 bif t27 then (
  chk (inK .i64 ((places.length:Int) - 1)) <|
  chk (Zb9 0 ((places.length:Int) - 1) (places.length:Int)) <|
  rec_ neg digits (places.take (((places.length:Int) - 1)).toNat)
 )else (
  some (neg,digits,places)
 )
def ZuS (rec_:Bool→Str→Str→Option (Bool×Str×Str)) (neg:Bool) (digits:Str) (places:Str):Option (Bool×Str×Str):=
 bif (decide ((places.length:Int) > 0))then (
  chk (inK .i64 ((places.length:Int) - 1)) <|
  (idx places ((places.length:Int) - 1)).bind fun c=>
  Zq2 rec_ neg digits places (((c.toNat:Nat):Int) == 48)
 )else (
  Zq2 rec_ neg digits places false
 )
def Zpu:Nat→Bool→Str→Str→Option (Bool×Str×Str)
 |0,_,_,_=>none
 |n_+1,neg,digits,places=>ZuS (Zpu n_) neg digits places
def Ztl (neg:Bool) (digits:Str) (places:Str):Option Str:=
 (Zpu big neg digits places).bind fun(x0,x1,x2)=>Ztk x0 x1 x2
def Zq3 (rec_:Bool→Str→Str→Option (Bool×Str×Str)) (neg:Bool) (digits:Str) (places:Str) (t14:Bool):Option (Bool×Str×Str):=
 bif t14 then (
  chk (Zb9 1 (digits.length:Int) (digits.length:Int)) <|
  rec_ neg (digits.drop ((1:Int)).toNat) places
 )else (
  some (neg,digits,places)
 )
def ZuT (rec_:Bool→Str→Str→Option (Bool×Str×Str)) (neg:Bool) (digits:Str) (places:Str):Option (Bool×Str×Str):=
 bif (decide ((digits.length:Int) > 1))then (
  (idx digits 0).bind fun c=>
  Zq3 rec_ neg digits places (((c.toNat:Nat):Int) == 48)
 )else (
  Zq3 rec_ neg digits places false
 )
def Zpv:Nat→Bool→Str→Str→Option (Bool×Str×Str)
 |0,_,_,_=>none
 |n_+1,neg,digits,places=>ZuT (Zpv n_) neg digits places
def Zsa (neg:Bool) (digits:Str) (places:Str):Option Str:=
 (Zpv big neg digits places).bind fun(x0,x1,x2)=>Ztl x0 x1 x2
def Zt9 (n:Int):Option Int:=
 some n
def Zr9 (rec_:Str→Int→Int→Option (Out Int Int)) (s:Str) (n:Int) (i:Int) (t20:Bool):Option (Out Int Int):=
 bif t20 then (
  some (.ret (-1:Int))
 )else (
  chk (inK .i64 (10*n)) <|
  (idx s i).bind fun c=>
  chk (inK .i64 ((10*n)+(IntKind.wrap .i64 (IntKind.wrap .u8 (((c.toNat:Nat):Int) - 48))))) <|
  chk (inK .i64 (i+1)) <|
  rec_ s ((10*n)+(IntKind.wrap .i64 (IntKind.wrap .u8 (((c.toNat:Nat):Int) - 48)))) (i+1)
 )
def ZvA (rec_:Str→Int→Int→Option (Out Int Int)) (s:Str) (n:Int) (i:Int):Option (Out Int Int):=
 bif (decide (i < (s.length:Int)))then (
  (idx s i).bind fun c=>
  bif (decide (((c.toNat:Nat):Int) < 48))then (
   Zr9 rec_ s n i true
  )else (
   (idx s i).bind fun c_1=>
   Zr9 rec_ s n i (decide (((c_1.toNat:Nat):Int) > 57))
  )
 )else (
  some (.brk n)
 )
def Zqp:Nat→Str→Int→Int→Option (Out Int Int)
 |0,_,_,_=>none
 |n_+1,s,n,i=>ZvA (Zqp n_) s n i
def Zoj (s:Str):Option Int:=
 (Zqp big s (0:Int) (0:Int)).bind fun
  | .ret q_=>some q_
  | .brk x0=>Zt9 x0
def Zp0 (t2:Bool):Option Bool:=
 some t2
def Zq5 (y:Int):Option Bool:=
 chk (decide ((4:Int)≠0)) <|
 bif ((Int.tmod y 4) == 0)then (
  chk (decide ((100:Int)≠0)) <|
  bif ((Int.tmod y 100) != 0)then (
   Zp0 true
  )else (
   chk (decide ((400:Int)≠0)) <|
   Zp0 ((Int.tmod y 400) == 0)
  )
 )else (
  Zp0 false
 )
def ZoE (t15:Bool):Option Int:=
 bif t15 then (
  some (30:Int)
 )else (
  some (31:Int)
 )
def Zq4 (m:Int) (t5:Bool):Option Int:=
 bif t5 then (
  some (29:Int)
 )else (
  bif (m == 2)then (
   some (28:Int)
  )else (
   bif (m == 4)then (
    ZoE true
   )else (
    bif (m == 6)then (
     ZoE true
    )else (
     bif (m == 9)then (
      ZoE true
     )else (
      ZoE (m == 11)
     )
    )
   )
  )
 )
def Zqq (y:Int) (m:Int):Option Int:=
 bif (m == 2)then (
  (Zq5 y).bind fun q=>
  Zq4 m q
 )else (
  Zq4 m false
 )
def Zua (day:Int) (n:Int):Option (Int×Bool):=
 chk (inK .i64 (n+day)) <|
 chk (inK .i64 ((n+day) - 1)) <|
 chk (inK .i64 (((n+day) - 1) - 719162)) <|
 some ((((n+day) - 1) - 719162),true)
def ZvB (rec_:Int→Int→Int→Int→Int→Option (Int×Int)) (year:Int) (month:Int) (day:Int) (n:Int) (m:Int):Option (Int×Int):=
 bif (decide (m < month))then (
  (Zqq year m).bind fun q=>
  chk (inK .i64 (n+q)) <|
  chk (inK .i64 (m+1)) <|
  rec_ year month day (n+q) (m+1)
 )else (
  some (day,n)
 )
def Zsb:Nat→Int→Int→Int→Int→Int→Option (Int×Int)
 |0,_,_,_,_,_=>none
 |n_+1,year,month,day,n,m=>ZvB (Zsb n_) year month day n m
def Zub (year:Int) (month:Int) (day:Int) (n:Int):Option (Int×Bool):=
 (Zsb big year month day n (1:Int)).bind fun(x0,x1)=>Zua x0 x1
def Zsc (rec_:Int→Int→Int→Int→Int→Option (Int×Int×Int×Int)) (year:Int) (month:Int) (day:Int) (n:Int) (y:Int):Option (Int×Int×Int×Int):=
 chk (inK .i64 (y+1)) <|
 rec_ year month day n (y+1)
def ZvC (rec_:Int→Int→Int→Int→Int→Option (Int×Int×Int×Int)) (year:Int) (month:Int) (day:Int) (n:Int) (y:Int):Option (Int×Int×Int×Int):=
 bif (decide (y < year))then (
  chk (inK .i64 (n+365)) <|
  (Zq5 y).bind fun q=>
  bif q then (
   chk (inK .i64 ((n+365)+1)) <|
   Zsc rec_ year month day ((n+365)+1) y
  )else (
   Zsc rec_ year month day (n+365) y
  )
 )else (
  some (year,month,day,n)
 )
def Zqr:Nat→Int→Int→Int→Int→Int→Option (Int×Int×Int×Int)
 |0,_,_,_,_,_=>none
 |n_+1,year,month,day,n,y=>ZvC (Zqr n_) year month day n y
def Zog (year:Int) (month:Int) (day:Int) (t35:Bool):Option (Int×Bool):=
 bif t35 then (
  some (0,false)
 )else (
  (Zqr big year month day (0:Int) (1:Int)).bind fun(x0,x1,x2,x3)=>Zub x0 x1 x2 x3
 )
def Zrz (year:Int) (month:Int) (day:Int):Option (Int×Bool):=
 bif (decide (year < 1))then (
  Zog year month day true
 )else (
  bif (decide (year > 9999))then (
   Zog year month day true
  )else (
   bif (decide (month < 1))then (
    Zog year month day true
   )else (
    bif (decide (month > 12))then (
     Zog year month day true
    )else (
     bif (decide (day < 1))then (
      Zog year month day true
     )else (
      (Zqq year month).bind fun q=>
      Zog year month day (decide (day > q))
     )
    )
   )
  )
 )
def ZrG (year:Int) (month:Int) (day:Int):Option (Int×Int×Int×Bool):=
 (Zrz year month day).bind fun(q,ok)=>
 some (year,month,day,ok)
def ZrH (s:Str) (t35:Bool):Option (Int×Int×Int×Bool):=
 bif t35 then (
  chk (Zb9 6 (s.length:Int) (s.length:Int)) <|
  (Zoj (s.drop ((6:Int)).toNat)).bind fun year=>
  chk (Zb9 3 5 (s.length:Int)) <|
  (Zoj ((s.take ((5:Int)).toNat).drop ((3:Int)).toNat)).bind fun month=>
  chk (Zb9 0 2 (s.length:Int)) <|
  (Zoj (s.take ((2:Int)).toNat)).bind fun day=>
  ZrG year month day
 )else (
  some (0,0,0,false)
 )
def Zp1 (s:Str) (t9:Bool):Option (Int×Int×Int×Bool):=
 bif t9 then (
  chk (Zb9 0 4 (s.length:Int)) <|
  (Zoj (s.take ((4:Int)).toNat)).bind fun year=>
  chk (Zb9 5 7 (s.length:Int)) <|
  (Zoj ((s.take ((7:Int)).toNat).drop ((5:Int)).toNat)).bind fun month=>
  chk (Zb9 8 (s.length:Int) (s.length:Int)) <|
  (Zoj (s.drop ((8:Int)).toNat)).bind fun day=>
  ZrG year month day
 )else (
  (idx s 2).bind fun c=>
  bif (((c.toNat:Nat):Int) == 46)then (
   (idx s 5).bind fun c_1=>
   ZrH s (((c_1.toNat:Nat):Int) == 46)
  )else (
   ZrH s false
  )
 )
def ZrI (s:Str) (t9:Bool):Option (Int×Int×Int×Bool):=
 bif t9 then (
  Zp1 s t9
 )else (
  (idx s 4).bind fun c=>
  bif (((c.toNat:Nat):Int) == 47)then (
   (idx s 7).bind fun c_1=>
   Zp1 s (((c_1.toNat:Nat):Int) == 47)
  )else (
   Zp1 s false
  )
 )
def Zq6 (s:Str):Option (Int×Int×Int×Bool):=
 bif ((s.length:Int) != 10)then (
  some (0,0,0,false)
 )else (
  (idx s 4).bind fun c=>
  bif (((c.toNat:Nat):Int) == 45)then (
   (idx s 7).bind fun c_1=>
   ZrI s (((c_1.toNat:Nat):Int) == 45)
  )else (
   ZrI s false
  )
 )
def Ztj (s:Str):Option Str:=
 some s
def ZuR (rec_:Int→Int→Str→Option Str) (n:Int) (width:Int) (s:Str):Option Str:=
 bif (decide (width > 0))then (
  chk (decide ((10:Int)≠0)) <|
  chk (decide ((([(IntKind.wrap .u8 (48+(IntKind.wrap .u8 (Int.tmod n 10))))]:(List Int)).map fun n=>UInt8.ofNat (Int.toNat n)).length+s.length≤Zq)) <|
  chk (decide ((10:Int)≠0)) <|
  chk (inK .i64 (Int.tdiv n 10)) <|
  chk (inK .i64 (width - 1)) <|
  rec_ (Int.tdiv n 10) (width - 1) ((([(IntKind.wrap .u8 (48+(IntKind.wrap .u8 (Int.tmod n 10))))]:(List Int)).map fun n=>UInt8.ofNat (Int.toNat n))++s)
 )else (
  some s
 )
def ZqY:Nat→Int→Int→Str→Option Str
 |0,_,_,_=>none
 |n_+1,n,width,s=>ZuR (ZqY n_) n width s
def Zo7 (n:Int) (width:Int):Option Str:=
 (ZqY big n width ([]:Str)).bind fun x0=>Ztj x0
def Zoo:Option (Str×Bool):=
 some (([]:Str),false)
def ZoV (neg:Bool) (digits:Str) (places:Str) (t49:Bool):Option (Str×Bool):=
 bif t49 then (
  (Zsa neg digits places).bind fun q=>
  some (q,true)
 )else (
  Zoo
 )
def Zqe (kind:Int) (t:Str) (t17:Int) (t31:Bool):Option (Str×Bool):=
 bif t31 then (
  (ZqG t).bind fun(neg,digits,places,ok)=>
  bif ok then (
   bif (kind == 4)then (
    ZoV neg digits places true
   )else (
    ZoV neg digits places (places == ([]:Str))
   )
  )else (
   ZoV neg digits places false
  )
 )else (
  bif (t17 == 5)then (
   (Zq6 t).bind fun(y,m,d,ok_1)=>
   bif ok_1 then (
    (Zo7 y 4).bind fun q=>
    chk (decide (q.length+([45]:Str).length≤Zq)) <|
    (Zo7 m 2).bind fun q_1=>
    chk (decide ((q++([45]:Str)).length+q_1.length≤Zq)) <|
    chk (decide (((q++([45]:Str))++q_1).length+([45]:Str).length≤Zq)) <|
    (Zo7 d 2).bind fun q_2=>
    chk (decide ((((q++([45]:Str))++q_1)++([45]:Str)).length+q_2.length≤Zq)) <|
    some (((((q++([45]:Str))++q_1)++([45]:Str))++q_2),true)
   )else (
    Zoo
   )
  )else (
   Zoo
  )
 )
def Zqf (t28:Bool):Option (Str×Bool):=
 bif t28 then (
  some (([102,97,108,115,101]:Str),true)
 )else (
  Zoo
 )
def Zqg (t24:Str) (t25:Bool):Option (Str×Bool):=
 bif t25 then (
  some (([116,114,117,101]:Str),true)
 )else (
  bif (t24 == ([102,97,108,115,101]:Str))then (
   Zqf (t24 == ([102,97,108,115,101]:Str))
  )else (
   Zqf (t24 == ([110,111]:Str))
  )
 )
def Zq7 (kind:Int) (s:Str):Option (Str×Bool):=
 (ZsV s).bind fun t=>
 bif (kind == 1)then (
  some (s,true)
 )else (
  bif (kind == 2)then (
   (ZsW t).bind fun q=>
   bif (q == ([116,114,117,101]:Str))then (
    Zqg q (q == ([116,114,117,101]:Str))
   )else (
    Zqg q (q == ([121,101,115]:Str))
   )
  )else (
   bif (kind == 3)then (
    Zqe kind t kind (kind == 3)
   )else (
    Zqe kind t kind (kind == 4)
   )
  )
 )
def Zuc (out:(List Int)):Option (List Int):=
 (ZnR out).bind fun q=>
 some q
def Zud (rec_:(List Int)→(List Int)→Int→(List Int)→Option (List Int)) (a:(List Int)) (b:(List Int)) (i:Int) (c:Int) (out:(List Int)):Option (List Int):=
 chk (inK .i64 (i+(b.length:Int))) <|
 chk (inR (i+(b.length:Int)) (out.length:Int)) <|
 chk (inK .i64 (i+1)) <|
 rec_ a b (i+1) (out.set (((i+(b.length:Int))).toNat) (IntKind.wrap .u32 c))
def ZvD (rec_:(List Int)→(List Int)→Int→Int→Int→(List Int)→Option ((List Int)×(List Int)×Int×Int×(List Int))) (a:(List Int)) (b:(List Int)) (i:Int) (c:Int) (j:Int) (out:(List Int)):Option ((List Int)×(List Int)×Int×Int×(List Int)):=
 bif (decide (j < (b.length:Int)))then (
  (idx a i).bind fun a_e=>
  (idx b j).bind fun b_e=>
  chk (inK .i64 (i+j)) <|
  chk (inR (i+j) (out.length:Int)) <|
  (out[((i+j)).toNat]?).bind fun out_e=>
  chk (inK .i64 (i+j)) <|
  chk (inR (i+j) (out.length:Int)) <|
  chk (decide (0≤(32:Int))) <|
  chk (inK .i64 (j+1)) <|
  rec_ a b i (shrK .u64 (IntKind.wrap .u64 (c+(IntKind.wrap .u64 ((IntKind.wrap .u64 ((IntKind.wrap .u64 a_e)*(IntKind.wrap .u64 b_e)))+(IntKind.wrap .u64 out_e))))) 32) (j+1) (out.set (((i+j)).toNat) (IntKind.wrap .u32 (IntKind.wrap .u64 (c+(IntKind.wrap .u64 ((IntKind.wrap .u64 ((IntKind.wrap .u64 a_e)*(IntKind.wrap .u64 b_e)))+(IntKind.wrap .u64 out_e)))))))
 )else (
  some (a,b,i,c,out)
 )
def Zse:Nat→(List Int)→(List Int)→Int→Int→Int→(List Int)→Option ((List Int)×(List Int)×Int×Int×(List Int))
 |0,_,_,_,_,_,_=>none
 |n_+1,a,b,i,c,j,out=>ZvD (Zse n_) a b i c j out
def ZvE (rec_:(List Int)→(List Int)→Int→(List Int)→Option (List Int)) (a:(List Int)) (b:(List Int)) (i:Int) (out:(List Int)):Option (List Int):=
 bif (decide (i < (a.length:Int)))then (
  (Zse big a b i (0:Int) (0:Int) out).bind fun(x0,x1,x2,x3,x4)=>Zud rec_ x0 x1 x2 x3 x4
 )else (
  some out
 )
def Zqs:Nat→(List Int)→(List Int)→Int→(List Int)→Option (List Int)
 |0,_,_,_,_=>none
 |n_+1,a,b,i,out=>ZvE (Zqs n_) a b i out
def Zte (a:(List Int)) (b:(List Int)):Option (List Int):=
 chk (inK .i64 ((a.length:Int)+(b.length:Int))) <|
 chk (mkOk ((a.length:Int)+(b.length:Int)) ((a.length:Int)+(b.length:Int)) 4) <|
 (Zqs big a b (0:Int) (List.replicate (((a.length:Int)+(b.length:Int))).toNat (0:Int))).bind fun x0=>Zuc x0
def ZqF (a:ZnC) (b:ZnC):Option ZnC:=
 (Zte a.Words b.Words).bind fun q=>
 (ZnO (!(a.Neg == b.Neg)) q).bind fun q_1=>
 some q_1
def Zue (c:Int) (out:(List Int)):Option (List Int):=
 chk (ZiZ (out.length+([(IntKind.wrap .u32 c)]:(List Int)).length) 4) <|
 some (out++([(IntKind.wrap .u32 c)]:(List Int)))
def Zsm (rec_:(List Int)→(List Int)→Int→Int→(List Int)→Option (Int×(List Int))) (a:(List Int)) (b:(List Int)) (c:Int) (i:Int) (out:(List Int)):Option (Int×(List Int)):=
 chk (ZiZ (out.length+([(IntKind.wrap .u32 c)]:(List Int)).length) 4) <|
 chk (decide (0≤(32:Int))) <|
 chk (inK .i64 (i+1)) <|
 rec_ a b (shrK .u64 c 32) (i+1) (out++([(IntKind.wrap .u32 c)]:(List Int)))
def Zsn (rec_:(List Int)→(List Int)→Int→Int→(List Int)→Option (Int×(List Int))) (a:(List Int)) (b:(List Int)) (c:Int) (i:Int) (out:(List Int)):Option (Int×(List Int)):=
 bif (decide (i < (b.length:Int)))then (
  (idx b i).bind fun b_e=>
  Zsm rec_ a b (IntKind.wrap .u64 (c+(IntKind.wrap .u64 b_e))) i out
 )else (
  Zsm rec_ a b c i out
 )
def Zso (rec_:(List Int)→(List Int)→Int→Int→(List Int)→Option (Int×(List Int))) (a:(List Int)) (b:(List Int)) (c:Int) (i:Int) (t17:Bool) (out:(List Int)):Option (Int×(List Int)):=
 bif t17 then (
  bif (decide (i < (a.length:Int)))then (
   (idx a i).bind fun a_e=>
   Zsn rec_ a b (IntKind.wrap .u64 (c+(IntKind.wrap .u64 a_e))) i out
  )else (
   Zsn rec_ a b c i out
  )
 )else (
  some (c,out)
 )
def ZvF (rec_:(List Int)→(List Int)→Int→Int→(List Int)→Option (Int×(List Int))) (a:(List Int)) (b:(List Int)) (c:Int) (i:Int) (out:(List Int)):Option (Int×(List Int)):=
 bif (decide (i < (a.length:Int)))then (
  Zso rec_ a b c i true out
 )else (
  Zso rec_ a b c i (decide (i < (b.length:Int))) out
 )
def Zoz:Nat→(List Int)→(List Int)→Int→Int→(List Int)→Option (Int×(List Int))
 |0,_,_,_,_,_=>none
 |n_+1,a,b,c,i,out=>ZvF (Zoz n_) a b c i out
def Ztf (a:(List Int)) (b:(List Int)):Option (List Int):=
 (Zoz big a b (0:Int) (0:Int) ([]:(List Int))).bind fun(x0,x1)=>Zue x0 x1
def ZsX (a:ZnC) (b:ZnC):Option ZnC:=
 bif (a.Neg == b.Neg)then (
  (Ztf a.Words b.Words).bind fun q=>
  (ZnO a.Neg q).bind fun q_1=>
  some q_1
 )else (
  (ZoA a.Words b.Words).bind fun q_2=>
  bif (decide (q_2≥0))then (
   (Zok a.Words b.Words).bind fun q_3=>
   (ZnO a.Neg q_3).bind fun q_4=>
   some q_4
  )else (
   (Zok b.Words a.Words).bind fun q_5=>
   (ZnO b.Neg q_5).bind fun q_6=>
   some q_6
  )
 )
def ZsH (a:ZnC):Option ZnC:=
 (ZnO (!a.Neg) a.Words).bind fun q=>
 some q
def ZqQ (t2:Bool) (t2_1:Bool) (n:ZnC) (d:ZnC) (t2_2:(List Int)) (t2_3:(List Int)):Option (ZnA×Bool):=
 (Zow n d).bind fun q=>
 some (q,true)
def Zs5 (neg:Bool) (t2:Bool) (t2_1:Bool) (n:ZnC) (d:ZnC) (t2_2:(List Int)) (t2_3:(List Int)):Option (ZnA×Bool):=
 bif neg then (
  (ZsH n).bind fun n_1=>
  ZqQ t2 t2_1 n_1 d t2_2 t2_3
 )else (
  ZqQ t2 t2_1 n d t2_2 t2_3
 )
def ZqR (rec_:Bool→Bool→Bool→ZnC→ZnC→Str→Nat→(List Int)→(List Int)→Option (Bool×Bool×Bool×ZnC×ZnC×(List Int)×(List Int))) (neg:Bool) (t45:Bool) (t2:Bool) (t2_1:Bool) (n:ZnC) (d:ZnC) (t43:Str) (t43_pos:Nat) (t2_2:(List Int)) (t2_3:(List Int)):Option (Bool×Bool×Bool×ZnC×ZnC×(List Int)×(List Int)):=
 bif t45 then (
  (ZnM 10).bind fun q=>
  (ZqF d q).bind fun d_1=>
  rec_ neg t2 t2_1 n d_1 t43 t43_pos t2_2 t2_3
 )else (
  some (neg,t2,t2_1,n,d,t2_2,t2_3)
 )
def ZuI (rec_:Bool→Bool→Bool→ZnC→ZnC→Str→Nat→(List Int)→(List Int)→Option (Bool×Bool×Bool×ZnC×ZnC×(List Int)×(List Int))) (neg:Bool) (t2:Bool) (t2_1:Bool) (n:ZnC) (d:ZnC) (t43:Str) (t43_pos:Nat) (t2_2:(List Int)) (t2_3:(List Int)):Option (Bool×Bool×Bool×ZnC×ZnC×(List Int)×(List Int)):=
 bif (decide (t43_pos < t43.length))then (
  ZqR rec_ neg true t2 t2_1 n d t43 (t43_pos+(Utf8.decode ⟨List.toArray t43⟩ t43_pos).2) t2_2 t2_3
 )else (
  ZqR rec_ neg false t2 t2_1 n d t43 t43_pos t2_2 t2_3
 )
def Zph:Nat→Bool→Bool→Bool→ZnC→ZnC→Str→Nat→(List Int)→(List Int)→Option (Bool×Bool×Bool×ZnC×ZnC×(List Int)×(List Int))
 |0,_,_,_,_,_,_,_,_,_=>none
 |n_+1,neg,t2,t2_1,n,d,t43,t43_pos,t2_2,t2_3=>ZuI (Zph n_) neg t2 t2_1 n d t43 t43_pos t2_2 t2_3
def Zs6 (neg:Bool) (places:Str) (t2:Bool) (t2_1:Bool) (n:ZnC) (d:ZnC) (t2_2:(List Int)) (t2_3:(List Int)):Option (ZnA×Bool):=
 (Zph big neg t2 t2_1 n d places 0 t2_2 t2_3).bind fun(x0,x1,x2,x3,x4,x5,x6)=>Zs5 x0 x1 x2 x3 x4 x5 x6
def ZuJ (rec_:Bool→Str→Int→Int→Bool→Bool→ZnC→ZnC→(List Int)→(List Int)→(List Int)→Option (Bool×Str×Bool×Bool×ZnC×ZnC×(List Int)×(List Int))) (neg:Bool) (places:Str) (t28:Int) (t29:Int) (t2:Bool) (t2_1:Bool) (n:ZnC) (d:ZnC) (t27:(List Int)) (t2_2:(List Int)) (t2_3:(List Int)):Option (Bool×Str×Bool×Bool×ZnC×ZnC×(List Int)×(List Int)):=
 bif (decide (t29 < t28))then (
  chk (inR t29 (t27.length:Int)) <|
  (t27[(t29).toNat]?).bind fun c=>
  (ZnM 10).bind fun q=>
  (ZqF n q).bind fun q_1=>
  (ZnM (IntKind.wrap .i64 (IntKind.wrap .u8 (c - 48)))).bind fun q_2=>
  (ZsX q_1 q_2).bind fun n_1=>
  chk (inK .i64 (t29+1)) <|
  rec_ neg places t28 (t29+1) t2 t2_1 n_1 d t27 t2_2 t2_3
 )else (
  some (neg,places,t2,t2_1,n,d,t2_2,t2_3)
 )
def ZqP:Nat→Bool→Str→Int→Int→Bool→Bool→ZnC→ZnC→(List Int)→(List Int)→(List Int)→Option (Bool×Str×Bool×Bool×ZnC×ZnC×(List Int)×(List Int))
 |0,_,_,_,_,_,_,_,_,_,_,_=>none
 |n_+1,neg,places,t28,t29,t2,t2_1,n,d,t27,t2_2,t2_3=>ZuJ (ZqP n_) neg places t28 t29 t2 t2_1 n d t27 t2_2 t2_3
def ZrP (s:Str):Option (ZnA×Bool):=
 (ZqG s).bind fun(neg,digits,places,ok)=>
 bif (!ok)then (
  some ((ZnA.mk (ZnC.mk false ([]:(List Int))) (ZnC.mk false ([]:(List Int)))),false)
 )else (
  (ZnM 1).bind fun d=>
  chk (decide (digits.length+places.length≤Zq)) <|
  chk (decide ((digits++places).length≤281474976710656)) <|
  (ZqP big neg places (((digits++places).map fun b=>((b.toNat:Nat):Int)).length:Int) (0:Int) false false (ZnC.mk false ([]:(List Int))) d ((digits++places).map fun b=>((b.toNat:Nat):Int)) ([]:(List Int)) ([]:(List Int))).bind fun(x0,x1,x2,x3,x4,x5,x6,x7)=>Zs6 x0 x1 x2 x3 x4 x5 x6 x7
 )
def Zpz (n:Int) (t4:Bool) (t4_1:Bool) (t4_2:(List Int)) (t4_3:(List Int)):Option (ZnA×Bool):=
 (Zpq n 1).bind fun(f,q)=>
 some (f,true)
def Zrg (kind:Int) (t:Str) (t26:Bool) (t4:Bool) (t4_1:Bool) (t4_2:(List Int)) (t4_3:(List Int)):Option (ZnA×Bool):=
 bif t26 then (
  some ((ZnA.mk (ZnC.mk false ([]:(List Int))) (ZnC.mk false ([]:(List Int)))),false)
 )else (
  bif (kind == 2)then (
   bif (t == ([116,114,117,101]:Str))then (
    Zpz (1:Int) t4 t4_1 t4_2 t4_3
   )else (
    Zpz (0:Int) t4 t4_1 t4_2 t4_3
   )
  )else (
   bif (kind == 5)then (
    (Zq6 t).bind fun(y,m,d,q)=>
    (Zrz y m d).bind fun(n,q_1)=>
    Zpz n t4 t4_1 t4_2 t4_3
   )else (
    (ZrP t).bind fun(q_2,q_3)=>
    some (q_2,q_3)
   )
  )
 )
def ZsG (kind:Int) (s:Str):Option (ZnA×Bool):=
 (Zq7 kind s).bind fun(t,ok)=>
 bif (!ok)then (
  Zrg kind t true false false ([]:(List Int)) ([]:(List Int))
 )else (
  Zrg kind t (kind == 1) false false ([]:(List Int)) ([]:(List Int))
 )
def Zov (c:ZnB):Option (ZnA×Bool):=
 bif c.Null then (
  some ((ZnA.mk (ZnC.mk false ([]:(List Int))) (ZnC.mk false ([]:(List Int)))),false)
 )else (
  (ZsG 4 c.Text).bind fun(q,q_1)=>
  some (q,q_1)
 )
def ZnL (t4:Bool):Option Bool:=
 some t4
def Zoh (k:Int) (full:Int) (n:Int) (a:ZnE) (b:ZnE) (c:Str) (c_1:(List ZnB)):Option Bool:=
 chk (decide (0≤(0:Int)∧(0:Int)≤(c_1.length:Int)∧(c_1.length:Int)≤(c_1.length:Int)∧(c_1.length:Int)=(c_1.length:Int))) <|
 (idx a.Cells k).bind fun Cell=>
 chk (decide (List.isEmpty ([Cell,(ZnB.mk true ([]:Str))]:(List ZnB))=false)) <|
 chk (ZiZ ((c_1.take ((c_1.length:Int)).toNat).length+([Cell,(ZnB.mk true ([]:Str))]:(List ZnB)).length) 24) <|
 (Zn8 a).bind fun q=>
 (Zof n (if full > (1:Int)then full else (1:Int))).bind fun q_1=>
 (ZnT q q_1).bind fun q_2=>
 bif q_2 then (
  (Zn8 (ZnE.mk c c_1)).bind fun q_3=>
  (Zn8 a).bind fun q_4=>
  (ZnT q_3 q_4).bind fun q_5=>
  bif q_5 then (
   (ZqE a b).bind fun q_6=>
   (ZqE (ZnE.mk c c_1) b).bind fun q_7=>
   (ZnT q_6 q_7).bind fun q_8=>
   bif q_8 then (
    (Zpl (ZnE.mk a.Name ((c_1.take ((c_1.length:Int)).toNat)++([Cell,(ZnB.mk true ([]:Str))]:(List ZnB)))) b).bind fun q_9=>
    (Zpl a b).bind fun q_10=>
    (ZnT q_9 q_10).bind fun q_11=>
    bif q_11 then (
     (ZoL).bind fun q_12=>
     ZnL q_12
    )else (
     ZnL false
    )
   )else (
    ZnL false
   )
  )else (
   ZnL false
  )
 )else (
  ZnL false
 )
def ZnW (rec_:Int→Int→Int→(List ZnB)→Int→Int→ZnE→ZnE→Str→(List ZnB)→Option (Int×Int×Int×ZnE×ZnE×Str×(List ZnB))) (k:Int) (full:Int) (n:Int) (t51:(List ZnB)) (t52:Int) (t53:Int) (a:ZnE) (b:ZnE) (c:Str) (c_1:(List ZnB)):Option (Int×Int×Int×ZnE×ZnE×Str×(List ZnB)):=
 chk (inK .i64 (t53+1)) <|
 rec_ k full n t51 t52 (t53+1) a b c c_1
def Zoa (rec_:Int→Int→Int→(List ZnB)→Int→Int→ZnE→ZnE→Str→(List ZnB)→Option (Int×Int×Int×ZnE×ZnE×Str×(List ZnB))) (k:Int) (full:Int) (n:Int) (t51:(List ZnB)) (t52:Int) (t53:Int) (a:ZnE) (b:ZnE) (c:Str) (c_1:(List ZnB)):Option (Int×Int×Int×ZnE×ZnE×Str×(List ZnB)):=
 bif (decide (t53 < t52))then (
  (idx t51 t53).bind fun x_=>
  bif (!x_.Null)then (
   chk (inK .i64 (full+1)) <|
   (Zov x_).bind fun(q,ok)=>
   bif ok then (
    chk (inK .i64 (n+1)) <|
    ZnW rec_ k (full+1) (n+1) t51 t52 t53 a b c c_1
   )else (
    ZnW rec_ k (full+1) n t51 t52 t53 a b c c_1
   )
  )else (
   ZnW rec_ k full n t51 t52 t53 a b c c_1
  )
 )else (
  some (k,full,n,a,b,c,c_1)
 )
def ZnV:Nat→Int→Int→Int→(List ZnB)→Int→Int→ZnE→ZnE→Str→(List ZnB)→Option (Int×Int×Int×ZnE×ZnE×Str×(List ZnB))
 |0,_,_,_,_,_,_,_,_,_,_=>none
 |n_+1,k,full,n,t51,t52,t53,a,b,c,c_1=>Zoa (ZnV n_) k full n t51 t52 t53 a b c c_1
def Zqm (n:Nat) (s:(Int×Int×Int×(List ZnB)×Int×Int×ZnE×ZnE×Str×(List ZnB))):Option (Int×Int×Int×ZnE×ZnE×Str×(List ZnB)):=ZnV n s.1 s.2.1 s.2.2.1 s.2.2.2.1 s.2.2.2.2.1 s.2.2.2.2.2.1 s.2.2.2.2.2.2.1 s.2.2.2.2.2.2.2.1 s.2.2.2.2.2.2.2.2.1 s.2.2.2.2.2.2.2.2.2
def ZoI (rec_:(Int×Int×Int×(List ZnB)×Int×Int×ZnE×ZnE×Str×(List ZnB))→Option (Int×Int×Int×ZnE×ZnE×Str×(List ZnB))) (s:(Int×Int×Int×(List ZnB)×Int×Int×ZnE×ZnE×Str×(List ZnB))):Option (Int×Int×Int×ZnE×ZnE×Str×(List ZnB)):=Zoa (fun k full n t51 t52 t53 a b c c_1=>rec_ (k,full,n,t51,t52,t53,a,b,c,c_1)) s.1 s.2.1 s.2.2.1 s.2.2.2.1 s.2.2.2.2.1 s.2.2.2.2.2.1 s.2.2.2.2.2.2.1 s.2.2.2.2.2.2.2.1 s.2.2.2.2.2.2.2.2.1 s.2.2.2.2.2.2.2.2.2
theorem Ztg:∀n s,Zqm (n+1) s=ZoI (Zqm n) s:=fun _ _=>rfl
def Zot (t:(List Int)) (turn:Int):Option Bool:=
 (ZrA t).bind fun q=>
 bif (!q)then (
  (ZoL).bind fun q_1=>
  some q_1
 )else (
  (ZrY t).bind fun d=>
  (ZnN d 7).bind fun(q_2,t24)=>
  chk (inK .i64 (1+q_2)) <|
  (ZoW t24 (1+q_2)).bind fun(a,t23)=>
  (ZnN t23 7).bind fun(q_3,t29)=>
  (ZoW t29 q_3).bind fun(b,t28)=>
  (ZpV turn (a.Cells.length:Int)).bind fun k=>
  chk (Zb9 k (a.Cells.length:Int) (a.Cells.length:Int)) <|
  chk (ZiZ (a.Cells.drop (k).toNat).length 24) <|
  chk (Zb9 0 k (a.Cells.length:Int)) <|
  chk (ZiZ ((a.Cells.drop (k).toNat).length+(a.Cells.take (k).toNat).length) 24) <|
  (ZnV big k (0:Int) (0:Int) a.Cells (a.Cells.length:Int) (0:Int) a b a.Name ((a.Cells.drop (k).toNat)++(a.Cells.take (k).toNat))).bind fun(x0,x1,x2,x3,x4,x5,x6)=>Zoh x0 x1 x2 x3 x4 x5 x6
 )
end
end Go.Proofs
