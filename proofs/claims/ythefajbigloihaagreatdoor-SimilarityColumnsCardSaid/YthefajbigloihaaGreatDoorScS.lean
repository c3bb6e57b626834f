/- Printed by wip/tools/tgen.py: specs. -/
import Derived.Test.YthefajbigloihaaGreatDoorE4
import Derived.Lib.Bytealg
import Derived.Lib.ItoaNum
import Derived.Lib.SlTrimSet
import Derived.Shelf.Strconv.Itoa3
import Derived.Test.YthefajbigloihaaGreatDoorScWD
set_option linter.unusedVariables false
set_option linter.unusedSimpArgs false
set_option linter.unusedSectionVars false
namespace Go.Proofs
open Go Eng
set_option maxRecDepth 100000
noncomputable section
structure G_api_Cell where
 Null:Bool
 Text:Str
 deriving DecidableEq,Inhabited
structure G_api_Column where
 Name:Str
 Cells:(List G_api_Cell)
 deriving DecidableEq,Inhabited
structure ZnB where
 Neg:Bool
 Words:(List Int)
 deriving DecidableEq,Inhabited
structure ZnA where
 Num:ZnB
 Den:ZnB
 deriving DecidableEq,Inhabited
structure ZoA where
 word:Str
 canonical:(Option Nat)
 value:(Option Nat)
 deriving DecidableEq,Inhabited
structure ZnD where
 l:(List Int)
 at_:Int
 deriving DecidableEq,Inhabited
structure ZnH where
 e0:G_api_Column
 e1:G_api_Column
 deriving DecidableEq,Inhabited
def ZyK:Nat→Type
 |0=>G_api_Cell
 |1=>G_api_Column
 |2=>ZnB
 |3=>ZnA
 |4=>ZoA
 |5=>ZnD
 |6=>ZnH
 |_=>Unit
def ZIZ:Nat→Nat
 |0=>2
 |1=>2
 |2=>2
 |3=>4
 |4=>3
 |5=>2
 |6=>4
 |_=>0
def ZzW:List (Lf ZyK):=[⟨.sl (.int .u32),([1]:List Int)⟩]
def ZwJ:List (Lf ZyK):=(Lib.pow10Tab.map fun n=>⟨.int .u64,n⟩)
def Ztx (t:(List Int)):Option Bool:=
 some (decide ((t.length:Int)≤500))
def Zpa (name:Str):Option (List Str):=
 ZAI (chk (decide (name.length≤1099511627776)) <| some (Zs5 (Zyx (name++[32]) [])))
def Zuz:Option Bool:=
 some true
def Zo3 (rec_:(List Str)→(List Str)→Int→Int→Option (Out Unit Bool)) (b:(List Str)) (t12:(List Str)) (t13:Int) (i:Int):Option (Out Unit Bool):=
 bif (decide (i < t13))then (
  (idx t12 i).bind fun s=>
  (idx b i).bind fun b_e=>
  bif (!(b_e == s))then (
   some (.ret false)
  )else (
   chk (inK .i64 (i+1)) <|
   rec_ b t12 t13 (i+1)
  )
 )else (
  some (.brk ())
 )
def ZoC:Nat→(List Str)→(List Str)→Int→Int→Option (Out Unit Bool)
 |0,_,_,_,_=>none
 |n_+1,b,t12,t13,i=>Zo3 (ZoC n_) b t12 t13 i
def ZtR (n:Nat) (s:((List Str)×(List Str)×Int×Int)):Option (Out Unit Bool):=ZoC n s.1 s.2.1 s.2.2.1 s.2.2.2
def ZqM (rec_:((List Str)×(List Str)×Int×Int)→Option (Out Unit Bool)) (s:((List Str)×(List Str)×Int×Int)):Option (Out Unit Bool):=Zo3 (fun b t12 t13 i=>rec_ (b,t12,t13,i)) s.1 s.2.1 s.2.2.1 s.2.2.2
theorem ZwK:∀n s,ZtR (n+1) s=ZqM (ZtR n) s:=fun _ _=>rfl
def Zo4 (a:(List Str)) (b:(List Str)):Option Bool:=
 bif ((a.length:Int) != (b.length:Int))then (
  some false
 )else (
  (ZoC big b a (a.length:Int) (0:Int)).bind fun
   | .ret q_=>some q_
   | .brk ()=>Zuz
 )
def ZsC (c:G_api_Column):Option (List Str):=
 ZAI (chk (decide (c.Cells.length≤1099511627776)) <| some (Zs5 ((c.Cells.filter fun x=> !x.Null).map fun x=>x.Text)))
def Zt0 (x_:Str):Option Bool:=
 some (!(x_ == x_))
def ZsJ (t4:Bool):Option Bool:=
 some t4
def ZuN (x_:Str) (y:Str):Option Bool:=
 (Zt0 x_).bind fun q=>
 bif q then (
  (Zt0 y).bind fun q_1=>
  bif (!q_1)then (
   ZsJ true
  )else (
   ZsJ (Op.bytesLess x_ y)
  )
 )else (
  ZsJ (Op.bytesLess x_ y)
 )
def Zsh (x_:Str):Option Bool:=
 some (!(x_ == x_))
def ZnV (t4:Int) (t5:Bool):Option (Int×Bool):=
 some (t4,t5)
def ZpH (x_:(List Str)) (target:Str) (n:Int) (i:Int):Option (Int×Bool):=
 bif (decide (i < n))then (
  (idx x_ i).bind fun x__e=>
  bif (x__e == target)then (
   ZnV i true
  )else (
   (idx x_ i).bind fun x__e_1=>
   (Zsh x__e_1).bind fun q=>
   bif q then (
    (Zsh target).bind fun q_1=>
    ZnV i q_1
   )else (
    ZnV i false
   )
  )
 )else (
  ZnV i false
 )
def Zpg (rec_:(List Str)→Str→Int→Int→Int→Option ((List Str)×Str×Int×Int)) (x_:(List Str)) (target:Str) (n:Int) (i:Int) (j:Int):Option ((List Str)×Str×Int×Int):=
 bif (decide (i < j))then (
  chk (inK .i64 (i+j)) <|
  chk (decide (0≤(1:Int))) <|
  (idx x_ (IntKind.wrap .i64 (shrK .u64 (IntKind.wrap .u64 (i+j)) 1))).bind fun x__e=>
  (ZuN x__e target).bind fun q=>
  bif q then (
   chk (inK .i64 ((IntKind.wrap .i64 (shrK .u64 (IntKind.wrap .u64 (i+j)) 1))+1)) <|
   rec_ x_ target n ((IntKind.wrap .i64 (shrK .u64 (IntKind.wrap .u64 (i+j)) 1))+1) j
  )else (
   rec_ x_ target n i (IntKind.wrap .i64 (shrK .u64 (IntKind.wrap .u64 (i+j)) 1))
  )
 )else (
  some (x_,target,n,i)
 )
def Zow:Nat→(List Str)→Str→Int→Int→Int→Option ((List Str)×Str×Int×Int)
 |0,_,_,_,_,_=>none
 |n_+1,x_,target,n,i,j=>Zpg (Zow n_) x_ target n i j
def ZrO (n:Nat) (s:((List Str)×Str×Int×Int×Int)):Option ((List Str)×Str×Int×Int):=Zow n s.1 s.2.1 s.2.2.1 s.2.2.2.1 s.2.2.2.2
def ZrP (rec_:((List Str)×Str×Int×Int×Int)→Option ((List Str)×Str×Int×Int)) (s:((List Str)×Str×Int×Int×Int)):Option ((List Str)×Str×Int×Int):=Zpg (fun x_ target n i j=>rec_ (x_,target,n,i,j)) s.1 s.2.1 s.2.2.1 s.2.2.2.1 s.2.2.2.2
theorem Zvm:∀n s,ZrO (n+1) s=ZrP (ZrO n) s:=fun _ _=>rfl
def Zoi (x_:(List Str)) (target:Str):Option (Int×Bool):=
 (Zow big x_ target (x_.length:Int) (0:Int) (x_.length:Int)).bind fun(x0,x1,x2,x3)=>ZpH x0 x1 x2 x3
def Zvn (n:Int):Option Int:=
 some n
def Zty (rec_:(List Str)→Int→(List Str)→Int→Int→Option Int) (b:(List Str)) (n:Int) (t10:(List Str)) (t11:Int) (t12:Int):Option Int:=
 chk (inK .i64 (t12+1)) <|
 rec_ b n t10 t11 (t12+1)
def Zsl (rec_:(List Str)→Int→(List Str)→Int→Int→Option Int) (b:(List Str)) (n:Int) (t10:(List Str)) (t11:Int) (t12:Int):Option Int:=
 bif (decide (t12 < t11))then (
  (idx t10 t12).bind fun s=>
  (Zoi b s).bind fun(q,ok)=>
  bif ok then (
   chk (inK .i64 (n+1)) <|
   Zty rec_ b (n+1) t10 t11 t12
  )else (
   Zty rec_ b n t10 t11 t12
  )
 )else (
  some n
 )
def Zry:Nat→(List Str)→Int→(List Str)→Int→Int→Option Int
 |0,_,_,_,_,_=>none
 |n_+1,b,n,t10,t11,t12=>Zsl (Zry n_) b n t10 t11 t12
def ZwI (n:Nat) (s:((List Str)×Int×(List Str)×Int×Int)):Option Int:=Zry n s.1 s.2.1 s.2.2.1 s.2.2.2.1 s.2.2.2.2
def ZuG (rec_:((List Str)×Int×(List Str)×Int×Int)→Option Int) (s:((List Str)×Int×(List Str)×Int×Int)):Option Int:=Zsl (fun b n t10 t11 t12=>rec_ (b,n,t10,t11,t12)) s.1 s.2.1 s.2.2.1 s.2.2.2.1 s.2.2.2.2
theorem Zyt:∀n s,ZwI (n+1) s=ZuG (ZwI n) s:=fun _ _=>rfl
def Ztm (a:(List Str)) (b:(List Str)):Option Int:=
 (Zry big b (0:Int) a (a.length:Int) (0:Int)).bind fun x0=>Zvn x0
def ZvY (w_:(List Int)):Option (List Int):=
 some w_
def ZtV (rec_:(List Int)→Option (List Int)) (w_:(List Int)) (t14:Bool):Option (List Int):=
 bif t14 then (
  chk (inK .i64 ((w_.length:Int) - 1)) <|
  chk (Zb9 0 ((w_.length:Int) - 1) (w_.length:Int)) <|
  rec_ (w_.take (((w_.length:Int) - 1)).toNat)
 )else (
  some w_
 )
def ZsY (rec_:(List Int)→Option (List Int)) (w_:(List Int)):Option (List Int):=
 bif (decide ((w_.length:Int) > 0))then (
  chk (inK .i64 ((w_.length:Int) - 1)) <|
  (idx w_ ((w_.length:Int) - 1)).bind fun w__e=>
  ZtV rec_ w_ (w__e == 0)
 )else (
  ZtV rec_ w_ false
 )
def ZoL:Nat→(List Int)→Option (List Int)
 |0,_=>none
 |n_+1,w_=>ZsY (ZoL n_) w_
def ZwO (n:Nat) (s:(List Int)):Option (List Int):=ZoL n s
def ZwP (rec_:(List Int)→Option (List Int)) (s:(List Int)):Option (List Int):=ZsY (fun w_=>rec_ w_) s
theorem Zyz:∀n s,ZwO (n+1) s=ZwP (ZwO n) s:=fun _ _=>rfl
def Zn1 (w_:(List Int)):Option (List Int):=
 (ZoL big w_).bind fun x0=>ZvY x0
def Zra (n:Int):Option (List Int):=
 chk (decide (0≤(32:Int))) <|
 (Zn1 ([(IntKind.wrap .u32 n),(IntKind.wrap .u32 (shrK .u64 n 32))]:(List Int))).bind fun q=>
 some q
def Zuu (t4:Bool) (t4_1:(List Int)):Option ZnB:=
 some (ZnB.mk t4 t4_1)
def Zn9 (neg:Bool) (w_:(List Int)):Option ZnB:=
 bif neg then (
  chk (ZiZ w_.length 4) <|
  Zuu (decide ((w_.length:Int) > 0)) w_
 )else (
  chk (ZiZ w_.length 4) <|
  Zuu false w_
 )
def Zsp (n:Int):Option ZnB:=
 bif (decide (n < 0))then (
  (Zra (IntKind.wrap .u64 (0 - (IntKind.wrap .u64 n)))).bind fun q=>
  (Zn9 true q).bind fun q_1=>
  some q_1
 )else (
  (Zra (IntKind.wrap .u64 n)).bind fun q_2=>
  (Zn9 false q_2).bind fun q_3=>
  some q_3
 )
def Zoz (t2:Bool):Option Bool:=
 some t2
def ZrM (a:ZnB):Option Bool:=
 bif (decide ((a.Words.length:Int)≤256))then (
  bif ((a.Words.length:Int) == 0)then (
   bif (!a.Neg)then (
    Zoz true
   )else (
    bif (decide ((a.Words.length:Int) > 0))then (
     chk (inK .i64 ((a.Words.length:Int) - 1)) <|
     (idx a.Words ((a.Words.length:Int) - 1)).bind fun Word=>
     Zoz (Word != 0)
    )else (
     Zoz false
    )
   )
  )else (
   bif (decide ((a.Words.length:Int) > 0))then (
    chk (inK .i64 ((a.Words.length:Int) - 1)) <|
    (idx a.Words ((a.Words.length:Int) - 1)).bind fun Word_1=>
    Zoz (Word_1 != 0)
   )else (
    Zoz false
   )
  )
 )else (
  Zoz false
 )
def Zyj:Option Bool:=
 some true
def Zuv (rec_:(List ZnB)→Int→Int→Option (Out Unit Bool)) (t5:(List ZnB)) (t6:Int) (t7:Int):Option (Out Unit Bool):=
 bif (decide (t7 < t6))then (
  (idx t5 t7).bind fun a=>
  (ZrM a).bind fun q=>
  bif (!q)then (
   some (.ret false)
  )else (
   chk (inK .i64 (t7+1)) <|
   rec_ t5 t6 (t7+1)
  )
 )else (
  some (.brk ())
 )
def ZvC:Nat→(List ZnB)→Int→Int→Option (Out Unit Bool)
 |0,_,_,_=>none
 |n_+1,t5,t6,t7=>Zuv (ZvC n_) t5 t6 t7
def ZxD (n:Nat) (s:((List ZnB)×Int×Int)):Option (Out Unit Bool):=ZvC n s.1 s.2.1 s.2.2
def Zwm (rec_:((List ZnB)×Int×Int)→Option (Out Unit Bool)) (s:((List ZnB)×Int×Int)):Option (Out Unit Bool):=Zuv (fun t5 t6 t7=>rec_ (t5,t6,t7)) s.1 s.2.1 s.2.2
theorem Zy5:∀n s,ZxD (n+1) s=Zwm (ZxD n) s:=fun _ _=>rfl
def ZuM (l:(List ZnB)):Option Bool:=
 (ZvC big l (l.length:Int) (0:Int)).bind fun
  | .ret q_=>some q_
  | .brk ()=>Zyj
def Zv5 (x_:Int):Option Bool:=
 some (x_ != x_)
def ZuO (x_:Int) (y:Int):Option Int:=
 (Zv5 x_).bind fun xNaN=>
 (Zv5 y).bind fun yNaN=>
 bif xNaN then (
  bif yNaN then (
   some (0:Int)
  )else (
   some (-1:Int)
  )
 )else (
  bif yNaN then (
   some (1:Int)
  )else (
   bif (decide (x_ < y))then (
    some (-1:Int)
   )else (
    bif (decide (x_ > y))then (
     some (1:Int)
    )else (
     some (0:Int)
    )
   )
  )
 )
def ZvD (x_:Int):Option Bool:=
 some (x_ != x_)
def Zuw (x_:Int) (y:Int):Option Int:=
 (ZvD x_).bind fun xNaN=>
 (ZvD y).bind fun yNaN=>
 bif xNaN then (
  bif yNaN then (
   some (0:Int)
  )else (
   some (-1:Int)
  )
 )else (
  bif yNaN then (
   some (1:Int)
  )else (
   bif (decide (x_ < y))then (
    some (-1:Int)
   )else (
    bif (decide (x_ > y))then (
     some (1:Int)
    )else (
     some (0:Int)
    )
   )
  )
 )
def Ztt:Option Int:=
 some (0:Int)
def Zqo (rec_:(List Int)→(List Int)→Int→Option (Out Unit Int)) (w_:(List Int)) (v_:(List Int)) (i:Int):Option (Out Unit Int):=
 bif (decide (i≥0))then (
  (idx w_ i).bind fun w__e=>
  (idx v_ i).bind fun v__e=>
  (Zuw w__e v__e).bind fun c=>
  bif (c != 0)then (
   some (.ret c)
  )else (
   chk (inK .i64 (i - 1)) <|
   rec_ w_ v_ (i - 1)
  )
 )else (
  some (.brk ())
 )
def Zq8:Nat→(List Int)→(List Int)→Int→Option (Out Unit Int)
 |0,_,_,_=>none
 |n_+1,w_,v_,i=>Zqo (Zq8 n_) w_ v_ i
def Zvh (n:Nat) (s:((List Int)×(List Int)×Int)):Option (Out Unit Int):=Zq8 n s.1 s.2.1 s.2.2
def ZsE (rec_:((List Int)×(List Int)×Int)→Option (Out Unit Int)) (s:((List Int)×(List Int)×Int)):Option (Out Unit Int):=Zqo (fun w_ v_ i=>rec_ (w_,v_,i)) s.1 s.2.1 s.2.2
theorem Zxp:∀n s,Zvh (n+1) s=ZsE (Zvh n) s:=fun _ _=>rfl
def Zol (w_:(List Int)) (v_:(List Int)):Option Int:=
 (ZuO (w_.length:Int) (v_.length:Int)).bind fun c=>
 bif (c != 0)then (
  some c
 )else (
  chk (inK .i64 ((w_.length:Int) - 1)) <|
  (Zq8 big w_ v_ ((w_.length:Int) - 1)).bind fun
   | .ret q_=>some q_
   | .brk ()=>Ztt
 )
def ZnJ (s:(List Int)) (t4:Bool):Option (List Int):=
 bif t4 then (
  some ([]:(List Int))
 )else (
  chk (ZiZ (([]:(List Int)).length+s.length) 4) <|
  some (([]:(List Int))++s)
 )
def Zog (s:(List Int)):Option (List Int):=
 bif (List.isEmpty s)then agree (
  ZnJ s true
 ) (
  ZnJ s false
 )else (
  ZnJ s false
 )
def ZsH (hi:Int) (lo:Int) (y:Int) (t15:Bool):Option (Int×Int):=
 bif t15 then (
  none
 )else (
  chk (decide (0≤(32:Int))) <|
  chk (decide ((IntKind.wrap .u64 y)≠0)) <|
  chk (decide ((IntKind.wrap .u64 y)≠0)) <|
  some ((IntKind.wrap .u32 (IntKind.wrap .u64 (Int.tdiv (orK .u64 (shlK .u64 (IntKind.wrap .u64 hi) 32) (IntKind.wrap .u64 lo)) (IntKind.wrap .u64 y)))),(IntKind.wrap .u32 (Int.tmod (orK .u64 (shlK .u64 (IntKind.wrap .u64 hi) 32) (IntKind.wrap .u64 lo)) (IntKind.wrap .u64 y))))
 )
def ZuI (hi:Int) (lo:Int) (y:Int):Option (Int×Int):=
 bif (y != 0)then (
  ZsH hi lo y (decide (y≤hi))
 )else (
  ZsH hi lo y false
 )
def Zun (rest:Int) (out:(List Int)):Option ((List Int)×Int):=
 (Zn1 out).bind fun q=>
 some (q,rest)
def Zq5 (rec_:(List Int)→Int→Int→Int→(List Int)→Option (Int×(List Int))) (w_:(List Int)) (d:Int) (rest:Int) (i:Int) (out:(List Int)):Option (Int×(List Int)):=
 bif (decide (i≥0))then (
  (idx w_ i).bind fun w__e=>
  (ZuI rest w__e d).bind fun(q,rest_1)=>
  chk (inR i (out.length:Int)) <|
  chk (inK .i64 (i - 1)) <|
  rec_ w_ d rest_1 (i - 1) (out.set ((i).toNat) q)
 )else (
  some (rest,out)
 )
def Zr8:Nat→(List Int)→Int→Int→Int→(List Int)→Option (Int×(List Int))
 |0,_,_,_,_,_=>none
 |n_+1,w_,d,rest,i,out=>Zq5 (Zr8 n_) w_ d rest i out
def ZvV (n:Nat) (s:((List Int)×Int×Int×Int×(List Int))):Option (Int×(List Int)):=Zr8 n s.1 s.2.1 s.2.2.1 s.2.2.2.1 s.2.2.2.2
def Ztq (rec_:((List Int)×Int×Int×Int×(List Int))→Option (Int×(List Int))) (s:((List Int)×Int×Int×Int×(List Int))):Option (Int×(List Int)):=Zq5 (fun w_ d rest i out=>rec_ (w_,d,rest,i,out)) s.1 s.2.1 s.2.2.1 s.2.2.2.1 s.2.2.2.2
theorem ZxV:∀n s,ZvV (n+1) s=Ztq (ZvV n) s:=fun _ _=>rfl
def Zrz (w_:(List Int)) (d:Int):Option ((List Int)×Int):=
 chk (mkOk (w_.length:Int) (w_.length:Int) 4) <|
 chk (inK .i64 ((w_.length:Int) - 1)) <|
 (Zr8 big w_ d (0:Int) ((w_.length:Int) - 1) (List.replicate ((w_.length:Int)).toNat (0:Int))).bind fun(x0,x1)=>Zun x0 x1
def Zrc (x_:Int) (n:Int):Option Int:=
 (idx ([0,1,2,2,3,3,3,3,4,4,4,4,4,4,4,4,5,5,5,5,5,5,5,5,5,5,5,5,5,5,5,5,6,6,6,6,6,6,6,6,6,6,6,6,6,6,6,6,6,6,6,6,6,6,6,6,6,6,6,6,6,6,6,6,7,7,7,7,7,7,7,7,7,7,7,7,7,7,7,7,7,7,7,7,7,7,7,7,7,7,7,7,7,7,7,7,7,7,7,7,7,7,7,7,7,7,7,7,7,7,7,7,7,7,7,7,7,7,7,7,7,7,7,7,7,7,7,7,8,8,8,8,8,8,8,8,8,8,8,8,8,8,8,8,8,8,8,8,8,8,8,8,8,8,8,8,8,8,8,8,8,8,8,8,8,8,8,8,8,8,8,8,8,8,8,8,8,8,8,8,8,8,8,8,8,8,8,8,8,8,8,8,8,8,8,8,8,8,8,8,8,8,8,8,8,8,8,8,8,8,8,8,8,8,8,8,8,8,8,8,8,8,8,8,8,8,8,8,8,8,8,8,8,8,8,8,8,8,8,8,8,8,8,8,8,8,8,8,8,8,8,8,8,8,8,8]:Str) (IntKind.wrap .u8 x_)).bind fun c=>
 chk (inK .i64 (n+(IntKind.wrap .i64 ((c.toNat:Nat):Int)))) <|
 some (n+(IntKind.wrap .i64 ((c.toNat:Nat):Int)))
def Zus (x_:Int) (n:Int):Option Int:=
 bif (decide (x_≥256))then (
  chk (decide (0≤(8:Int))) <|
  chk (inK .i64 (n+8)) <|
  Zrc (shrK .u32 x_ 8) (n+8)
 )else (
  Zrc x_ n
 )
def ZuH (x_:Int):Option Int:=
 bif (decide (x_≥65536))then (
  chk (decide (0≤(16:Int))) <|
  Zus (shrK .u32 x_ 16) (16:Int)
 )else (
  Zus x_ (0:Int)
 )
def ZpR (x_:Int):Option Int:=
 (ZuH x_).bind fun q=>
 chk (inK .i64 (32 - q)) <|
 some (32 - q)
def Ztr (out:(List Int)):Option (List Int):=
 some out
def Zqn (rec_:Int→(List Int)→Int→Int→(List Int)→Option (List Int)) (n:Int) (t13:(List Int)) (t14:Int) (i:Int) (out:(List Int)):Option (List Int):=
 bif (decide (i < t14))then (
  (idx t13 i).bind fun d=>
  chk (decide (0≤n)) <|
  chk (inR i (out.length:Int)) <|
  (out[(i).toNat]?).bind fun out_e=>
  chk (inR i (out.length:Int)) <|
  chk (inK .i64 (i+1)) <|
  chk (decide (0≤(32:Int))) <|
  chk (inR (i+1) ((out.set ((i).toNat) (orK .u32 out_e (IntKind.wrap .u32 (shlK .u64 (IntKind.wrap .u64 d) n)))).length:Int)) <|
  chk (inK .i64 (i+1)) <|
  rec_ n t13 t14 (i+1) ((out.set ((i).toNat) (orK .u32 out_e (IntKind.wrap .u32 (shlK .u64 (IntKind.wrap .u64 d) n)))).set (((i+1)).toNat) (IntKind.wrap .u32 (shrK .u64 (shlK .u64 (IntKind.wrap .u64 d) n) 32)))
 )else (
  some out
 )
def Zq6:Nat→Int→(List Int)→Int→Int→(List Int)→Option (List Int)
 |0,_,_,_,_,_=>none
 |n_+1,n,t13,t14,i,out=>Zqn (Zq6 n_) n t13 t14 i out
def Zvg (n:Nat) (s:(Int×(List Int)×Int×Int×(List Int))):Option (List Int):=Zq6 n s.1 s.2.1 s.2.2.1 s.2.2.2.1 s.2.2.2.2
def ZsD (rec_:(Int×(List Int)×Int×Int×(List Int))→Option (List Int)) (s:(Int×(List Int)×Int×Int×(List Int))):Option (List Int):=Zqn (fun n t13 t14 i out=>rec_ (n,t13,t14,i,out)) s.1 s.2.1 s.2.2.1 s.2.2.2.1 s.2.2.2.2
theorem Zxo:∀n s,Zvg (n+1) s=ZsD (Zvg n) s:=fun _ _=>rfl
def ZoH (w_:(List Int)) (n:Int):Option (List Int):=
 chk (inK .i64 ((w_.length:Int)+1)) <|
 chk (mkOk ((w_.length:Int)+1) ((w_.length:Int)+1) 4) <|
 (Zq6 big n w_ (w_.length:Int) (0:Int) (List.replicate (((w_.length:Int)+1)).toNat (0:Int))).bind fun x0=>Ztr x0
def ZrJ (x_:Int) (y:Int) (borrow:Int):Option (Int×Int):=
 chk (decide (0≤(31:Int))) <|
 some ((IntKind.wrap .u32 ((IntKind.wrap .u32 (x_ - y)) - borrow)),(shrK .u32 (orK .u32 (andK .u32 (xorK .u32 (if IntKind.signed .u32 then -1 else IntKind.max .u32) x_) y) (andK .u32 (xorK .u32 (if IntKind.signed .u32 then -1 else IntKind.max .u32) (xorK .u32 x_ y)) (IntKind.wrap .u32 ((IntKind.wrap .u32 (x_ - y)) - borrow)))) 31))
def Zs3 (x_:Int) (y:Int) (carry:Int):Option (Int×Int):=
 chk (decide (0≤(32:Int))) <|
 some ((IntKind.wrap .u32 (IntKind.wrap .u64 ((IntKind.wrap .u64 ((IntKind.wrap .u64 x_)+(IntKind.wrap .u64 y)))+(IntKind.wrap .u64 carry)))),(IntKind.wrap .u32 (shrK .u64 (IntKind.wrap .u64 ((IntKind.wrap .u64 ((IntKind.wrap .u64 x_)+(IntKind.wrap .u64 y)))+(IntKind.wrap .u64 carry))) 32)))
def Zu0 (u_off:Nat) (u_len:Nat) (n:Int) (guess:Int) (add:Int) (u:(List Int)):Option (Int×(List Int)):=
 chk (inR n (u_len:Int)) <|
 (u[(u_off+(n).toNat)]?).bind fun u_e=>
 chk (inR n (u_len:Int)) <|
 some ((IntKind.wrap .u32 (IntKind.wrap .u64 (guess - 1))),(u.set (u_off+(n).toNat) (IntKind.wrap .u32 (u_e+add))))
def ZtW (rec_:Nat→Nat→Int→Int→Int→(List Int)→Int→Int→(List Int)→Option (Nat×Nat×Int×Int×Int×(List Int))) (u_off:Nat) (u_len:Nat) (n:Int) (guess:Int) (add:Int) (t130:(List Int)) (t131:Int) (i:Int) (u:(List Int)):Option (Nat×Nat×Int×Int×Int×(List Int)):=
 bif (decide (i < t131))then (
  (idx t130 i).bind fun x_=>
  chk (inR i (u_len:Int)) <|
  (u[(u_off+(i).toNat)]?).bind fun u_e=>
  (Zs3 u_e x_ add).bind fun(q,add_1)=>
  chk (inR i (u_len:Int)) <|
  chk (inK .i64 (i+1)) <|
  rec_ u_off u_len n guess add_1 t130 t131 (i+1) (u.set (u_off+(i).toNat) q)
 )else (
  some (u_off,u_len,n,guess,add,u)
 )
def Ztu:Nat→Nat→Nat→Int→Int→Int→(List Int)→Int→Int→(List Int)→Option (Nat×Nat×Int×Int×Int×(List Int))
 |0,_,_,_,_,_,_,_,_,_=>none
 |n_+1,u_off,u_len,n,guess,add,t130,t131,i,u=>ZtW (Ztu n_) u_off u_len n guess add t130 t131 i u
def Zxq (n:Nat) (s:(Nat×Nat×Int×Int×Int×(List Int)×Int×Int×(List Int))):Option (Nat×Nat×Int×Int×Int×(List Int)):=Ztu n s.1 s.2.1 s.2.2.1 s.2.2.2.1 s.2.2.2.2.1 s.2.2.2.2.2.1 s.2.2.2.2.2.2.1 s.2.2.2.2.2.2.2.1 s.2.2.2.2.2.2.2.2
def ZvZ (rec_:(Nat×Nat×Int×Int×Int×(List Int)×Int×Int×(List Int))→Option (Nat×Nat×Int×Int×Int×(List Int))) (s:(Nat×Nat×Int×Int×Int×(List Int)×Int×Int×(List Int))):Option (Nat×Nat×Int×Int×Int×(List Int)):=ZtW (fun u_off u_len n guess add t130 t131 i u=>rec_ (u_off,u_len,n,guess,add,t130,t131,i,u)) s.1 s.2.1 s.2.2.1 s.2.2.2.1 s.2.2.2.2.1 s.2.2.2.2.2.1 s.2.2.2.2.2.2.1 s.2.2.2.2.2.2.2.1 s.2.2.2.2.2.2.2.2
theorem ZyY:∀n s,Zxq (n+1) s=ZvZ (Zxq n) s:=fun _ _=>rfl
def ZwG (u_off:Nat) (u_len:Nat) (d:(List Int)) (n:Int) (guess:Int) (borrow:Int) (carry:Int) (u:(List Int)):Option (Int×(List Int)):=
 chk (inR n (u_len:Int)) <|
 (u[(u_off+(n).toNat)]?).bind fun u_e=>
 (ZrJ u_e (IntKind.wrap .u32 carry) borrow).bind fun(q,borrow_1)=>
 chk (inR n (u_len:Int)) <|
 bif (borrow_1 == 0)then (
  some ((IntKind.wrap .u32 guess),(u.set (u_off+(n).toNat) q))
 )else (
  (Ztu big u_off u_len n guess (0:Int) d (d.length:Int) (0:Int) (u.set (u_off+(n).toNat) q)).bind fun(x0,x1,x2,x3,x4,x5)=>Zu0 x0 x1 x2 x3 x4 x5
 )
def ZtX (rec_:Nat→Nat→(List Int)→Int→Int→Int→Int→(List Int)→Int→Int→(List Int)→Option (Nat×Nat×(List Int)×Int×Int×Int×Int×(List Int))) (u_off:Nat) (u_len:Nat) (d:(List Int)) (n:Int) (guess:Int) (borrow:Int) (carry:Int) (t82:(List Int)) (t83:Int) (i:Int) (u:(List Int)):Option (Nat×Nat×(List Int)×Int×Int×Int×Int×(List Int)):=
 bif (decide (i < t83))then (
  (idx t82 i).bind fun x_=>
  chk (inR i (u_len:Int)) <|
  (u[(u_off+(i).toNat)]?).bind fun u_e=>
  (ZrJ u_e (IntKind.wrap .u32 (IntKind.wrap .u64 (carry+(IntKind.wrap .u64 (guess*(IntKind.wrap .u64 x_)))))) borrow).bind fun(q,borrow_1)=>
  chk (inR i (u_len:Int)) <|
  chk (decide (0≤(32:Int))) <|
  chk (inK .i64 (i+1)) <|
  rec_ u_off u_len d n guess borrow_1 (shrK .u64 (IntKind.wrap .u64 (carry+(IntKind.wrap .u64 (guess*(IntKind.wrap .u64 x_))))) 32) t82 t83 (i+1) (u.set (u_off+(i).toNat) q)
 )else (
  some (u_off,u_len,d,n,guess,borrow,carry,u)
 )
def ZuZ:Nat→Nat→Nat→(List Int)→Int→Int→Int→Int→(List Int)→Int→Int→(List Int)→Option (Nat×Nat×(List Int)×Int×Int×Int×Int×(List Int))
 |0,_,_,_,_,_,_,_,_,_,_,_=>none
 |n_+1,u_off,u_len,d,n,guess,borrow,carry,t82,t83,i,u=>ZtX (ZuZ n_) u_off u_len d n guess borrow carry t82 t83 i u
def Zxr (n:Nat) (s:(Nat×Nat×(List Int)×Int×Int×Int×Int×(List Int)×Int×Int×(List Int))):Option (Nat×Nat×(List Int)×Int×Int×Int×Int×(List Int)):=ZuZ n s.1 s.2.1 s.2.2.1 s.2.2.2.1 s.2.2.2.2.1 s.2.2.2.2.2.1 s.2.2.2.2.2.2.1 s.2.2.2.2.2.2.2.1 s.2.2.2.2.2.2.2.2.1 s.2.2.2.2.2.2.2.2.2.1 s.2.2.2.2.2.2.2.2.2.2
def Zv0 (rec_:(Nat×Nat×(List Int)×Int×Int×Int×Int×(List Int)×Int×Int×(List Int))→Option (Nat×Nat×(List Int)×Int×Int×Int×Int×(List Int))) (s:(Nat×Nat×(List Int)×Int×Int×Int×Int×(List Int)×Int×Int×(List Int))):Option (Nat×Nat×(List Int)×Int×Int×Int×Int×(List Int)):=ZtX (fun u_off u_len d n guess borrow carry t82 t83 i u=>rec_ (u_off,u_len,d,n,guess,borrow,carry,t82,t83,i,u)) s.1 s.2.1 s.2.2.1 s.2.2.2.1 s.2.2.2.2.1 s.2.2.2.2.2.1 s.2.2.2.2.2.2.1 s.2.2.2.2.2.2.2.1 s.2.2.2.2.2.2.2.2.1 s.2.2.2.2.2.2.2.2.2.1 s.2.2.2.2.2.2.2.2.2.2
theorem ZyZ:∀n s,Zxr (n+1) s=Zv0 (Zxr n) s:=fun _ _=>rfl
def Zu1 (u_off:Nat) (u_len:Nat) (d:(List Int)) (n:Int) (guess:Int) (u:(List Int)):Option (Int×(List Int)):=
 (ZuZ big u_off u_len d n guess (0:Int) (0:Int) d (d.length:Int) (0:Int) u).bind fun(x0,x1,x2,x3,x4,x5,x6,x7)=>ZwG x0 x1 x2 x3 x4 x5 x6 x7
def Ztv (rec_:Nat→Nat→(List Int)→Int→Int→Int→(List Int)→Option (Nat×Nat×(List Int)×Int×Int×(List Int))) (u_off:Nat) (u_len:Nat) (d:(List Int)) (n:Int) (guess:Int) (rest:Int) (t71:Bool) (u:(List Int)):Option (Nat×Nat×(List Int)×Int×Int×(List Int)):=
 bif t71 then (
  chk (inK .i64 (n - 1)) <|
  (idx d (n - 1)).bind fun d_e=>
  rec_ u_off u_len d n (IntKind.wrap .u64 (guess - 1)) (IntKind.wrap .u64 (rest+(IntKind.wrap .u64 d_e))) u
 )else (
  some (u_off,u_len,d,n,guess,u)
 )
def Zv1 (rec_:Nat→Nat→(List Int)→Int→Int→Int→(List Int)→Option (Nat×Nat×(List Int)×Int×Int×(List Int))) (u_off:Nat) (u_len:Nat) (d:(List Int)) (n:Int) (guess:Int) (rest:Int) (u:(List Int)):Option (Nat×Nat×(List Int)×Int×Int×(List Int)):=
 bif (decide (rest < 4294967296))then (
  chk (inK .i64 (n - 2)) <|
  (idx d (n - 2)).bind fun d_e=>
  chk (decide (0≤(32:Int))) <|
  chk (inK .i64 (n - 2)) <|
  chk (inR (n - 2) (u_len:Int)) <|
  (u[(u_off+((n - 2)).toNat)]?).bind fun u_e=>
  Ztv rec_ u_off u_len d n guess rest (decide ((IntKind.wrap .u64 (guess*(IntKind.wrap .u64 d_e))) > (orK .u64 (shlK .u64 rest 32) (IntKind.wrap .u64 u_e)))) u
 )else (
  Ztv rec_ u_off u_len d n guess rest false u
 )
def ZrK:Nat→Nat→Nat→(List Int)→Int→Int→Int→(List Int)→Option (Nat×Nat×(List Int)×Int×Int×(List Int))
 |0,_,_,_,_,_,_,_=>none
 |n_+1,u_off,u_len,d,n,guess,rest,u=>Zv1 (ZrK n_) u_off u_len d n guess rest u
def Zxs (n:Nat) (s:(Nat×Nat×(List Int)×Int×Int×Int×(List Int))):Option (Nat×Nat×(List Int)×Int×Int×(List Int)):=ZrK n s.1 s.2.1 s.2.2.1 s.2.2.2.1 s.2.2.2.2.1 s.2.2.2.2.2.1 s.2.2.2.2.2.2
def Zxt (rec_:(Nat×Nat×(List Int)×Int×Int×Int×(List Int))→Option (Nat×Nat×(List Int)×Int×Int×(List Int))) (s:(Nat×Nat×(List Int)×Int×Int×Int×(List Int))):Option (Nat×Nat×(List Int)×Int×Int×(List Int)):=Zv1 (fun u_off u_len d n guess rest u=>rec_ (u_off,u_len,d,n,guess,rest,u)) s.1 s.2.1 s.2.2.1 s.2.2.2.1 s.2.2.2.2.1 s.2.2.2.2.2.1 s.2.2.2.2.2.2
theorem Zy0:∀n s,Zxs (n+1) s=Zxt (Zxs n) s:=fun _ _=>rfl
def ZwE (u:(List Int)) (u_off:Nat) (u_len:Nat) (d:(List Int)):Option (Int×(List Int)):=
 chk (inR (d.length:Int) (u_len:Int)) <|
 (u[(u_off+((d.length:Int)).toNat)]?).bind fun u_e=>
 chk (decide (0≤(32:Int))) <|
 chk (inK .i64 ((d.length:Int) - 1)) <|
 chk (inR ((d.length:Int) - 1) (u_len:Int)) <|
 (u[(u_off+(((d.length:Int) - 1)).toNat)]?).bind fun u_e_1=>
 chk (inK .i64 ((d.length:Int) - 1)) <|
 (idx d ((d.length:Int) - 1)).bind fun d_e=>
 chk (decide ((IntKind.wrap .u64 d_e)≠0)) <|
 chk (inK .i64 ((d.length:Int) - 1)) <|
 (idx d ((d.length:Int) - 1)).bind fun d_e_1=>
 (ZrK big u_off u_len d (d.length:Int) (if (4294967295:Int) < (IntKind.wrap .u64 (Int.tdiv (orK .u64 (shlK .u64 (IntKind.wrap .u64 u_e) 32) (IntKind.wrap .u64 u_e_1)) (IntKind.wrap .u64 d_e)))then (4294967295:Int)else (IntKind.wrap .u64 (Int.tdiv (orK .u64 (shlK .u64 (IntKind.wrap .u64 u_e) 32) (IntKind.wrap .u64 u_e_1)) (IntKind.wrap .u64 d_e)))) (IntKind.wrap .u64 ((orK .u64 (shlK .u64 (IntKind.wrap .u64 u_e) 32) (IntKind.wrap .u64 u_e_1)) - (IntKind.wrap .u64 ((if (4294967295:Int) < (IntKind.wrap .u64 (Int.tdiv (orK .u64 (shlK .u64 (IntKind.wrap .u64 u_e) 32) (IntKind.wrap .u64 u_e_1)) (IntKind.wrap .u64 d_e)))then (4294967295:Int)else (IntKind.wrap .u64 (Int.tdiv (orK .u64 (shlK .u64 (IntKind.wrap .u64 u_e) 32) (IntKind.wrap .u64 u_e_1)) (IntKind.wrap .u64 d_e))))*(IntKind.wrap .u64 d_e_1))))) u).bind fun(x0,x1,x2,x3,x4,x5)=>Zu1 x0 x1 x2 x3 x4 x5
def ZvB (u:(List Int)) (u_off:Nat) (u_len:Nat) (d:(List Int)):Option (Int×(List Int)):=
 (ZwE u u_off u_len d).bind fun r=>chk (decide (r.2.length=u.length)&&true) (some r)
def ZuY (w_off:Nat) (w_len:Nat) (w_:(List Int)):Option (Nat×Nat×(List Int)):=
 some (w_off,w_len,w_)
def ZsZ (rec_:Nat→Nat→(List Int)→Option (Nat×Nat×(List Int))) (w_off:Nat) (w_len:Nat) (t14:Bool) (w_:(List Int)):Option (Nat×Nat×(List Int)):=
 bif t14 then (
  chk (inK .i64 (((w_len:Nat):Int) - 1)) <|
  chk (Zb9 0 (((w_len:Nat):Int) - 1) (w_len:Int)) <|
  rec_ (w_off+0) (((((w_len:Nat):Int) - 1)).toNat - 0) w_
 )else (
  some (w_off,w_len,w_)
 )
def Zup (rec_:Nat→Nat→(List Int)→Option (Nat×Nat×(List Int))) (w_off:Nat) (w_len:Nat) (w_:(List Int)):Option (Nat×Nat×(List Int)):=
 bif (decide (((w_len:Nat):Int) > 0))then (
  chk (inK .i64 (((w_len:Nat):Int) - 1)) <|
  chk (inR (((w_len:Nat):Int) - 1) (w_len:Int)) <|
  (w_[(w_off+((((w_len:Nat):Int) - 1)).toNat)]?).bind fun w__e=>
  ZsZ rec_ w_off w_len (w__e == 0) w_
 )else (
  ZsZ rec_ w_off w_len false w_
 )
def Zq9:Nat→Nat→Nat→(List Int)→Option (Nat×Nat×(List Int))
 |0,_,_,_=>none
 |n_+1,w_off,w_len,w_=>Zup (Zq9 n_) w_off w_len w_
def Zwy (n:Nat) (s:(Nat×Nat×(List Int))):Option (Nat×Nat×(List Int)):=Zq9 n s.1 s.2.1 s.2.2
def Zwz (rec_:(Nat×Nat×(List Int))→Option (Nat×Nat×(List Int))) (s:(Nat×Nat×(List Int))):Option (Nat×Nat×(List Int)):=Zup (fun w_off w_len w_=>rec_ (w_off,w_len,w_)) s.1 s.2.1 s.2.2
theorem Zyi:∀n s,Zwy (n+1) s=Zwz (Zwy n) s:=fun _ _=>rfl
def Zut (w_:(List Int)) (w_off:Nat) (w_len:Nat):Option (Nat×Nat×(List Int)):=
 (Zq9 big w_off w_len w_).bind fun(x0,x1,x2)=>ZuY x0 x1 x2
def Ztz (w_:(List Int)) (w_off:Nat) (w_len:Nat):Option (Nat×Nat×(List Int)):=
 (Zut w_ w_off w_len).bind fun r=>chk (decide (r.2.2.length=w_.length)&&true) (some r)
def Zqq (w_:(List Int)) (i:Int):Option Int:=
 bif (decide (i < (w_.length:Int)))then (
  (idx w_ i).bind fun w__e=>
  some w__e
 )else (
  some (0:Int)
 )
def ZvX (w_:(List Int)) (w_off:Nat) (w_len:Nat) (i:Int):Option (Int×(List Int)):=
 bif (decide (i < ((w_len:Nat):Int)))then (
  chk (inR i (w_len:Int)) <|
  (w_[(w_off+(i).toNat)]?).bind fun w__e=>
  some (w__e,w_)
 )else (
  some (0,w_)
 )
def ZsX (w_:(List Int)) (w_off:Nat) (w_len:Nat) (i:Int):Option (Int×(List Int)):=
 (ZvX w_ w_off w_len i).bind fun r=>chk (decide (r.2.length=w_.length)&&true) (some r)
def ZuK (rest_off:Nat) (rest_len:Nat) (q:(List Int)) (rest:(List Int)):Option ((List Int)×(List Int)):=
 (Zn1 q).bind fun q_1=>
 (Zn1 ((rest.drop rest_off).take rest_len)).bind fun q_2=>
 some (q_1,q_2)
def Zrl (rec_:Int→Nat→Nat→Int→Int→(List Int)→(List Int)→Option (Nat×Nat×(List Int)×(List Int))) (shift:Int) (rest_off:Nat) (rest_len:Nat) (t86:Int) (i:Int) (q:(List Int)) (rest:(List Int)):Option (Nat×Nat×(List Int)×(List Int)):=
 bif (decide (i < t86))then (
  chk (inK .i64 (i+1)) <|
  (ZsX rest rest_off rest_len (i+1)).bind fun(q_1,t90)=>
  chk (decide (0≤(32:Int))) <|
  chk (inR i (rest_len:Int)) <|
  (t90[(rest_off+(i).toNat)]?).bind fun t90_e=>
  chk (decide (0≤shift)) <|
  chk (inR i (rest_len:Int)) <|
  chk (inK .i64 (i+1)) <|
  rec_ shift rest_off rest_len t86 (i+1) q (t90.set (rest_off+(i).toNat) (IntKind.wrap .u32 (shrK .u64 (orK .u64 (shlK .u64 (IntKind.wrap .u64 q_1) 32) (IntKind.wrap .u64 t90_e)) shift)))
 )else (
  some (rest_off,rest_len,q,rest)
 )
def Zqw:Nat→Int→Nat→Nat→Int→Int→(List Int)→(List Int)→Option (Nat×Nat×(List Int)×(List Int))
 |0,_,_,_,_,_,_,_=>none
 |n_+1,shift,rest_off,rest_len,t86,i,q,rest=>Zrl (Zqw n_) shift rest_off rest_len t86 i q rest
def Zwk (n:Nat) (s:(Int×Nat×Nat×Int×Int×(List Int)×(List Int))):Option (Nat×Nat×(List Int)×(List Int)):=Zqw n s.1 s.2.1 s.2.2.1 s.2.2.2.1 s.2.2.2.2.1 s.2.2.2.2.2.1 s.2.2.2.2.2.2
def ZtO (rec_:(Int×Nat×Nat×Int×Int×(List Int)×(List Int))→Option (Nat×Nat×(List Int)×(List Int))) (s:(Int×Nat×Nat×Int×Int×(List Int)×(List Int))):Option (Nat×Nat×(List Int)×(List Int)):=Zrl (fun shift rest_off rest_len t86 i q rest=>rec_ (shift,rest_off,rest_len,t86,i,q,rest)) s.1 s.2.1 s.2.2.1 s.2.2.2.1 s.2.2.2.2.1 s.2.2.2.2.2.1 s.2.2.2.2.2.2
theorem Zx9:∀n s,Zwk (n+1) s=ZtO (Zwk n) s:=fun _ _=>rfl
def ZuL (n:Int) (shift:Int) (u:(List Int)) (q:(List Int)):Option ((List Int)×(List Int)):=
 chk (Zb9 0 n (u.length:Int)) <|
 (Ztz u 0 ((n).toNat - 0)).bind fun(rest_off,rest_len,t83)=>
 (Zqw big shift rest_off rest_len ((rest_len:Nat):Int) (0:Int) q t83).bind fun(x0,x1,x2,x3)=>ZuK x0 x1 x2 x3
def Zrm (rec_:Int→Int→(List Int)→Int→(List Int)→(List Int)→Option (Int×Int×(List Int)×(List Int))) (n:Int) (shift:Int) (d:(List Int)) (j:Int) (u:(List Int)) (q:(List Int)):Option (Int×Int×(List Int)×(List Int)):=
 bif (decide (j≥0))then (
  chk (inK .i64 (j+n)) <|
  chk (inK .i64 ((j+n)+1)) <|
  chk (Zb9 j ((j+n)+1) (u.length:Int)) <|
  (ZvB u ((j).toNat) ((((j+n)+1)).toNat - (j).toNat) d).bind fun(q_1,t77)=>
  chk (inR j (q.length:Int)) <|
  chk (inK .i64 (j - 1)) <|
  rec_ n shift d (j - 1) t77 (q.set ((j).toNat) q_1)
 )else (
  some (n,shift,u,q)
 )
def Zqx:Nat→Int→Int→(List Int)→Int→(List Int)→(List Int)→Option (Int×Int×(List Int)×(List Int))
 |0,_,_,_,_,_,_=>none
 |n_+1,n,shift,d,j,u,q=>Zrm (Zqx n_) n shift d j u q
def Zwl (n:Nat) (s:(Int×Int×(List Int)×Int×(List Int)×(List Int))):Option (Int×Int×(List Int)×(List Int)):=Zqx n s.1 s.2.1 s.2.2.1 s.2.2.2.1 s.2.2.2.2.1 s.2.2.2.2.2
def ZtP (rec_:(Int×Int×(List Int)×Int×(List Int)×(List Int))→Option (Int×Int×(List Int)×(List Int))) (s:(Int×Int×(List Int)×Int×(List Int)×(List Int))):Option (Int×Int×(List Int)×(List Int)):=Zrm (fun n shift d j u q=>rec_ (n,shift,d,j,u,q)) s.1 s.2.1 s.2.2.1 s.2.2.2.1 s.2.2.2.2.1 s.2.2.2.2.2
theorem Zya:∀n s,Zwl (n+1) s=ZtP (Zwl n) s:=fun _ _=>rfl
def ZpA (w_:(List Int)) (v_:(List Int)):Option ((List Int)×(List Int)):=
 (Zol w_ v_).bind fun q=>
 bif (decide (q < 0))then (
  (Zog w_).bind fun q_1=>
  some (([]:(List Int)),q_1)
 )else (
  bif ((v_.length:Int) == 1)then (
   (idx v_ 0).bind fun v__e=>
   (Zrz w_ v__e).bind fun(q_2,r_)=>
   (Zn1 ([r_]:(List Int))).bind fun q_3=>
   some (q_2,q_3)
  )else (
   chk (inK .i64 ((v_.length:Int) - 1)) <|
   (idx v_ ((v_.length:Int) - 1)).bind fun v__e_1=>
   (ZpR v__e_1).bind fun shift=>
   (ZoH w_ shift).bind fun u=>
   (ZoH v_ shift).bind fun q_4=>
   chk (Zb9 0 (v_.length:Int) (q_4.length:Int)) <|
   chk (inK .i64 ((w_.length:Int) - (v_.length:Int))) <|
   chk (inK .i64 (((w_.length:Int) - (v_.length:Int))+1)) <|
   chk (mkOk (((w_.length:Int) - (v_.length:Int))+1) (((w_.length:Int) - (v_.length:Int))+1) 4) <|
   chk (inK .i64 (((List.replicate ((((w_.length:Int) - (v_.length:Int))+1)).toNat (0:Int)).length:Int) - 1)) <|
   (Zqx big (v_.length:Int) shift ((q_4.drop 0).take (((v_.length:Int)).toNat - 0)) (((List.replicate ((((w_.length:Int) - (v_.length:Int))+1)).toNat (0:Int)).length:Int) - 1) u (List.replicate ((((w_.length:Int) - (v_.length:Int))+1)).toNat (0:Int))).bind fun(x0,x1,x2,x3)=>ZuL x0 x1 x2 x3
  )
 )
def ZtQ (w_:(List Int)):Option (List Int):=
 some w_
def Zpd (rec_:(List Int)→(List Int)→Option (List Int)) (w_:(List Int)) (v_:(List Int)):Option (List Int):=
 bif (decide ((v_.length:Int) > 0))then (
  (ZpA w_ v_).bind fun(q,r_)=>
  rec_ v_ r_
 )else (
  some w_
 )
def Zoo:Nat→(List Int)→(List Int)→Option (List Int)
 |0,_,_=>none
 |n_+1,w_,v_=>Zpd (Zoo n_) w_ v_
def ZpJ (w_:(List Int)) (v_:(List Int)):Option (List Int):=
 (Zoo big w_ v_).bind fun x0=>ZtQ x0
def Zpe (num:ZnB) (den:ZnB):Option ZnA:=
 (ZpJ num.Words den.Words).bind fun g=>
 (ZpA num.Words g).bind fun(x_,q)=>
 (ZpA den.Words g).bind fun(y,q_1)=>
 (Zn9 (!(num.Neg == den.Neg)) x_).bind fun q_2=>
 (Zn9 false y).bind fun q_3=>
 some (ZnA.mk q_2 q_3)
def Zv2 (num:ZnB) (den:ZnB):Option (ZnA×Int):=
 (ZuM ([num,den]:(List ZnB))).bind fun q=>
 bif (!q)then (
  some ((ZnA.mk (ZnB.mk false ([]:(List Int))) (ZnB.mk false ([]:(List Int)))),1)
 )else (
  bif ((den.Words.length:Int) == 0)then (
   some ((ZnA.mk (ZnB.mk false ([]:(List Int))) (ZnB.mk false ([]:(List Int)))),8)
  )else (
   (Zpe num den).bind fun q_1=>
   some (q_1,0)
  )
 )
def Zwd (num:Int) (den:Int):Option (ZnA×Int):=
 (Zsp num).bind fun q=>
 (Zsp den).bind fun q_1=>
 (Zv2 q q_1).bind fun(q_2,q_3)=>
 some (q_2,q_3)
def Zwc:Option ZnA:=
 (Zwd 0 1).bind fun(f,q)=>
 some f
def Zxf (a:Int) (b:Int):Option ZnA:=
 (Zwd a b).bind fun(f,e)=>
 bif (e != 0)then (
  (Zwc).bind fun q=>
  some q
 )else (
  some f
 )
def Zsm (a:(List Str)) (b:(List Str)):Option ZnA:=
 (Ztm a b).bind fun n=>
 chk (inK .i64 ((a.length:Int)+(b.length:Int))) <|
 chk (inK .i64 (((a.length:Int)+(b.length:Int)) - n)) <|
 (Zxf n (if (1:Int) > (((a.length:Int)+(b.length:Int)) - n)then (1:Int)else (((a.length:Int)+(b.length:Int)) - n))).bind fun q=>
 some q
def ZrI (a:G_api_Column) (b:G_api_Column):Option ZnA:=
 (ZsC a).bind fun q=>
 (ZsC b).bind fun q_1=>
 (Zsm q q_1).bind fun q_2=>
 some q_2
def ZtU (a:Str) (b:Str):Option ZnA:=
 (Zpa a).bind fun q=>
 (Zpa b).bind fun q_1=>
 (Zsm q q_1).bind fun q_2=>
 some q_2
def ZrL (t2:Bool):Option Bool:=
 some t2
def ZoS (f:ZnA):Option Bool:=
 (ZuM ([f.Num,f.Den]:(List ZnB))).bind fun q=>
 bif q then (
  bif (decide ((f.Den.Words.length:Int) > 0))then (
   bif (!f.Den.Neg)then (
    (ZpJ f.Num.Words f.Den.Words).bind fun q_1=>
    (Zol q_1 ([1]:List Int)).bind fun q_2=>
    ZrL (q_2 == 0)
   )else (
    ZrL false
   )
  )else (
   ZrL false
  )
 )else (
  ZrL false
 )
def Zul (out:(List Int)):Option (List Int):=
 (Zn1 out).bind fun q=>
 some q
def Zum (rec_:(List Int)→(List Int)→Int→Int→(List Int)→Option (List Int)) (v_:(List Int)) (i:Int) (carry:Int) (t17:(List Int)) (t18:Int) (i_1:Int) (out:(List Int)):Option (List Int):=
 chk (inK .i64 (i+(v_.length:Int))) <|
 chk (inR (i+(v_.length:Int)) (out.length:Int)) <|
 chk (inK .i64 (i_1+1)) <|
 rec_ v_ t17 t18 (i_1+1) (out.set (((i+(v_.length:Int))).toNat) (IntKind.wrap .u32 carry))
def Zq3 (rec_:(List Int)→Int→Int→Int→(List Int)→Int→Int→(List Int)→Int→Int→(List Int)→Option ((List Int)×Int×Int×(List Int)×Int×Int×(List Int))) (v_:(List Int)) (i:Int) (x_:Int) (carry:Int) (t17:(List Int)) (t18:Int) (i_1:Int) (t24:(List Int)) (t25:Int) (j:Int) (out:(List Int)):Option ((List Int)×Int×Int×(List Int)×Int×Int×(List Int)):=
 bif (decide (j < t25))then (
  (idx t24 j).bind fun y=>
  chk (inK .i64 (i+j)) <|
  chk (inR (i+j) (out.length:Int)) <|
  (out[((i+j)).toNat]?).bind fun out_e=>
  chk (inK .i64 (i+j)) <|
  chk (inR (i+j) (out.length:Int)) <|
  chk (decide (0≤(32:Int))) <|
  chk (inK .i64 (j+1)) <|
  rec_ v_ i x_ (shrK .u64 (IntKind.wrap .u64 (carry+(IntKind.wrap .u64 ((IntKind.wrap .u64 ((IntKind.wrap .u64 x_)*(IntKind.wrap .u64 y)))+(IntKind.wrap .u64 out_e))))) 32) t17 t18 i_1 t24 t25 (j+1) (out.set (((i+j)).toNat) (IntKind.wrap .u32 (IntKind.wrap .u64 (carry+(IntKind.wrap .u64 ((IntKind.wrap .u64 ((IntKind.wrap .u64 x_)*(IntKind.wrap .u64 y)))+(IntKind.wrap .u64 out_e)))))))
 )else (
  some (v_,i,carry,t17,t18,i_1,out)
 )
def Zr7:Nat→(List Int)→Int→Int→Int→(List Int)→Int→Int→(List Int)→Int→Int→(List Int)→Option ((List Int)×Int×Int×(List Int)×Int×Int×(List Int))
 |0,_,_,_,_,_,_,_,_,_,_,_=>none
 |n_+1,v_,i,x_,carry,t17,t18,i_1,t24,t25,j,out=>Zq3 (Zr7 n_) v_ i x_ carry t17 t18 i_1 t24 t25 j out
def ZvT (n:Nat) (s:((List Int)×Int×Int×Int×(List Int)×Int×Int×(List Int)×Int×Int×(List Int))):Option ((List Int)×Int×Int×(List Int)×Int×Int×(List Int)):=Zr7 n s.1 s.2.1 s.2.2.1 s.2.2.2.1 s.2.2.2.2.1 s.2.2.2.2.2.1 s.2.2.2.2.2.2.1 s.2.2.2.2.2.2.2.1 s.2.2.2.2.2.2.2.2.1 s.2.2.2.2.2.2.2.2.2.1 s.2.2.2.2.2.2.2.2.2.2
def Zto (rec_:((List Int)×Int×Int×Int×(List Int)×Int×Int×(List Int)×Int×Int×(List Int))→Option ((List Int)×Int×Int×(List Int)×Int×Int×(List Int))) (s:((List Int)×Int×Int×Int×(List Int)×Int×Int×(List Int)×Int×Int×(List Int))):Option ((List Int)×Int×Int×(List Int)×Int×Int×(List Int)):=Zq3 (fun v_ i x_ carry t17 t18 i_1 t24 t25 j out=>rec_ (v_,i,x_,carry,t17,t18,i_1,t24,t25,j,out)) s.1 s.2.1 s.2.2.1 s.2.2.2.1 s.2.2.2.2.1 s.2.2.2.2.2.1 s.2.2.2.2.2.2.1 s.2.2.2.2.2.2.2.1 s.2.2.2.2.2.2.2.2.1 s.2.2.2.2.2.2.2.2.2.1 s.2.2.2.2.2.2.2.2.2.2
theorem ZxT:∀n s,ZvT (n+1) s=Zto (ZvT n) s:=fun _ _=>rfl
def Zq4 (rec_:(List Int)→(List Int)→Int→Int→(List Int)→Option (List Int)) (v_:(List Int)) (t17:(List Int)) (t18:Int) (i:Int) (out:(List Int)):Option (List Int):=
 bif (decide (i < t18))then (
  (idx t17 i).bind fun x_=>
  (Zr7 big v_ i x_ (0:Int) t17 t18 i v_ (v_.length:Int) (0:Int) out).bind fun(x0,x1,x2,x3,x4,x5,x6)=>Zum rec_ x0 x1 x2 x3 x4 x5 x6
 )else (
  some out
 )
def Zqc:Nat→(List Int)→(List Int)→Int→Int→(List Int)→Option (List Int)
 |0,_,_,_,_,_=>none
 |n_+1,v_,t17,t18,i,out=>Zq4 (Zqc n_) v_ t17 t18 i out
def ZvU (n:Nat) (s:((List Int)×(List Int)×Int×Int×(List Int))):Option (List Int):=Zqc n s.1 s.2.1 s.2.2.1 s.2.2.2.1 s.2.2.2.2
def Ztp (rec_:((List Int)×(List Int)×Int×Int×(List Int))→Option (List Int)) (s:((List Int)×(List Int)×Int×Int×(List Int))):Option (List Int):=Zq4 (fun v_ t17 t18 i out=>rec_ (v_,t17,t18,i,out)) s.1 s.2.1 s.2.2.1 s.2.2.2.1 s.2.2.2.2
theorem ZxU:∀n s,ZvU (n+1) s=Ztp (ZvU n) s:=fun _ _=>rfl
def Zo2 (w_:(List Int)) (v_:(List Int)):Option (List Int):=
 chk (inK .i64 ((w_.length:Int)+(v_.length:Int))) <|
 chk (mkOk ((w_.length:Int)+(v_.length:Int)) ((w_.length:Int)+(v_.length:Int)) 4) <|
 (Zqc big v_ w_ (w_.length:Int) (0:Int) (List.replicate (((w_.length:Int)+(v_.length:Int))).toNat (0:Int))).bind fun x0=>Zul x0
def ZnL (a:ZnB) (b:ZnB):Option ZnB:=
 (Zo2 a.Words b.Words).bind fun q=>
 (Zn9 (!(a.Neg == b.Neg)) q).bind fun q_1=>
 some q_1
def ZtA (t2:ZnB):Option ZnB:=
 some t2
def Zqr (a:ZnB):Option ZnB:=
 bif (!a.Neg)then (
  ZtA (ZnB.mk (decide ((a.Words.length:Int) > 0)) a.Words)
 )else (
  ZtA (ZnB.mk false a.Words)
 )
def ZuJ (carry:Int) (out:(List Int)):Option (List Int):=
 chk (ZiZ (out.length+([carry]:(List Int)).length) 4) <|
 (Zn1 (out++([carry]:(List Int)))).bind fun q=>
 some q
def Zrk (rec_:(List Int)→(List Int)→Int→Int→Int→(List Int)→Option (Int×(List Int))) (w_:(List Int)) (v_:(List Int)) (carry:Int) (t20:Int) (i:Int) (out:(List Int)):Option (Int×(List Int)):=
 bif (decide (i < t20))then (
  (Zqq w_ i).bind fun q=>
  (Zqq v_ i).bind fun q_1=>
  (Zs3 q q_1 carry).bind fun(d,carry_1)=>
  chk (ZiZ (out.length+([d]:(List Int)).length) 4) <|
  chk (inK .i64 (i+1)) <|
  rec_ w_ v_ carry_1 t20 (i+1) (out++([d]:(List Int)))
 )else (
  some (carry,out)
 )
def Zso:Nat→(List Int)→(List Int)→Int→Int→Int→(List Int)→Option (Int×(List Int))
 |0,_,_,_,_,_,_=>none
 |n_+1,w_,v_,carry,t20,i,out=>Zrk (Zso n_) w_ v_ carry t20 i out
def Zwj (n:Nat) (s:((List Int)×(List Int)×Int×Int×Int×(List Int))):Option (Int×(List Int)):=Zso n s.1 s.2.1 s.2.2.1 s.2.2.2.1 s.2.2.2.2.1 s.2.2.2.2.2
def ZtN (rec_:((List Int)×(List Int)×Int×Int×Int×(List Int))→Option (Int×(List Int))) (s:((List Int)×(List Int)×Int×Int×Int×(List Int))):Option (Int×(List Int)):=Zrk (fun w_ v_ carry t20 i out=>rec_ (w_,v_,carry,t20,i,out)) s.1 s.2.1 s.2.2.1 s.2.2.2.1 s.2.2.2.2.1 s.2.2.2.2.2
theorem Zx8:∀n s,Zwj (n+1) s=ZtN (Zwj n) s:=fun _ _=>rfl
def Zqv (w_:(List Int)) (v_:(List Int)):Option (List Int):=
 chk (inK .i64 ((if (v_.length:Int) > (w_.length:Int)then (v_.length:Int)else (w_.length:Int))+1)) <|
 chk (mkOk 0 ((if (v_.length:Int) > (w_.length:Int)then (v_.length:Int)else (w_.length:Int))+1) 4) <|
 (Zso big w_ v_ (0:Int) (if (v_.length:Int) > (w_.length:Int)then (v_.length:Int)else (w_.length:Int)) (0:Int) (List.replicate ((0:Int)).toNat (0:Int))).bind fun(x0,x1)=>ZuJ x0 x1
def Zuo (out:(List Int)):Option (List Int):=
 (Zn1 out).bind fun q=>
 some q
def Zq7 (rec_:(List Int)→(List Int)→Int→Int→Int→(List Int)→Option (List Int)) (w_:(List Int)) (v_:(List Int)) (borrow:Int) (t12:Int) (i:Int) (out:(List Int)):Option (List Int):=
 bif (decide (i < t12))then (
  (idx w_ i).bind fun w__e=>
  (Zqq v_ i).bind fun q=>
  (ZrJ w__e q borrow).bind fun(q_1,borrow_1)=>
  chk (inR i (out.length:Int)) <|
  chk (inK .i64 (i+1)) <|
  rec_ w_ v_ borrow_1 t12 (i+1) (out.set ((i).toNat) q_1)
 )else (
  some out
 )
def Zr9:Nat→(List Int)→(List Int)→Int→Int→Int→(List Int)→Option (List Int)
 |0,_,_,_,_,_,_=>none
 |n_+1,w_,v_,borrow,t12,i,out=>Zq7 (Zr9 n_) w_ v_ borrow t12 i out
def ZvW (n:Nat) (s:((List Int)×(List Int)×Int×Int×Int×(List Int))):Option (List Int):=Zr9 n s.1 s.2.1 s.2.2.1 s.2.2.2.1 s.2.2.2.2.1 s.2.2.2.2.2
def Zts (rec_:((List Int)×(List Int)×Int×Int×Int×(List Int))→Option (List Int)) (s:((List Int)×(List Int)×Int×Int×Int×(List Int))):Option (List Int):=Zq7 (fun w_ v_ borrow t12 i out=>rec_ (w_,v_,borrow,t12,i,out)) s.1 s.2.1 s.2.2.1 s.2.2.2.1 s.2.2.2.2.1 s.2.2.2.2.2
theorem ZxW:∀n s,ZvW (n+1) s=Zts (ZvW n) s:=fun _ _=>rfl
def ZpX (w_:(List Int)) (v_:(List Int)):Option (List Int):=
 chk (mkOk (w_.length:Int) (w_.length:Int) 4) <|
 (Zr9 big w_ v_ (0:Int) (w_.length:Int) (0:Int) (List.replicate ((w_.length:Int)).toNat (0:Int))).bind fun x0=>Zuo x0
def Zuq (a:ZnB) (b:ZnB):Option ZnB:=
 bif (a.Neg == b.Neg)then (
  (Zqv a.Words b.Words).bind fun q=>
  (Zn9 a.Neg q).bind fun q_1=>
  some q_1
 )else (
  (Zol a.Words b.Words).bind fun q_2=>
  bif (decide (q_2≥0))then (
   (ZpX a.Words b.Words).bind fun q_3=>
   (Zn9 a.Neg q_3).bind fun q_4=>
   some q_4
  )else (
   (ZpX b.Words a.Words).bind fun q_5=>
   (Zn9 b.Neg q_5).bind fun q_6=>
   some q_6
  )
 )
def Zwe (t13:Bool) (a:ZnA) (b:ZnA):Option Int:=
 bif t13 then (
  some (0:Int)
 )else (
  (ZnL a.Num b.Den).bind fun q=>
  (ZnL b.Num a.Den).bind fun q_1=>
  (Zqr q_1).bind fun q_2=>
  (Zuq q q_2).bind fun d=>
  bif d.Neg then (
   some (-1:Int)
  )else (
   bif (decide ((d.Words.length:Int) > 0))then (
    some (1:Int)
   )else (
    some (0:Int)
   )
  )
 )
def ZwC (a:ZnA) (b:ZnA):Option Int:=
 (ZoS a).bind fun q=>
 bif (!q)then (
  Zwe true a b
 )else (
  (ZoS b).bind fun q_1=>
  Zwe (!q_1) a b
 )
def Zw9 (a:ZnA):Option Int:=
 (Zwc).bind fun q=>
 (ZwC a q).bind fun q_1=>
 some q_1
def ZxI:Option (List (Int×ZoA)):=
 some (setB (k:=(.int .i64)) (v:=(.st 4)) (car:=ZyK) (setB (k:=(.int .i64)) (v:=(.st 4)) (car:=ZyK) (setB (k:=(.int .i64)) (v:=(.st 4)) (car:=ZyK) (setB (k:=(.int .i64)) (v:=(.st 4)) (car:=ZyK) (setB (k:=(.int .i64)) (v:=(.st 4)) (car:=ZyK) ([]:(List (Int×ZoA))) 1 (ZoA.mk ([116,101,120,116]:Str) (none:Option Nat) (some 237:Option Nat))) 2 (ZoA.mk ([98,111,111,108]:Str) (some 238:Option Nat) (some 239:Option Nat))) 3 (ZoA.mk ([105,110,116,101,103,101,114]:Str) (some 240:Option Nat) (some 241:Option Nat))) 4 (ZoA.mk ([100,101,99,105,109,97,108]:Str) (some 242:Option Nat) (some 241:Option Nat))) 5 (ZoA.mk ([100,97,116,101]:Str) (some 243:Option Nat) (some 244:Option Nat)))
def Zwx (s cs:Str):Option Str:=
 chk (cs.all fun b=>decide (b.toNat < 128)) <| chk (decide (cs.length < 4294967281)) <| some (Lib.trimS s cs)
def Zw5 (s:Str):Option Str:=
 (Zwx s ([32]:Str)).bind fun q=>
 some q
def ZoO (t4:Bool):Option Bool:=
 some t4
def Zoc (s:Str) (prefix_:Str):Option Bool:=
 bif (decide ((s.length:Int)≥(prefix_.length:Int)))then (
  chk (Zb9 0 (prefix_.length:Int) (s.length:Int)) <|
  ZoO ((s.take ((prefix_.length:Int)).toNat) == prefix_)
 )else (
  ZoO false
 )
def Zpn (s:Str) (prefix_:Str):Option (Str×Bool):=
 (Zoc s prefix_).bind fun q=>
 bif (!q)then (
  some (s,false)
 )else (
  chk (Zb9 (prefix_.length:Int) (s.length:Int) (s.length:Int)) <|
  some ((s.drop ((prefix_.length:Int)).toNat),true)
 )
def Ztl (s:Str) (prefix_:Str):Option (Str×Bool):=
 (Zpn s prefix_).bind fun(after,found)=>
 some (after,found)
def Zpb (s:Str) (prefix_:Str):Option Str:=
 (Zoc s prefix_).bind fun q=>
 bif q then (
  chk (Zb9 (prefix_.length:Int) (s.length:Int) (s.length:Int)) <|
  some (s.drop ((prefix_.length:Int)).toNat)
 )else (
  some s
 )
def ZsG (s:Str) (prefix_:Str):Option Str:=
 (Zpb s prefix_).bind fun q=>
 some q
def Zpm (s:Str) (c:Int):Option Int:=
 some (Lib.indexByte s c.toNat.toUInt8)
def ZpI (s:Str) (substr:Str) (n:Int) (t16:Bool):Option Int:=
 bif t16 then (
  some (0:Int)
 )else (
  bif (n == 1)then (
   (idx substr 0).bind fun c=>
   (Zpm s ((c.toNat:Nat):Int)).bind fun q=>
   some q
  )else (
   bif (decide (n≥(s.length:Int)))then (
    some (-1:Int)
   )else (
    none
   )
  )
 )
def Zpc (s:Str) (substr:Str):Option Int:=
 bif ((substr.length:Int) == 0)then (
  ZpI s substr (substr.length:Int) true
 )else (
  ZpI s substr (substr.length:Int) (substr == s)
 )
def Zrj (s:Str) (sep:Str):Option (Str×Str×Bool):=
 (Zpc s sep).bind fun i=>
 bif (decide (i≥0))then (
  chk (Zb9 0 i (s.length:Int)) <|
  chk (inK .i64 (i+(sep.length:Int))) <|
  chk (Zb9 (i+(sep.length:Int)) (s.length:Int) (s.length:Int)) <|
  some ((s.take (i).toNat),(s.drop ((i+(sep.length:Int))).toNat),true)
 )else (
  some (s,([]:Str),false)
 )
def Zwb (s:Str) (sep:Str):Option (Str×Str×Bool):=
 (Zrj s sep).bind fun(before,after,found)=>
 some (before,after,found)
def ZsI (t4:Bool):Option Bool:=
 some t4
def Zs4 (s:Str) (most:Int):Option Bool:=
 bif (decide ((s.length:Int)≥1))then (
  bif (decide ((s.length:Int)≤most))then (
   (Zwx s ([48,49,50,51,52,53,54,55,56,57]:Str)).bind fun q=>
   ZsI (q == ([]:Str))
  )else (
   ZsI false
  )
 )else (
  ZsI false
 )
def Zv3 (neg:Bool) (num:(List Int)) (den:(List Int)) (t2:Bool) (t2_1:Bool) (t2_2:(List Int)) (t2_3:(List Int)):Option (ZnA×Bool):=
 (Zn9 neg num).bind fun q=>
 (Zn9 false den).bind fun q_1=>
 (Zpe q q_1).bind fun q_2=>
 some (q_2,true)
def Zs0 (rec_:Bool→(List Int)→(List Int)→(List Int)→Int→Int→Bool→Bool→(List Int)→(List Int)→Option (Bool×(List Int)×(List Int)×Bool×Bool×(List Int)×(List Int))) (neg:Bool) (num:(List Int)) (ten:(List Int)) (den:(List Int)) (t63:Int) (t64:Int) (t2:Bool) (t2_1:Bool) (t2_2:(List Int)) (t2_3:(List Int)):Option (Bool×(List Int)×(List Int)×Bool×Bool×(List Int)×(List Int)):=
 bif (decide (t64 < t63))then (
  (Zo2 den ten).bind fun den_1=>
  chk (inK .i64 (t64+1)) <|
  rec_ neg num ten den_1 t63 (t64+1) t2 t2_1 t2_2 t2_3
 )else (
  some (neg,num,den,t2,t2_1,t2_2,t2_3)
 )
def ZtY:Nat→Bool→(List Int)→(List Int)→(List Int)→Int→Int→Bool→Bool→(List Int)→(List Int)→Option (Bool×(List Int)×(List Int)×Bool×Bool×(List Int)×(List Int))
 |0,_,_,_,_,_,_,_,_,_,_=>none
 |n_+1,neg,num,ten,den,t63,t64,t2,t2_1,t2_2,t2_3=>Zs0 (ZtY n_) neg num ten den t63 t64 t2 t2_1 t2_2 t2_3
def ZwS (n:Nat) (s:(Bool×(List Int)×(List Int)×(List Int)×Int×Int×Bool×Bool×(List Int)×(List Int))):Option (Bool×(List Int)×(List Int)×Bool×Bool×(List Int)×(List Int)):=ZtY n s.1 s.2.1 s.2.2.1 s.2.2.2.1 s.2.2.2.2.1 s.2.2.2.2.2.1 s.2.2.2.2.2.2.1 s.2.2.2.2.2.2.2.1 s.2.2.2.2.2.2.2.2.1 s.2.2.2.2.2.2.2.2.2
def Zu2 (rec_:(Bool×(List Int)×(List Int)×(List Int)×Int×Int×Bool×Bool×(List Int)×(List Int))→Option (Bool×(List Int)×(List Int)×Bool×Bool×(List Int)×(List Int))) (s:(Bool×(List Int)×(List Int)×(List Int)×Int×Int×Bool×Bool×(List Int)×(List Int))):Option (Bool×(List Int)×(List Int)×Bool×Bool×(List Int)×(List Int)):=Zs0 (fun neg num ten den t63 t64 t2 t2_1 t2_2 t2_3=>rec_ (neg,num,ten,den,t63,t64,t2,t2_1,t2_2,t2_3)) s.1 s.2.1 s.2.2.1 s.2.2.2.1 s.2.2.2.2.1 s.2.2.2.2.2.1 s.2.2.2.2.2.2.1 s.2.2.2.2.2.2.2.1 s.2.2.2.2.2.2.2.2.1 s.2.2.2.2.2.2.2.2.2
theorem ZyA:∀n s,ZwS (n+1) s=Zu2 (ZwS n) s:=fun _ _=>rfl
def Zv4 (neg:Bool) (back:Str) (num:(List Int)) (ten:(List Int)) (t2:Bool) (t2_1:Bool) (den:(List Int)) (t2_2:(List Int)) (t2_3:(List Int)):Option (ZnA×Bool):=
 (ZtY big neg num ten den (back.length:Int) (0:Int) t2 t2_1 t2_2 t2_3).bind fun(x0,x1,x2,x3,x4,x5,x6)=>Zv3 x0 x1 x2 x3 x4 x5 x6
def Zs1 (rec_:Bool→Str→(List Int)→(List Int)→Int→Int→Bool→Bool→(List Int)→(List Int)→(List Int)→(List Int)→Option (Bool×Str×(List Int)×(List Int)×Bool×Bool×(List Int)×(List Int)×(List Int))) (neg:Bool) (back:Str) (num:(List Int)) (ten:(List Int)) (t48:Int) (t49:Int) (t2:Bool) (t2_1:Bool) (den:(List Int)) (t47:(List Int)) (t2_2:(List Int)) (t2_3:(List Int)):Option (Bool×Str×(List Int)×(List Int)×Bool×Bool×(List Int)×(List Int)×(List Int)):=
 bif (decide (t49 < t48))then (
  chk (inR t49 (t47.length:Int)) <|
  (t47[(t49).toNat]?).bind fun d=>
  (Zo2 num ten).bind fun q=>
  (Zra (IntKind.wrap .u64 (IntKind.wrap .u8 (d - 48)))).bind fun q_1=>
  (Zqv q q_1).bind fun num_1=>
  chk (inK .i64 (t49+1)) <|
  rec_ neg back num_1 ten t48 (t49+1) t2 t2_1 den t47 t2_2 t2_3
 )else (
  some (neg,back,num,ten,t2,t2_1,den,t2_2,t2_3)
 )
def ZtZ:Nat→Bool→Str→(List Int)→(List Int)→Int→Int→Bool→Bool→(List Int)→(List Int)→(List Int)→(List Int)→Option (Bool×Str×(List Int)×(List Int)×Bool×Bool×(List Int)×(List Int)×(List Int))
 |0,_,_,_,_,_,_,_,_,_,_,_,_=>none
 |n_+1,neg,back,num,ten,t48,t49,t2,t2_1,den,t47,t2_2,t2_3=>Zs1 (ZtZ n_) neg back num ten t48 t49 t2 t2_1 den t47 t2_2 t2_3
def ZwT (n:Nat) (s:(Bool×Str×(List Int)×(List Int)×Int×Int×Bool×Bool×(List Int)×(List Int)×(List Int)×(List Int))):Option (Bool×Str×(List Int)×(List Int)×Bool×Bool×(List Int)×(List Int)×(List Int)):=ZtZ n s.1 s.2.1 s.2.2.1 s.2.2.2.1 s.2.2.2.2.1 s.2.2.2.2.2.1 s.2.2.2.2.2.2.1 s.2.2.2.2.2.2.2.1 s.2.2.2.2.2.2.2.2.1 s.2.2.2.2.2.2.2.2.2.1 s.2.2.2.2.2.2.2.2.2.2.1 s.2.2.2.2.2.2.2.2.2.2.2
def Zu3 (rec_:(Bool×Str×(List Int)×(List Int)×Int×Int×Bool×Bool×(List Int)×(List Int)×(List Int)×(List Int))→Option (Bool×Str×(List Int)×(List Int)×Bool×Bool×(List Int)×(List Int)×(List Int))) (s:(Bool×Str×(List Int)×(List Int)×Int×Int×Bool×Bool×(List Int)×(List Int)×(List Int)×(List Int))):Option (Bool×Str×(List Int)×(List Int)×Bool×Bool×(List Int)×(List Int)×(List Int)):=Zs1 (fun neg back num ten t48 t49 t2 t2_1 den t47 t2_2 t2_3=>rec_ (neg,back,num,ten,t48,t49,t2,t2_1,den,t47,t2_2,t2_3)) s.1 s.2.1 s.2.2.1 s.2.2.2.1 s.2.2.2.2.1 s.2.2.2.2.2.1 s.2.2.2.2.2.2.1 s.2.2.2.2.2.2.2.1 s.2.2.2.2.2.2.2.2.1 s.2.2.2.2.2.2.2.2.2.1 s.2.2.2.2.2.2.2.2.2.2.1 s.2.2.2.2.2.2.2.2.2.2.2
theorem ZyB:∀n s,ZwT (n+1) s=Zu3 (ZwT n) s:=fun _ _=>rfl
def Zqy (neg:Bool) (front:Str) (back:Str) (t39:Bool) (t2:Bool) (t2_1:Bool) (t2_2:(List Int)) (t2_3:(List Int)):Option (ZnA×Bool):=
 bif t39 then (
  some ((ZnA.mk (ZnB.mk false ([]:(List Int))) (ZnB.mk false ([]:(List Int)))),false)
 )else (
  (Zog ([1]:List Int)).bind fun den=>
  chk (decide (front.length+back.length≤Zq)) <|
  chk (decide ((front++back).length≤281474976710656)) <|
  (ZtZ big neg back ([]:(List Int)) ([10]:(List Int)) (((front++back).map fun b=>((b.toNat:Nat):Int)).length:Int) (0:Int) t2 t2_1 den ((front++back).map fun b=>((b.toNat:Nat):Int)) t2_2 t2_3).bind fun(x0,x1,x2,x3,x4,x5,x6,x7,x8)=>Zv4 x0 x1 x2 x3 x4 x5 x6 x7 x8
 )
def Zsk (body:Str) (neg:Bool) (t2:Bool) (t2_1:Bool) (t2_2:(List Int)) (t2_3:(List Int)):Option (ZnA×Bool):=
 (Zwb body ([46]:Str)).bind fun(front,back,point)=>
 (Zs4 front 15).bind fun q=>
 bif (!q)then (
  Zqy neg front back true t2 t2_1 t2_2 t2_3
 )else (
  bif point then (
   (Zs4 back 9).bind fun q_1=>
   Zqy neg front back (!q_1) t2 t2_1 t2_2 t2_3
  )else (
   Zqy neg front back false t2 t2_1 t2_2 t2_3
  )
 )
def Zrb (text:Str):Option (ZnA×Bool):=
 (Ztl text ([45]:Str)).bind fun(body,neg)=>
 bif (!neg)then (
  (ZsG text ([43]:Str)).bind fun body_1=>
  Zsk body_1 neg false false ([]:(List Int)) ([]:(List Int))
 )else (
  Zsk body neg false false ([]:(List Int)) ([]:(List Int))
 )
def ZvA (s cs:Str):Option Str:=
 chk (cs.all fun b=>decide (b.toNat < 128)) <| chk (decide (cs.length < 4294967281)) <| some (Lib.trimLeftS s cs)
def ZwF (s cs:Str):Option Str:=
 chk (cs.all fun b=>decide (b.toNat < 128)) <| chk (decide (cs.length < 4294967281)) <| some (Lib.trimRightS s cs)
def Zyk (zero:Str):Option Str:=
 some zero
def Zwn (rec_:Str→(List Str)→Int→Int→Option (Out Str Str)) (zero:Str) (t6:(List Str)) (t7:Int) (t8:Int):Option (Out Str Str):=
 bif (decide (t8 < t7))then (
  (idx t6 t8).bind fun val=>
  bif (!(val == zero))then (
   some (.ret val)
  )else (
   chk (inK .i64 (t8+1)) <|
   rec_ zero t6 t7 (t8+1)
  )
 )else (
  some (.brk zero)
 )
def Zt1:Nat→Str→(List Str)→Int→Int→Option (Out Str Str)
 |0,_,_,_,_=>none
 |n_+1,zero,t6,t7,t8=>Zwn (Zt1 n_) zero t6 t7 t8
def ZxE (n:Nat) (s:(Str×(List Str)×Int×Int)):Option (Out Str Str):=Zt1 n s.1 s.2.1 s.2.2.1 s.2.2.2
def ZxF (rec_:(Str×(List Str)×Int×Int)→Option (Out Str Str)) (s:(Str×(List Str)×Int×Int)):Option (Out Str Str):=Zwn (fun zero t6 t7 t8=>rec_ (zero,t6,t7,t8)) s.1 s.2.1 s.2.2.1 s.2.2.2
theorem Zy6:∀n s,ZxE (n+1) s=ZxF (ZxE n) s:=fun _ _=>rfl
def Zv6 (vals:(List Str)):Option Str:=
 (Zt1 big ([]:Str) vals (vals.length:Int) (0:Int)).bind fun
  | .ret q_=>some q_
  | .brk x0=>Zyk x0
def Zvq (out:Str):Option (Str×Bool):=
 some (out,true)
def Zvr (out:Str) (t43:Bool):Option (Str×Bool):=
 bif t43 then (
  chk (decide (([45]:Str).length+out.length≤Zq)) <|
  Zvq (([45]:Str)++out)
 )else (
  Zvq out
 )
def ZqJ (t:Str) (out:Str):Option (Str×Bool):=
 (idx t 0).bind fun c=>
 bif (((c.toNat:Nat):Int) == 45)then (
  Zvr out (!(out == ([48]:Str)))
 )else (
  Zvr out false
 )
def Zuy (t:Str):Option (Str×Bool):=
 (Zrb t).bind fun(q,ok)=>
 bif (!ok)then (
  some (([]:Str),false)
 )else (
  (ZvA t ([43,45]:Str)).bind fun q_1=>
  (Zwb q_1 ([46]:Str)).bind fun(front,back,q_2)=>
  (ZvA front ([48]:Str)).bind fun front_1=>
  (ZwF back ([48]:Str)).bind fun back_1=>
  (Zv6 ([front_1,([48]:Str)]:(List Str))).bind fun out=>
  bif (!(back_1 == ([]:Str)))then (
   chk (decide (([46]:Str).length+back_1.length≤Zq)) <|
   chk (decide (out.length+(([46]:Str)++back_1).length≤Zq)) <|
   ZqJ t (out++(([46]:Str)++back_1))
  )else (
   ZqJ t out
  )
 )
def Zs2 (n:Int) (s:Str):Option (Str×Bool):=
 (ZxI).bind fun q=>
 bif (!(Zg3 (k:=(.int .i64)) (v:=(.st 4)) (car:=ZyK) q n).isSome)then (
  some (([]:Str),false)
 )else (
  bif (Option.isNone (((Zg3 (k:=(.int .i64)) (v:=(.st 4)) (car:=ZyK) q n).getD (ZoA.mk ([]:Str) (none:Option Nat) (none:Option Nat))).canonical))then (
   some (s,true)
  )else (
   (Zw5 s).bind fun q_1=>
   chk (decide (((Zg3 (k:=(.int .i64)) (v:=(.st 4)) (car:=ZyK) q n).getD (ZoA.mk ([]:Str) (none:Option Nat) (none:Option Nat))).canonical=some 242)) <|
   (Zuy q_1).bind fun(q_2,q_3)=>
   some (q_2,q_3)
  )
 )
def ZwL (n:Int) (s:Str):Option (ZnA×Bool):=
 (Zs2 n s).bind fun(t,ok)=>
 bif (!ok)then (
  some ((ZnA.mk (ZnB.mk false ([]:(List Int))) (ZnB.mk false ([]:(List Int)))),false)
 )else (
  (ZxI).bind fun q=>
  chk (decide (((Zg3 (k:=(.int .i64)) (v:=(.st 4)) (car:=ZyK) q n).getD (ZoA.mk ([]:Str) (none:Option Nat) (none:Option Nat))).value=some 241)) <|
  (Zrb t).bind fun(q_1,q_2)=>
  some (q_1,q_2)
 )
def Zx5 (c:G_api_Cell):Option (ZnA×Bool):=
 bif c.Null then (
  (Zwc).bind fun q=>
  some (q,false)
 )else (
  (ZwL 4 c.Text).bind fun(q_1,q_2)=>
  some (q_1,q_2)
 )
def ZvR (full:Int) (n:Int) (t2:Bool) (t2_1:Bool) (t2_2:(List Int)) (t2_3:(List Int)):Option ZnA:=
 (Zxf n (if (1:Int) > full then (1:Int)else full)).bind fun q=>
 some q
def Zsj (rec_:Int→Int→(List G_api_Cell)→Int→Int→Bool→Bool→(List Int)→(List Int)→Option (Int×Int×Bool×Bool×(List Int)×(List Int))) (full:Int) (n:Int) (t10:(List G_api_Cell)) (t11:Int) (t12:Int) (t2:Bool) (t2_1:Bool) (t2_2:(List Int)) (t2_3:(List Int)):Option (Int×Int×Bool×Bool×(List Int)×(List Int)):=
 chk (inK .i64 (t12+1)) <|
 rec_ full n t10 t11 (t12+1) t2 t2_1 t2_2 t2_3
def ZsW (rec_:Int→Int→(List G_api_Cell)→Int→Int→Bool→Bool→(List Int)→(List Int)→Option (Int×Int×Bool×Bool×(List Int)×(List Int))) (full:Int) (n:Int) (t10:(List G_api_Cell)) (t11:Int) (t12:Int) (t2:Bool) (t2_1:Bool) (t2_2:(List Int)) (t2_3:(List Int)):Option (Int×Int×Bool×Bool×(List Int)×(List Int)):=
 bif (decide (t12 < t11))then (
  (idx t10 t12).bind fun x_=>
  bif x_.Null then (
   Zsj rec_ full n t10 t11 t12 t2 t2_1 t2_2 t2_3
  )else (
   chk (inK .i64 (full+1)) <|
   (Zx5 x_).bind fun(q,ok)=>
   bif ok then (
    chk (inK .i64 (n+1)) <|
    Zsj rec_ (full+1) (n+1) t10 t11 t12 t2 t2_1 t2_2 t2_3
   )else (
    Zsj rec_ (full+1) n t10 t11 t12 t2 t2_1 t2_2 t2_3
   )
  )
 )else (
  some (full,n,t2,t2_1,t2_2,t2_3)
 )
def Zsi:Nat→Int→Int→(List G_api_Cell)→Int→Int→Bool→Bool→(List Int)→(List Int)→Option (Int×Int×Bool×Bool×(List Int)×(List Int))
 |0,_,_,_,_,_,_,_,_,_=>none
 |n_+1,full,n,t10,t11,t12,t2,t2_1,t2_2,t2_3=>ZsW (Zsi n_) full n t10 t11 t12 t2 t2_1 t2_2 t2_3
def ZwM (n:Nat) (s:(Int×Int×(List G_api_Cell)×Int×Int×Bool×Bool×(List Int)×(List Int))):Option (Int×Int×Bool×Bool×(List Int)×(List Int)):=Zsi n s.1 s.2.1 s.2.2.1 s.2.2.2.1 s.2.2.2.2.1 s.2.2.2.2.2.1 s.2.2.2.2.2.2.1 s.2.2.2.2.2.2.2.1 s.2.2.2.2.2.2.2.2
def ZuX (rec_:(Int×Int×(List G_api_Cell)×Int×Int×Bool×Bool×(List Int)×(List Int))→Option (Int×Int×Bool×Bool×(List Int)×(List Int))) (s:(Int×Int×(List G_api_Cell)×Int×Int×Bool×Bool×(List Int)×(List Int))):Option (Int×Int×Bool×Bool×(List Int)×(List Int)):=ZsW (fun full n t10 t11 t12 t2 t2_1 t2_2 t2_3=>rec_ (full,n,t10,t11,t12,t2,t2_1,t2_2,t2_3)) s.1 s.2.1 s.2.2.1 s.2.2.2.1 s.2.2.2.2.1 s.2.2.2.2.2.1 s.2.2.2.2.2.2.1 s.2.2.2.2.2.2.2.1 s.2.2.2.2.2.2.2.2
theorem Zyy:∀n s,ZwM (n+1) s=ZuX (ZwM n) s:=fun _ _=>rfl
def ZwN (c:G_api_Column):Option ZnA:=
 (Zsi big (0:Int) (0:Int) c.Cells (c.Cells.length:Int) (0:Int) false false ([]:(List Int)) ([]:(List Int))).bind fun(x0,x1,x2,x3,x4,x5)=>ZvR x0 x1 x2 x3 x4 x5
def ZoY (c:G_api_Column):Option ZnA:=ZAI (ZwN c)
def ZwQ (a:ZnA) (b:ZnA):Option (ZnB×ZnB):=
 (ZnL a.Num b.Den).bind fun q=>
 (ZnL b.Num a.Den).bind fun q_1=>
 (Zuq q q_1).bind fun num=>
 (ZnL a.Den b.Den).bind fun den=>
 some (num,den)
def ZpT (t18:Bool) (a:ZnA) (b:ZnA) (t6:Bool) (t6_1:Bool) (t6_2:(List Int)) (t6_3:(List Int)):Option (ZnA×Int):=
 bif t18 then (
  some ((ZnA.mk (ZnB.mk false ([]:(List Int))) (ZnB.mk false ([]:(List Int)))),1)
 )else (
  (ZwQ a b).bind fun(num,den)=>
  bif ((den.Words.length:Int) == 0)then (
   some ((ZnA.mk (ZnB.mk false ([]:(List Int))) (ZnB.mk false ([]:(List Int)))),8)
  )else (
   (Zpe num den).bind fun f=>
   bif (decide ((if (f.Den.Words.length:Int) > (f.Num.Words.length:Int)then (f.Den.Words.length:Int)else (f.Num.Words.length:Int)) > 256))then (
    some ((ZnA.mk (ZnB.mk false ([]:(List Int))) (ZnB.mk false ([]:(List Int)))),3)
   )else (
    some (f,0)
   )
  )
 )
def ZoI (a:ZnA) (b:ZnA):Option (ZnA×Int):=
 (ZoS a).bind fun q=>
 bif (!q)then (
  ZpT true a b false false ([]:(List Int)) ([]:(List Int))
 )else (
  (ZoS b).bind fun q_1=>
  ZpT (!q_1) a b false false ([]:(List Int)) ([]:(List Int))
 )
def ZwA (a:ZnA) (b:ZnA):Option (ZnA×Int):=
 (ZoS b).bind fun q=>
 bif (!q)then (
  some ((ZnA.mk (ZnB.mk false ([]:(List Int))) (ZnB.mk false ([]:(List Int)))),1)
 )else (
  (Zqr b.Num).bind fun q_1=>
  (ZoI a (ZnA.mk q_1 b.Den)).bind fun(q_2,q_3)=>
  some (q_2,q_3)
 )
def ZvS (f:ZnA) (a1:Int):Option ZnA:=
 some f
def Zx6 (a:ZnA) (b:ZnA):Option ZnA:=
 (ZwA a b).bind fun(q,q_1)=>
 (ZvS q q_1).bind fun q_2=>
 some q_2
def Zvk (a:ZnA) (b:ZnA):Option (ZnA×Int):=
 (ZoI a b).bind fun(q,q_1)=>
 some (q,q_1)
def Zx7 (a:ZnA) (b:ZnA):Option ZnA:=
 (Zvk a b).bind fun(q,q_1)=>
 (ZvS q q_1).bind fun q_2=>
 some q_2
def ZwR (a:ZnA) (b:ZnA):Option (ZnB×ZnB):=
 (ZnL a.Num b.Den).bind fun num=>
 (ZnL a.Den b.Num).bind fun den=>
 some (num,den)
def Zpo (t18:Bool) (a:ZnA) (b:ZnA) (t6:Bool) (t6_1:Bool) (t6_2:(List Int)) (t6_3:(List Int)):Option (ZnA×Int):=
 bif t18 then (
  some ((ZnA.mk (ZnB.mk false ([]:(List Int))) (ZnB.mk false ([]:(List Int)))),1)
 )else (
  (ZwR a b).bind fun(num,den)=>
  bif ((den.Words.length:Int) == 0)then (
   some ((ZnA.mk (ZnB.mk false ([]:(List Int))) (ZnB.mk false ([]:(List Int)))),8)
  )else (
   (Zpe num den).bind fun f=>
   bif (decide ((if (f.Den.Words.length:Int) > (f.Num.Words.length:Int)then (f.Den.Words.length:Int)else (f.Num.Words.length:Int)) > 256))then (
    some ((ZnA.mk (ZnB.mk false ([]:(List Int))) (ZnB.mk false ([]:(List Int)))),3)
   )else (
    some (f,0)
   )
  )
 )
def Zqp (a:ZnA) (b:ZnA):Option (ZnA×Int):=
 (ZoS a).bind fun q=>
 bif (!q)then (
  Zpo true a b false false ([]:(List Int)) ([]:(List Int))
 )else (
  (ZoS b).bind fun q_1=>
  Zpo (!q_1) a b false false ([]:(List Int)) ([]:(List Int))
 )
def ZwB (a:ZnA) (b:ZnA):Option (ZnA×Int):=
 (Zqp a b).bind fun(q,q_1)=>
 some (q,q_1)
def Zy4 (a:ZnA) (b:ZnA):Option ZnA:=
 (ZwB a b).bind fun(q,q_1)=>
 (ZvS q q_1).bind fun q_2=>
 some q_2
def ZtT (t4:Bool) (t4_1:Bool) (values:ZnA) (Zky:ZnA) (apart:ZnA) (t4_2:(List Int)) (t4_3:(List Int)):Option ZnA:=
 (Zx7 values values).bind fun q=>
 (Zx7 q Zky).bind fun q_1=>
 (Zxf 1 1).bind fun q_2=>
 (Zx6 q_2 apart).bind fun q_3=>
 (Zx7 q_1 q_3).bind fun sum=>
 (Zxf 4 1).bind fun q_4=>
 (Zy4 sum q_4).bind fun q_5=>
 some q_5
def Zsn (t24:Bool) (a:G_api_Column) (b:G_api_Column) (t4:Bool) (t4_1:Bool) (values:ZnA) (Zky:ZnA) (t4_2:(List Int)) (t4_3:(List Int)):Option ZnA:=
 bif t24 then (
  (Zwc).bind fun q=>
  some q
 )else (
  (ZoY a).bind fun q_1=>
  (ZoY b).bind fun q_2=>
  (Zx6 q_1 q_2).bind fun apart=>
  (Zw9 apart).bind fun q_3=>
  bif (decide (q_3 < 0))then (
   (Zwc).bind fun q_4=>
   (Zx6 q_4 apart).bind fun apart_1=>
   ZtT t4 t4_1 values Zky apart_1 t4_2 t4_3
  )else (
   ZtT t4 t4_1 values Zky apart t4_2 t4_3
  )
 )
def Ztn (a:G_api_Column) (b:G_api_Column):Option ZnA:=
 (ZrI a b).bind fun values=>
 (ZtU a.Name b.Name).bind fun Zky=>
 (Zw9 values).bind fun q=>
 bif (q == 0)then (
  (Zw9 Zky).bind fun q_1=>
  Zsn (q_1 == 0) a b false false values Zky ([]:(List Int)) ([]:(List Int))
 )else (
  Zsn false a b false false values Zky ([]:(List Int)) ([]:(List Int))
 )
def Zwi (w_:(List Int)):Option (List Int):=
 some w_
def ZtK (rec_:(List Int)→Option (List Int)) (w_:(List Int)) (t14:Bool):Option (List Int):=
 bif t14 then (
  chk (inK .i64 ((w_.length:Int) - 1)) <|
  chk (Zb9 0 ((w_.length:Int) - 1) (w_.length:Int)) <|
  rec_ (w_.take (((w_.length:Int) - 1)).toNat)
 )else (
  some w_
 )
def Zvx (rec_:(List Int)→Option (List Int)) (w_:(List Int)):Option (List Int):=
 bif (decide ((w_.length:Int) > 0))then (
  chk (inK .i64 ((w_.length:Int) - 1)) <|
  (idx w_ ((w_.length:Int) - 1)).bind fun w__e=>
  ZtK rec_ w_ (w__e == 0)
 )else (
  ZtK rec_ w_ false
 )
def Zom:Nat→(List Int)→Option (List Int)
 |0,_=>none
 |n_+1,w_=>Zvx (Zom n_) w_
def ZnZ (w_:(List Int)):Option (List Int):=
 (Zom big w_).bind fun x0=>Zwi x0
def Zr2 (t4:ZnB):Option ZnB:=
 some t4
def ZnP (neg:Bool) (w_:(List Int)):Option ZnB:=
 (ZnZ w_).bind fun w__1=>
 bif neg then (
  Zr2 (ZnB.mk (decide ((w__1.length:Int) > 0)) w__1)
 )else (
  Zr2 (ZnB.mk false w__1)
 )
def Zqj (n:Int) (u:Int) (t2:Bool) (t2_1:(List Int)):Option ZnB:=
 chk (decide (0≤(32:Int))) <|
 (ZnP (decide (n < 0)) ([(IntKind.wrap .u32 u),(IntKind.wrap .u32 (shrK .u64 u 32))]:(List Int))).bind fun q=>
 some q
def ZnM (n:Int):Option ZnB:=
 bif (decide (n < 0))then (
  Zqj n (IntKind.wrap .u64 (0 - (IntKind.wrap .u64 n))) false ([]:(List Int))
 )else (
  Zqj n (IntKind.wrap .u64 n) false ([]:(List Int))
 )
def Zn3 (t2:Bool):Option Bool:=
 some t2
def Zoh (a:ZnB):Option Bool:=
 bif (decide ((a.Words.length:Int)≤256))then (
  bif ((a.Words.length:Int) == 0)then (
   bif (!a.Neg)then (
    Zn3 true
   )else (
    bif (decide ((a.Words.length:Int) > 0))then (
     chk (inK .i64 ((a.Words.length:Int) - 1)) <|
     (idx a.Words ((a.Words.length:Int) - 1)).bind fun Word=>
     Zn3 (Word != 0)
    )else (
     Zn3 false
    )
   )
  )else (
   bif (decide ((a.Words.length:Int) > 0))then (
    chk (inK .i64 ((a.Words.length:Int) - 1)) <|
    (idx a.Words ((a.Words.length:Int) - 1)).bind fun Word_1=>
    Zn3 (Word_1 != 0)
   )else (
    Zn3 false
   )
  )
 )else (
  Zn3 false
 )
def ZtL (out:(List Int)):Option (List Int):=
 (ZnZ out).bind fun q=>
 some q
def ZpO (rec_:(List Int)→Int→Int→(List Int)→Option (List Int)) (a:(List Int)) (t9:Int) (i:Int) (out:(List Int)):Option (List Int):=
 chk (inK .i64 (i+1)) <|
 rec_ a t9 (i+1) out
def ZqG (rec_:(List Int)→Int→Int→(List Int)→Option (List Int)) (a:(List Int)) (t9:Int) (i:Int) (out:(List Int)):Option (List Int):=
 bif (decide (i < t9))then (
  chk (inR i (out.length:Int)) <|
  (out[(i).toNat]?).bind fun out_e=>
  chk (decide (0≤(1:Int))) <|
  chk (inR i (out.length:Int)) <|
  chk (inK .i64 (i+1)) <|
  bif (decide ((i+1) < (a.length:Int)))then (
   chk (inR i ((out.set ((i).toNat) (shrK .u32 out_e 1)).length:Int)) <|
   ((out.set ((i).toNat) (shrK .u32 out_e 1))[(i).toNat]?).bind fun e_e=>
   chk (inK .i64 (i+1)) <|
   (idx a (i+1)).bind fun a_e=>
   chk (decide (0≤(31:Int))) <|
   chk (inR i ((out.set ((i).toNat) (shrK .u32 out_e 1)).length:Int)) <|
   ZpO rec_ a t9 i ((out.set ((i).toNat) (shrK .u32 out_e 1)).set ((i).toNat) (orK .u32 e_e (shlK .u32 a_e 31)))
  )else (
   ZpO rec_ a t9 i (out.set ((i).toNat) (shrK .u32 out_e 1))
  )
 )else (
  some out
 )
def ZpN:Nat→(List Int)→Int→Int→(List Int)→Option (List Int)
 |0,_,_,_,_=>none
 |n_+1,a,t9,i,out=>ZqG (ZpN n_) a t9 i out
def Zvy (n:Nat) (s:((List Int)×Int×Int×(List Int))):Option (List Int):=ZpN n s.1 s.2.1 s.2.2.1 s.2.2.2
def ZsU (rec_:((List Int)×Int×Int×(List Int))→Option (List Int)) (s:((List Int)×Int×Int×(List Int))):Option (List Int):=ZqG (fun a t9 i out=>rec_ (a,t9,i,out)) s.1 s.2.1 s.2.2.1 s.2.2.2
theorem Zxz:∀n s,Zvy (n+1) s=ZsU (Zvy n) s:=fun _ _=>rfl
def Zop (a:(List Int)):Option (List Int):=
 chk (ZiZ (([]:(List Int)).length+a.length) 4) <|
 (ZpN big a ((([]:(List Int))++a).length:Int) (0:Int) (([]:(List Int))++a)).bind fun x0=>ZtL x0
def Zuj:Option Int:=
 some (0:Int)
def ZqX (rec_:(List Int)→(List Int)→Int→Option (Out Unit Int)) (a:(List Int)) (b:(List Int)) (i:Int):Option (Out Unit Int):=
 bif (decide (i≥0))then (
  (idx a i).bind fun a_e=>
  (idx b i).bind fun b_e=>
  bif (decide (a_e < b_e))then (
   some (.ret (-1:Int))
  )else (
   (idx a i).bind fun a_e_1=>
   (idx b i).bind fun b_e_1=>
   bif (decide (a_e_1 > b_e_1))then (
    some (.ret (1:Int))
   )else (
    chk (inK .i64 (i - 1)) <|
    rec_ a b (i - 1)
   )
  )
 )else (
  some (.brk ())
 )
def Zr1:Nat→(List Int)→(List Int)→Int→Option (Out Unit Int)
 |0,_,_,_=>none
 |n_+1,a,b,i=>ZqX (Zr1 n_) a b i
def ZvO (n:Nat) (s:((List Int)×(List Int)×Int)):Option (Out Unit Int):=Zr1 n s.1 s.2.1 s.2.2
def Zti (rec_:((List Int)×(List Int)×Int)→Option (Out Unit Int)) (s:((List Int)×(List Int)×Int)):Option (Out Unit Int):=ZqX (fun a b i=>rec_ (a,b,i)) s.1 s.2.1 s.2.2
theorem ZxR:∀n s,ZvO (n+1) s=Zti (ZvO n) s:=fun _ _=>rfl
def Zoa (a:(List Int)) (b:(List Int)):Option Int:=
 bif ((a.length:Int) != (b.length:Int))then (
  bif (decide ((a.length:Int) < (b.length:Int)))then (
   some (-1:Int)
  )else (
   some (1:Int)
  )
 )else (
  chk (inK .i64 ((a.length:Int) - 1)) <|
  (Zr1 big a b ((a.length:Int) - 1)).bind fun
   | .ret q_=>some q_
   | .brk ()=>Zuj
 )
def Zua (out:(List Int)):Option (List Int):=
 (ZnZ out).bind fun q=>
 some q
def Zp6 (rec_:(List Int)→(List Int)→Int→Int→(List Int)→Option (List Int)) (a:(List Int)) (b:(List Int)) (c:Int) (i:Int) (out:(List Int)):Option (List Int):=
 chk (ZiZ (out.length+([(IntKind.wrap .u32 c)]:(List Int)).length) 4) <|
 chk (decide (0≤(32:Int))) <|
 chk (inK .i64 (i+1)) <|
 rec_ a b (shrK .i64 c 32) (i+1) (out++([(IntKind.wrap .u32 c)]:(List Int)))
def ZqT (rec_:(List Int)→(List Int)→Int→Int→(List Int)→Option (List Int)) (a:(List Int)) (b:(List Int)) (c:Int) (i:Int) (out:(List Int)):Option (List Int):=
 bif (decide (i < (a.length:Int)))then (
  (idx a i).bind fun a_e=>
  chk (inK .i64 (c+(IntKind.wrap .i64 a_e))) <|
  bif (decide (i < (b.length:Int)))then (
   (idx b i).bind fun b_e=>
   chk (inK .i64 ((c+(IntKind.wrap .i64 a_e)) - (IntKind.wrap .i64 b_e))) <|
   Zp6 rec_ a b ((c+(IntKind.wrap .i64 a_e)) - (IntKind.wrap .i64 b_e)) i out
  )else (
   Zp6 rec_ a b (c+(IntKind.wrap .i64 a_e)) i out
  )
 )else (
  some out
 )
def Zp5:Nat→(List Int)→(List Int)→Int→Int→(List Int)→Option (List Int)
 |0,_,_,_,_,_=>none
 |n_+1,a,b,c,i,out=>ZqT (Zp5 n_) a b c i out
def ZvK (n:Nat) (s:((List Int)×(List Int)×Int×Int×(List Int))):Option (List Int):=Zp5 n s.1 s.2.1 s.2.2.1 s.2.2.2.1 s.2.2.2.2
def Ztc (rec_:((List Int)×(List Int)×Int×Int×(List Int))→Option (List Int)) (s:((List Int)×(List Int)×Int×Int×(List Int))):Option (List Int):=ZqT (fun a b c i out=>rec_ (a,b,c,i,out)) s.1 s.2.1 s.2.2.1 s.2.2.2.1 s.2.2.2.2
theorem ZxN:∀n s,ZvK (n+1) s=Ztc (ZvK n) s:=fun _ _=>rfl
def Zoy (a:(List Int)) (b:(List Int)):Option (List Int):=
 (Zp5 big a b (0:Int) (0:Int) ([]:(List Int))).bind fun x0=>Zua x0
def Ztb (d:Int) (out:(List Int)):Option (List Int):=
 chk (ZiZ (out.length+([d]:(List Int)).length) 4) <|
 (ZnZ (out++([d]:(List Int)))).bind fun q=>
 some q
def Zqh (rec_:(List Int)→Int→Int→(List Int)→Option (Int×(List Int))) (a:(List Int)) (d:Int) (i:Int) (out:(List Int)):Option (Int×(List Int)):=
 bif (decide (i < (a.length:Int)))then (
  (idx a i).bind fun a_e=>
  chk (decide (0≤(1:Int))) <|
  chk (ZiZ (out.length+([(orK .u32 (shlK .u32 a_e 1) d)]:(List Int)).length) 4) <|
  (idx a i).bind fun a_e_1=>
  chk (decide (0≤(31:Int))) <|
  chk (inK .i64 (i+1)) <|
  rec_ a (shrK .u32 a_e_1 31) (i+1) (out++([(orK .u32 (shlK .u32 a_e 1) d)]:(List Int)))
 )else (
  some (d,out)
 )
def ZqS:Nat→(List Int)→Int→Int→(List Int)→Option (Int×(List Int))
 |0,_,_,_,_=>none
 |n_+1,a,d,i,out=>Zqh (ZqS n_) a d i out
def Zvb (n:Nat) (s:((List Int)×Int×Int×(List Int))):Option (Int×(List Int)):=ZqS n s.1 s.2.1 s.2.2.1 s.2.2.2
def Zsx (rec_:((List Int)×Int×Int×(List Int))→Option (Int×(List Int))) (s:((List Int)×Int×Int×(List Int))):Option (Int×(List Int)):=Zqh (fun a d i out=>rec_ (a,d,i,out)) s.1 s.2.1 s.2.2.1 s.2.2.2
theorem Zxl:∀n s,Zvb (n+1) s=Zsx (Zvb n) s:=fun _ _=>rfl
def Zpj (a:(List Int)) (d:Int):Option (List Int):=
 (ZqS big a d (0:Int) ([]:(List Int))).bind fun(x0,x1)=>Ztb x0 x1
def Zud (a:(List Int)):Option (List Int):=
 some a
def Zps (rec_:(List Int)→Int→Option (List Int)) (a:(List Int)) (k:Int):Option (List Int):=
 bif (decide (k > 0))then (
  (Zpj a 0).bind fun a_1=>
  chk (inK .i64 (k - 1)) <|
  rec_ a_1 (k - 1)
 )else (
  some a
 )
def ZoV:Nat→(List Int)→Int→Option (List Int)
 |0,_,_=>none
 |n_+1,a,k=>Zps (ZoV n_) a k
def Zue (a:(List Int)) (k:Int):Option (List Int):=
 (ZoV big a k).bind fun x0=>Zud x0
def ZrZ (rec_:(List Int)→(List Int)→Int→Option ((List Int)×Int)) (a:(List Int)) (b:(List Int)) (k:Int):Option ((List Int)×Int):=
 (Zoy b a).bind fun b_1=>
 rec_ a b_1 k
def Zuf (rec_:(List Int)→(List Int)→Int→Option ((List Int)×Int)) (a:(List Int)) (b:(List Int)) (k:Int):Option ((List Int)×Int):=
 (Zoa a b).bind fun q=>
 bif (decide (q > 0))then (
  ZrZ rec_ b a k
 )else (
  ZrZ rec_ a b k
 )
def Ztf (rec_:(List Int)→(List Int)→Int→Option ((List Int)×(List Int)×Int)) (a:(List Int)) (b:(List Int)) (k:Int):Option ((List Int)×(List Int)×Int):=
 (idx b 0).bind fun b_e=>
 bif ((andK .u32 b_e 1) == 0)then (
  (Zop b).bind fun b_1=>
  rec_ a b_1 k
 )else (
  some (a,b,k)
 )
def Zoe:Nat→(List Int)→(List Int)→Int→Option ((List Int)×(List Int)×Int)
 |0,_,_,_=>none
 |n_+1,a,b,k=>Ztf (Zoe n_) a b k
def Zug (rec_:(List Int)→(List Int)→Int→Option ((List Int)×Int)) (a:(List Int)) (b:(List Int)) (k:Int):Option ((List Int)×Int):=
 (Zoe big a b k).bind fun(x0,x1,x2)=>Zuf rec_ x0 x1 x2
def Zpt (rec_:(List Int)→(List Int)→Int→Option ((List Int)×(List Int)×Int)) (a:(List Int)) (b:(List Int)) (k:Int):Option ((List Int)×(List Int)×Int):=
 (idx a 0).bind fun a_e=>
 bif ((andK .u32 a_e 1) == 0)then (
  (Zop a).bind fun a_1=>
  rec_ a_1 b k
 )else (
  some (a,b,k)
 )
def Zof:Nat→(List Int)→(List Int)→Int→Option ((List Int)×(List Int)×Int)
 |0,_,_,_=>none
 |n_+1,a,b,k=>Zpt (Zof n_) a b k
def Zpu (rec_:(List Int)→(List Int)→Int→Option ((List Int)×Int)) (a:(List Int)) (b:(List Int)) (k:Int):Option ((List Int)×Int):=
 bif (decide ((b.length:Int) > 0))then (
  (Zof big a b k).bind fun(x0,x1,x2)=>Zug rec_ x0 x1 x2
 )else (
  some (a,k)
 )
def ZnQ:Nat→(List Int)→(List Int)→Int→Option ((List Int)×Int)
 |0,_,_,_=>none
 |n_+1,a,b,k=>Zpu (ZnQ n_) a b k
def Zuh (a:(List Int)) (b:(List Int)) (k:Int):Option (List Int):=
 (ZnQ big a b k).bind fun(x0,x1)=>Zue x0 x1
def Zr0 (rec_:(List Int)→(List Int)→Int→Option ((List Int)×(List Int)×Int)) (a:(List Int)) (b:(List Int)) (k:Int) (t17:Bool):Option ((List Int)×(List Int)×Int):=
 bif t17 then (
  (Zop a).bind fun a_1=>
  (Zop b).bind fun b_1=>
  chk (inK .i64 (k+1)) <|
  rec_ a_1 b_1 (k+1)
 )else (
  some (a,b,k)
 )
def Ztg (rec_:(List Int)→(List Int)→Int→Option ((List Int)×(List Int)×Int)) (a:(List Int)) (b:(List Int)) (k:Int):Option ((List Int)×(List Int)×Int):=
 (idx a 0).bind fun a_e=>
 bif ((andK .u32 a_e 1) == 0)then (
  (idx b 0).bind fun b_e=>
  Zr0 rec_ a b k ((andK .u32 b_e 1) == 0)
 )else (
  Zr0 rec_ a b k false
 )
def ZoW:Nat→(List Int)→(List Int)→Int→Option ((List Int)×(List Int)×Int)
 |0,_,_,_=>none
 |n_+1,a,b,k=>Ztg (ZoW n_) a b k
def ZpU (a:(List Int)) (b:(List Int)):Option (List Int):=
 (ZoW big a b (0:Int)).bind fun(x0,x1,x2)=>Zuh x0 x1 x2
def Zrs (a:(List Int)) (i:Int):Option Int:=
 chk (decide ((32:Int)≠0)) <|
 chk (inK .i64 (Int.tdiv i 32)) <|
 (idx a (Int.tdiv i 32)).bind fun a_e=>
 chk (decide ((32:Int)≠0)) <|
 chk (decide (0≤(IntKind.wrap .u64 (Int.tmod i 32)))) <|
 some (andK .u32 (shrK .u32 a_e (IntKind.wrap .u64 (Int.tmod i 32))) 1)
def Zui (r_:(List Int)) (q:(List Int)):Option ((List Int)×(List Int)):=
 (ZnZ q).bind fun q_1=>
 some (q_1,r_)
def Zp9 (rec_:(List Int)→(List Int)→(List Int)→Int→(List Int)→Option ((List Int)×(List Int))) (a:(List Int)) (b:(List Int)) (r_:(List Int)) (i:Int) (q:(List Int)):Option ((List Int)×(List Int)):=
 chk (inK .i64 (i - 1)) <|
 rec_ a b r_ (i - 1) q
def ZqW (rec_:(List Int)→(List Int)→(List Int)→Int→(List Int)→Option ((List Int)×(List Int))) (a:(List Int)) (b:(List Int)) (r_:(List Int)) (i:Int) (q:(List Int)):Option ((List Int)×(List Int)):=
 bif (decide (i≥0))then (
  (Zrs a i).bind fun q_1=>
  (Zpj r_ q_1).bind fun r__1=>
  (Zoa r__1 b).bind fun q_2=>
  bif (decide (q_2≥0))then (
   (Zoy r__1 b).bind fun r__2=>
   chk (decide ((32:Int)≠0)) <|
   chk (inK .i64 (Int.tdiv i 32)) <|
   chk (inR (Int.tdiv i 32) (q.length:Int)) <|
   (q[((Int.tdiv i 32)).toNat]?).bind fun q_e=>
   chk (decide ((32:Int)≠0)) <|
   chk (decide (0≤(IntKind.wrap .u64 (Int.tmod i 32)))) <|
   chk (inR (Int.tdiv i 32) (q.length:Int)) <|
   Zp9 rec_ a b r__2 i (q.set (((Int.tdiv i 32)).toNat) (orK .u32 q_e (shlK .u32 1 (IntKind.wrap .u64 (Int.tmod i 32)))))
  )else (
   Zp9 rec_ a b r__1 i q
  )
 )else (
  some (r_,q)
 )
def Zp8:Nat→(List Int)→(List Int)→(List Int)→Int→(List Int)→Option ((List Int)×(List Int))
 |0,_,_,_,_,_=>none
 |n_+1,a,b,r_,i,q=>ZqW (Zp8 n_) a b r_ i q
def ZvN (n:Nat) (s:((List Int)×(List Int)×(List Int)×Int×(List Int))):Option ((List Int)×(List Int)):=Zp8 n s.1 s.2.1 s.2.2.1 s.2.2.2.1 s.2.2.2.2
def Zth (rec_:((List Int)×(List Int)×(List Int)×Int×(List Int))→Option ((List Int)×(List Int))) (s:((List Int)×(List Int)×(List Int)×Int×(List Int))):Option ((List Int)×(List Int)):=ZqW (fun a b r_ i q=>rec_ (a,b,r_,i,q)) s.1 s.2.1 s.2.2.1 s.2.2.2.1 s.2.2.2.2
theorem ZxQ:∀n s,ZvN (n+1) s=Zth (ZvN n) s:=fun _ _=>rfl
def ZpV (a:(List Int)) (b:(List Int)):Option ((List Int)×(List Int)):=
 chk (mkOk (a.length:Int) (a.length:Int) 4) <|
 chk (inK .i64 (32*(a.length:Int))) <|
 chk (inK .i64 ((32*(a.length:Int)) - 1)) <|
 (Zp8 big a b ([]:(List Int)) ((32*(a.length:Int)) - 1) (List.replicate ((a.length:Int)).toNat (0:Int))).bind fun(x0,x1)=>Zui x0 x1
def Zot (num:ZnB) (den:ZnB):Option ZnA:=
 bif ((num.Words.length:Int) == 0)then (
  (ZnM 1).bind fun q=>
  some (ZnA.mk (ZnB.mk false ([]:(List Int))) q)
 )else (
  (ZpU num.Words den.Words).bind fun g=>
  (ZpV num.Words g).bind fun(x_,q_1)=>
  (ZpV den.Words g).bind fun(y,q_2)=>
  (ZnP (!(num.Neg == den.Neg)) x_).bind fun q_3=>
  (ZnP false y).bind fun q_4=>
  some (ZnA.mk q_3 q_4)
 )
def Zri (t13:Bool) (num:ZnB) (den:ZnB) (t4:Bool) (t4_1:Bool) (t4_2:(List Int)) (t4_3:(List Int)):Option (ZnA×Int):=
 bif t13 then (
  some ((ZnA.mk (ZnB.mk false ([]:(List Int))) (ZnB.mk false ([]:(List Int)))),1)
 )else (
  bif ((den.Words.length:Int) == 0)then (
   some ((ZnA.mk (ZnB.mk false ([]:(List Int))) (ZnB.mk false ([]:(List Int)))),8)
  )else (
   (Zot num den).bind fun q=>
   some (q,0)
  )
 )
def Zq1 (num:ZnB) (den:ZnB):Option (ZnA×Int):=
 (Zoh num).bind fun q=>
 bif (!q)then (
  Zri true num den false false ([]:(List Int)) ([]:(List Int))
 )else (
  (Zoh den).bind fun q_1=>
  Zri (!q_1) num den false false ([]:(List Int)) ([]:(List Int))
 )
def Zqu (num:Int) (den:Int):Option (ZnA×Int):=
 (ZnM num).bind fun q=>
 (ZnM den).bind fun q_1=>
 (Zq1 q q_1).bind fun(q_2,q_3)=>
 some (q_2,q_3)
def ZuV (n:Int) (d:Int):Option ZnA:=
 (Zqu n d).bind fun(f,q)=>
 some f
def Zod (n:Int) (d:Int):Option ZnA:=ZAI (ZuV n d)
def Zvl (n:Int):Option ZnA:=
 (Zod n 1).bind fun q=>
 some q
def Zn8 (n:Int):Option ZnA:=ZAI (Zvl n)
def Zsw:Option Bool:=
 some true
def ZpD (rec_:(List Int)→Int→Int→ZnB→Option (Out Unit Bool)) (t22:(List Int)) (t23:Int) (i:Int) (b:ZnB):Option (Out Unit Bool):=
 bif (decide (i < t23))then (
  (idx t22 i).bind fun w_=>
  (idx b.Words i).bind fun Word=>
  bif (Word != w_)then (
   some (.ret false)
  )else (
   chk (inK .i64 (i+1)) <|
   rec_ t22 t23 (i+1) b
  )
 )else (
  some (.brk ())
 )
def Zqf:Nat→(List Int)→Int→Int→ZnB→Option (Out Unit Bool)
 |0,_,_,_,_=>none
 |n_+1,t22,t23,i,b=>ZpD (Zqf n_) t22 t23 i b
def ZuC (n:Nat) (s:((List Int)×Int×Int×ZnB)):Option (Out Unit Bool):=Zqf n s.1 s.2.1 s.2.2.1 s.2.2.2
def ZrD (rec_:((List Int)×Int×Int×ZnB)→Option (Out Unit Bool)) (s:((List Int)×Int×Int×ZnB)):Option (Out Unit Bool):=ZpD (fun t22 t23 i b=>rec_ (t22,t23,i,b)) s.1 s.2.1 s.2.2.1 s.2.2.2
theorem ZwZ:∀n s,ZuC (n+1) s=ZrD (ZuC n) s:=fun _ _=>rfl
def Zqg (t20:Bool) (a:ZnB) (b:ZnB):Option Bool:=
 bif t20 then (
  some false
 )else (
  (Zqf big a.Words (a.Words.length:Int) (0:Int) b).bind fun
   | .ret q_=>some q_
   | .brk ()=>Zsw
 )
def ZoN (a:ZnB) (b:ZnB):Option Bool:=
 bif (!(a.Neg == b.Neg))then (
  Zqg true a b
 )else (
  Zqg ((a.Words.length:Int) != (b.Words.length:Int)) a b
 )
def Zrd (t4:Bool):Option Bool:=
 some t4
def ZnY (a:ZnA) (b:ZnA):Option Bool:=
 (ZoN a.Num b.Num).bind fun q=>
 bif q then (
  (ZoN a.Den b.Den).bind fun q_1=>
  Zrd q_1
 )else (
  Zrd false
 )
def Zpy (t0:Bool):Option Bool:=
 some t0
def Zpl:Option Bool:=
 (Zpa ([85,110,105,116,32,80,114,105,99,101,95,50]:Str)).bind fun q=>
 (Zo4 q ([([50]:Str),([112,114,105,99,101]:Str),([117,110,105,116]:Str)]:(List Str))).bind fun q_1=>
 bif q_1 then (
  (Ztn (G_api_Column.mk ([85,110,105,116,32,80,114,105,99,101,95,50]:Str) ([(G_api_Cell.mk false ([49]:Str)),(G_api_Cell.mk false ([120]:Str))]:(List G_api_Cell))) (G_api_Column.mk ([85,110,105,116,32,80,114,105,99,101,95,50]:Str) ([(G_api_Cell.mk false ([49]:Str)),(G_api_Cell.mk false ([120]:Str))]:(List G_api_Cell)))).bind fun q_2=>
  (Zn8 1).bind fun q_3=>
  (ZnY q_2 q_3).bind fun q_4=>
  bif q_4 then (
   (ZoY (G_api_Column.mk ([85,110,105,116,32,80,114,105,99,101,95,50]:Str) ([(G_api_Cell.mk false ([49]:Str)),(G_api_Cell.mk false ([120]:Str))]:(List G_api_Cell)))).bind fun q_5=>
   (Zod 1 2).bind fun q_6=>
   (ZnY q_5 q_6).bind fun q_7=>
   Zpy q_7
  )else (
   Zpy false
  )
 )else (
  Zpy false
 )
def ZtS (t:(List Int)):Option ZnD:=
 some (ZnD.mk t 0)
def ZsF (n:Int) (m:Int):Option Int:=
 bif (decide (m < 1))then (
  some (0:Int)
 )else (
  chk (decide (m≠0)) <|
  chk (inK .i64 ((Int.tmod n m)+m)) <|
  chk (decide (m≠0)) <|
  some (Int.tmod ((Int.tmod n m)+m) m)
 )
def ZnT (d:ZnD) (n:Int):Option (Int×ZnD):=
 bif (decide (d.at_≥(d.l.length:Int)))then (
  some (0,d)
 )else (
  chk (inK .i64 (d.at_+1)) <|
  chk (inK .i64 ((d.at_+1) - 1)) <|
  (idx d.l ((d.at_+1) - 1)).bind fun l_e=>
  (ZsF l_e n).bind fun q=>
  some (q,(ZnD.mk d.l (d.at_+1)))
 )
def Zob (d:ZnD) (l:(List Str)):Option (Str×ZnD):=
 (ZnT d (l.length:Int)).bind fun(q,t6)=>
 (idx l q).bind fun l_e=>
 some (l_e,t6)
def Zsg (d:ZnD):Option (G_api_Cell×ZnD):=
 (ZnT d 7).bind fun(q,t3)=>
 bif (q == 1)then (
  some ((G_api_Cell.mk true ([]:Str)),t3)
 )else (
  (Zob t3 ([([97]:Str),([98]:Str),([99]:Str),([49]:Str),([50]:Str),([51]:Str),([49,48]:Str),([120]:Str),([45,49,46,53]:Str),([50]:Str)]:(List Str))).bind fun(q_1,t7)=>
  some ((G_api_Cell.mk false q_1),t7)
 )
def Zvj (n:Int):Option Str:=
 some (Lib.itoa n)
def Zq2 (d:ZnD):Option (G_api_Cell×ZnD):=
 (ZnT d 9).bind fun(q,t3)=>
 bif (q == 1)then (
  some ((G_api_Cell.mk true ([]:Str)),t3)
 )else (
  bif (q == 2)then (
   (Zob t3 ([([120]:Str),([]:Str),([49,46,50,46,51]:Str),([49,46,53,48]:Str)]:(List Str))).bind fun(q_1,t10)=>
   some ((G_api_Cell.mk false q_1),t10)
  )else (
   (ZnT t3 12).bind fun(q_2,t14)=>
   chk (inK .i64 (q_2 - 3)) <|
   (Zvj (q_2 - 3)).bind fun q_3=>
   some ((G_api_Cell.mk false q_3),t14)
  )
 )
def ZtM (d:ZnD) (t4:Str) (c:Str) (t4_1:(List G_api_Cell)) (c_1:(List G_api_Cell)):Option (G_api_Column×ZnD):=
 some ((G_api_Column.mk c c_1),d)
def Zon (rec_:Int→Int→Int→ZnD→Str→Str→(List G_api_Cell)→(List G_api_Cell)→Option (ZnD×Str×Str×(List G_api_Cell)×(List G_api_Cell))) (kind:Int) (t15:Int) (i:Int) (d:ZnD) (t4:Str) (c:Str) (x_:G_api_Cell) (t4_1:(List G_api_Cell)) (c_1:(List G_api_Cell)):Option (ZnD×Str×Str×(List G_api_Cell)×(List G_api_Cell)):=
 chk (ZiZ (c_1.length+([x_]:(List G_api_Cell)).length) 24) <|
 chk (inK .i64 (i+1)) <|
 rec_ kind t15 (i+1) d t4 c t4_1 (c_1++([x_]:(List G_api_Cell)))
def ZqH (rec_:Int→Int→Int→ZnD→Str→Str→(List G_api_Cell)→(List G_api_Cell)→Option (ZnD×Str×Str×(List G_api_Cell)×(List G_api_Cell))) (kind:Int) (t15:Int) (i:Int) (d:ZnD) (t4:Str) (c:Str) (t4_1:(List G_api_Cell)) (c_1:(List G_api_Cell)):Option (ZnD×Str×Str×(List G_api_Cell)×(List G_api_Cell)):=
 bif (decide (i < t15))then (
  (Zsg d).bind fun(x_,t19)=>
  bif (kind == 0)then (
   (Zq2 t19).bind fun(x__1,t24)=>
   Zon rec_ kind t15 i t24 t4 c x__1 t4_1 c_1
  )else (
   bif (kind == 1)then (
    (Zvj i).bind fun q=>
    chk (decide (([107]:Str).length+q.length≤Zq)) <|
    Zon rec_ kind t15 i t19 t4 c (G_api_Cell.mk false (([107]:Str)++q)) t4_1 c_1
   )else (
    bif (kind == 2)then (
     (Zob t19 ([([97]:Str),([98]:Str),([99]:Str),([100]:Str)]:(List Str))).bind fun(q_1,t34)=>
     Zon rec_ kind t15 i t34 t4 c (G_api_Cell.mk false q_1) t4_1 c_1
    )else (
     Zon rec_ kind t15 i t19 t4 c x_ t4_1 c_1
    )
   )
  )
 )else (
  some (d,t4,c,t4_1,c_1)
 )
def ZpQ:Nat→Int→Int→Int→ZnD→Str→Str→(List G_api_Cell)→(List G_api_Cell)→Option (ZnD×Str×Str×(List G_api_Cell)×(List G_api_Cell))
 |0,_,_,_,_,_,_,_,_=>none
 |n_+1,kind,t15,i,d,t4,c,t4_1,c_1=>ZqH (ZpQ n_) kind t15 i d t4 c t4_1 c_1
def Zvz (n:Nat) (s:(Int×Int×Int×ZnD×Str×Str×(List G_api_Cell)×(List G_api_Cell))):Option (ZnD×Str×Str×(List G_api_Cell)×(List G_api_Cell)):=ZpQ n s.1 s.2.1 s.2.2.1 s.2.2.2.1 s.2.2.2.2.1 s.2.2.2.2.2.1 s.2.2.2.2.2.2.1 s.2.2.2.2.2.2.2
def ZsV (rec_:(Int×Int×Int×ZnD×Str×Str×(List G_api_Cell)×(List G_api_Cell))→Option (ZnD×Str×Str×(List G_api_Cell)×(List G_api_Cell))) (s:(Int×Int×Int×ZnD×Str×Str×(List G_api_Cell)×(List G_api_Cell))):Option (ZnD×Str×Str×(List G_api_Cell)×(List G_api_Cell)):=ZqH (fun kind t15 i d t4 c t4_1 c_1=>rec_ (kind,t15,i,d,t4,c,t4_1,c_1)) s.1 s.2.1 s.2.2.1 s.2.2.2.1 s.2.2.2.2.1 s.2.2.2.2.2.1 s.2.2.2.2.2.2.1 s.2.2.2.2.2.2.2
theorem ZxA:∀n s,Zvz (n+1) s=ZsV (Zvz n) s:=fun _ _=>rfl
def ZpG (d:ZnD) (rows:Int):Option (G_api_Column×ZnD):=
 (Zob d ([([105,100]:Str),([110,97,109,101]:Str),([85,110,105,116,32,80,114,105,99,101]:Str),([99,105,116,121]:Str),([117,110,105,116]:Str),([112,114,105,99,101]:Str),([105,100,50]:Str),([]:Str)]:(List Str))).bind fun(q,t9)=>
 (ZnT t9 5).bind fun(kind,t13)=>
 (ZpQ big kind rows (0:Int) t13 ([]:Str) q ([]:(List G_api_Cell)) ([]:(List G_api_Cell))).bind fun(x0,x1,x2,x3,x4)=>ZtM x0 x1 x2 x3 x4
def Zt8 (out:(List Str)):Option (List Str):=
 some out
def ZrV (rec_:(List Str)→Int→Int→(List Str)→Option (List Str)) (t7:(List Str)) (t8:Int) (t9:Int) (out:(List Str)):Option (List Str):=
 chk (inK .i64 (t9+1)) <|
 rec_ t7 t8 (t9+1) out
def ZrW (rec_:(List Str)→Int→Int→(List Str)→Option (List Str)) (s:Str) (k:Int) (t7:(List Str)) (t8:Int) (t9:Int) (t38:Bool) (out:(List Str)):Option (List Str):=
 bif t38 then (
  chk (Zb9 0 k (out.length:Int)) <|
  chk (Zb9 k (out.length:Int) (out.length:Int)) <|
  chk (ZiZ (([s]:(List Str)).length+((out.drop ((k).toNat)).take ((out.length:Int).toNat - (k).toNat)).length) 16) <|
  chk (decide (((k).toNat - 0)≤out.length)) <|
  chk (ZiZ (((k).toNat - 0)+(([s]:(List Str))++((out.drop ((k).toNat)).take ((out.length:Int).toNat - (k).toNat))).length) 16) <|
  ZrV rec_ t7 t8 t9 (out.take ((k).toNat - 0)++(([s]:(List Str))++((out.drop ((k).toNat)).take ((out.length:Int).toNat - (k).toNat))))
 )else (
  ZrV rec_ t7 t8 t9 out
 )
def Zt9 (rec_:(List Str)→Int→Int→(List Str)→Option (List Str)) (s:Str) (k:Int) (t7:(List Str)) (t8:Int) (t9:Int) (out:(List Str)):Option (List Str):=
 bif (k == (out.length:Int))then (
  ZrW rec_ s k t7 t8 t9 true out
 )else (
  chk (inR k (out.length:Int)) <|
  (out[(k).toNat]?).bind fun out_e=>
  ZrW rec_ s k t7 t8 t9 (!(out_e == s)) out
 )
def ZrX (rec_:Str→Int→(List Str)→Int→Int→(List Str)→Option (Str×Int×(List Str)×Int×Int×(List Str))) (s:Str) (k:Int) (t7:(List Str)) (t8:Int) (t9:Int) (t24:Bool) (out:(List Str)):Option (Str×Int×(List Str)×Int×Int×(List Str)):=
 bif t24 then (
  chk (inK .i64 (k+1)) <|
  rec_ s (k+1) t7 t8 t9 out
 )else (
  some (s,k,t7,t8,t9,out)
 )
def Zs9 (rec_:Str→Int→(List Str)→Int→Int→(List Str)→Option (Str×Int×(List Str)×Int×Int×(List Str))) (s:Str) (k:Int) (t7:(List Str)) (t8:Int) (t9:Int) (out:(List Str)):Option (Str×Int×(List Str)×Int×Int×(List Str)):=
 bif (decide (k < (out.length:Int)))then (
  chk (inR k (out.length:Int)) <|
  (out[(k).toNat]?).bind fun out_e=>
  ZrX rec_ s k t7 t8 t9 (Op.bytesLess out_e s) out
 )else (
  ZrX rec_ s k t7 t8 t9 false out
 )
def Zp4:Nat→Str→Int→(List Str)→Int→Int→(List Str)→Option (Str×Int×(List Str)×Int×Int×(List Str))
 |0,_,_,_,_,_,_=>none
 |n_+1,s,k,t7,t8,t9,out=>Zs9 (Zp4 n_) s k t7 t8 t9 out
def ZvH (n:Nat) (s:(Str×Int×(List Str)×Int×Int×(List Str))):Option (Str×Int×(List Str)×Int×Int×(List Str)):=Zp4 n s.1 s.2.1 s.2.2.1 s.2.2.2.1 s.2.2.2.2.1 s.2.2.2.2.2
def ZvI (rec_:(Str×Int×(List Str)×Int×Int×(List Str))→Option (Str×Int×(List Str)×Int×Int×(List Str))) (s:(Str×Int×(List Str)×Int×Int×(List Str))):Option (Str×Int×(List Str)×Int×Int×(List Str)):=Zs9 (fun s k t7 t8 t9 out=>rec_ (s,k,t7,t8,t9,out)) s.1 s.2.1 s.2.2.1 s.2.2.2.1 s.2.2.2.2.1 s.2.2.2.2.2
theorem ZxK:∀n s,ZvH (n+1) s=ZvI (ZvH n) s:=fun _ _=>rfl
def ZqR (rec_:(List Str)→Int→Int→(List Str)→Option (List Str)) (t7:(List Str)) (t8:Int) (t9:Int) (out:(List Str)):Option (List Str):=
 bif (decide (t9 < t8))then (
  (idx t7 t9).bind fun s=>
  (Zp4 big s (0:Int) t7 t8 t9 out).bind fun(x0,x1,x2,x3,x4,x5)=>Zt9 rec_ x0 x1 x2 x3 x4 x5
 )else (
  some out
 )
def Zor:Nat→(List Str)→Int→Int→(List Str)→Option (List Str)
 |0,_,_,_,_=>none
 |n_+1,t7,t8,t9,out=>ZqR (Zor n_) t7 t8 t9 out
def ZvJ (n:Nat) (s:((List Str)×Int×Int×(List Str))):Option (List Str):=Zor n s.1 s.2.1 s.2.2.1 s.2.2.2
def Zta (rec_:((List Str)×Int×Int×(List Str))→Option (List Str)) (s:((List Str)×Int×Int×(List Str))):Option (List Str):=ZqR (fun t7 t8 t9 out=>rec_ (t7,t8,t9,out)) s.1 s.2.1 s.2.2.1 s.2.2.2
theorem ZxL:∀n s,ZvJ (n+1) s=Zta (ZvJ n) s:=fun _ _=>rfl
def Zrq (l:(List Str)):Option (List Str):=
 (Zor big l (l.length:Int) (0:Int) ([]:(List Str))).bind fun x0=>Zt8 x0
def ZsL (l:(List Str)):Option (List Str):=
 (Zrq l).bind fun q=>
 some q
def Zqz (rec_:(List G_api_Cell)→Int→Int→(List Str)→Option (List Str)) (t7:(List G_api_Cell)) (t8:Int) (t9:Int) (l:(List Str)):Option (List Str):=
 chk (inK .i64 (t9+1)) <|
 rec_ t7 t8 (t9+1) l
def ZpS (rec_:(List G_api_Cell)→Int→Int→(List Str)→Option (List Str)) (t7:(List G_api_Cell)) (t8:Int) (t9:Int) (l:(List Str)):Option (List Str):=
 bif (decide (t9 < t8))then (
  (idx t7 t9).bind fun x_=>
  bif (!x_.Null)then (
   chk (ZiZ (l.length+([x_.Text]:(List Str)).length) 16) <|
   Zqz rec_ t7 t8 t9 (l++([x_.Text]:(List Str)))
  )else (
   Zqz rec_ t7 t8 t9 l
  )
 )else (
  some l
 )
def Zo5:Nat→(List G_api_Cell)→Int→Int→(List Str)→Option (List Str)
 |0,_,_,_,_=>none
 |n_+1,t7,t8,t9,l=>ZpS (Zo5 n_) t7 t8 t9 l
def ZuQ (n:Nat) (s:((List G_api_Cell)×Int×Int×(List Str))):Option (List Str):=Zo5 n s.1 s.2.1 s.2.2.1 s.2.2.2
def Zsd (rec_:((List G_api_Cell)×Int×Int×(List Str))→Option (List Str)) (s:((List G_api_Cell)×Int×Int×(List Str))):Option (List Str):=ZpS (fun t7 t8 t9 l=>rec_ (t7,t8,t9,l)) s.1 s.2.1 s.2.2.1 s.2.2.2
theorem Zw6:∀n s,ZuQ (n+1) s=Zsd (ZuQ n) s:=fun _ _=>rfl
def ZoU (c:G_api_Column):Option (List Str):=
 (Zo5 big c.Cells (c.Cells.length:Int) (0:Int) ([]:(List Str))).bind fun x0=>ZsL x0
def ZnS:Option ZnA:=
 (Zn8 0).bind fun q=>
 some q
def Zsu (a:(List Str)) (b:(List Str)) (n:Int) (t4:Bool) (t4_1:Bool) (t4_2:(List Int)) (t4_3:(List Int)):Option ZnA:=
 chk (inK .i64 ((a.length:Int)+(b.length:Int))) <|
 bif (((a.length:Int)+(b.length:Int)) == 0)then (
  (ZnS).bind fun q=>
  some q
 )else (
  chk (inK .i64 ((a.length:Int)+(b.length:Int))) <|
  chk (inK .i64 (((a.length:Int)+(b.length:Int)) - n)) <|
  (Zod n (((a.length:Int)+(b.length:Int)) - n)).bind fun q_1=>
  some q_1
 )
def Zsv (rec_:(List Str)→(List Str)→Int→(List Str)→Int→Int→Bool→Bool→(List Int)→(List Int)→Option ((List Str)×(List Str)×Int×Bool×Bool×(List Int)×(List Int))) (a:(List Str)) (b:(List Str)) (n:Int) (t10:(List Str)) (t11:Int) (t12:Int) (t4:Bool) (t4_1:Bool) (t4_2:(List Int)) (t4_3:(List Int)):Option ((List Str)×(List Str)×Int×Bool×Bool×(List Int)×(List Int)):=
 chk (inK .i64 (t12+1)) <|
 rec_ a b n t10 t11 (t12+1) t4 t4_1 t4_2 t4_3
def Zqe (rec_:(List Str)→(List Str)→Int→Str→(List Str)→Int→Int→(List Str)→Int→Int→Bool→Bool→(List Int)→(List Int)→Option ((List Str)×(List Str)×Int×(List Str)×Int×Int×Bool×Bool×(List Int)×(List Int))) (a:(List Str)) (b:(List Str)) (n:Int) (x_:Str) (t10:(List Str)) (t11:Int) (t12:Int) (t16:(List Str)) (t17:Int) (t18:Int) (t4:Bool) (t4_1:Bool) (t4_2:(List Int)) (t4_3:(List Int)):Option ((List Str)×(List Str)×Int×(List Str)×Int×Int×Bool×Bool×(List Int)×(List Int)):=
 chk (inK .i64 (t18+1)) <|
 rec_ a b n x_ t10 t11 t12 t16 t17 (t18+1) t4 t4_1 t4_2 t4_3
def ZpB (rec_:(List Str)→(List Str)→Int→Str→(List Str)→Int→Int→(List Str)→Int→Int→Bool→Bool→(List Int)→(List Int)→Option ((List Str)×(List Str)×Int×(List Str)×Int×Int×Bool×Bool×(List Int)×(List Int))) (a:(List Str)) (b:(List Str)) (n:Int) (x_:Str) (t10:(List Str)) (t11:Int) (t12:Int) (t16:(List Str)) (t17:Int) (t18:Int) (t4:Bool) (t4_1:Bool) (t4_2:(List Int)) (t4_3:(List Int)):Option ((List Str)×(List Str)×Int×(List Str)×Int×Int×Bool×Bool×(List Int)×(List Int)):=
 bif (decide (t18 < t17))then (
  (idx t16 t18).bind fun y=>
  bif (x_ == y)then (
   chk (inK .i64 (n+1)) <|
   Zqe rec_ a b (n+1) x_ t10 t11 t12 t16 t17 t18 t4 t4_1 t4_2 t4_3
  )else (
   Zqe rec_ a b n x_ t10 t11 t12 t16 t17 t18 t4 t4_1 t4_2 t4_3
  )
 )else (
  some (a,b,n,t10,t11,t12,t4,t4_1,t4_2,t4_3)
 )
def ZoP:Nat→(List Str)→(List Str)→Int→Str→(List Str)→Int→Int→(List Str)→Int→Int→Bool→Bool→(List Int)→(List Int)→Option ((List Str)×(List Str)×Int×(List Str)×Int×Int×Bool×Bool×(List Int)×(List Int))
 |0,_,_,_,_,_,_,_,_,_,_,_,_,_,_=>none
 |n_+1,a,b,n,x_,t10,t11,t12,t16,t17,t18,t4,t4_1,t4_2,t4_3=>ZpB (ZoP n_) a b n x_ t10 t11 t12 t16 t17 t18 t4 t4_1 t4_2 t4_3
def ZuA (n:Nat) (s:((List Str)×(List Str)×Int×Str×(List Str)×Int×Int×(List Str)×Int×Int×Bool×Bool×(List Int)×(List Int))):Option ((List Str)×(List Str)×Int×(List Str)×Int×Int×Bool×Bool×(List Int)×(List Int)):=ZoP n s.1 s.2.1 s.2.2.1 s.2.2.2.1 s.2.2.2.2.1 s.2.2.2.2.2.1 s.2.2.2.2.2.2.1 s.2.2.2.2.2.2.2.1 s.2.2.2.2.2.2.2.2.1 s.2.2.2.2.2.2.2.2.2.1 s.2.2.2.2.2.2.2.2.2.2.1 s.2.2.2.2.2.2.2.2.2.2.2.1 s.2.2.2.2.2.2.2.2.2.2.2.2.1 s.2.2.2.2.2.2.2.2.2.2.2.2.2
def ZrB (rec_:((List Str)×(List Str)×Int×Str×(List Str)×Int×Int×(List Str)×Int×Int×Bool×Bool×(List Int)×(List Int))→Option ((List Str)×(List Str)×Int×(List Str)×Int×Int×Bool×Bool×(List Int)×(List Int))) (s:((List Str)×(List Str)×Int×Str×(List Str)×Int×Int×(List Str)×Int×Int×Bool×Bool×(List Int)×(List Int))):Option ((List Str)×(List Str)×Int×(List Str)×Int×Int×Bool×Bool×(List Int)×(List Int)):=ZpB (fun a b n x_ t10 t11 t12 t16 t17 t18 t4 t4_1 t4_2 t4_3=>rec_ (a,b,n,x_,t10,t11,t12,t16,t17,t18,t4,t4_1,t4_2,t4_3)) s.1 s.2.1 s.2.2.1 s.2.2.2.1 s.2.2.2.2.1 s.2.2.2.2.2.1 s.2.2.2.2.2.2.1 s.2.2.2.2.2.2.2.1 s.2.2.2.2.2.2.2.2.1 s.2.2.2.2.2.2.2.2.2.1 s.2.2.2.2.2.2.2.2.2.2.1 s.2.2.2.2.2.2.2.2.2.2.2.1 s.2.2.2.2.2.2.2.2.2.2.2.2.1 s.2.2.2.2.2.2.2.2.2.2.2.2.2
theorem ZwX:∀n s,ZuA (n+1) s=ZrB (ZuA n) s:=fun _ _=>rfl
def ZpC (rec_:(List Str)→(List Str)→Int→(List Str)→Int→Int→Bool→Bool→(List Int)→(List Int)→Option ((List Str)×(List Str)×Int×Bool×Bool×(List Int)×(List Int))) (a:(List Str)) (b:(List Str)) (n:Int) (t10:(List Str)) (t11:Int) (t12:Int) (t4:Bool) (t4_1:Bool) (t4_2:(List Int)) (t4_3:(List Int)):Option ((List Str)×(List Str)×Int×Bool×Bool×(List Int)×(List Int)):=
 bif (decide (t12 < t11))then (
  (idx t10 t12).bind fun x_=>
  (ZoP big a b n x_ t10 t11 t12 b (b.length:Int) (0:Int) t4 t4_1 t4_2 t4_3).bind fun(x0,x1,x2,x3,x4,x5,x6,x7,x8,x9)=>Zsv rec_ x0 x1 x2 x3 x4 x5 x6 x7 x8 x9
 )else (
  some (a,b,n,t4,t4_1,t4_2,t4_3)
 )
def ZoQ:Nat→(List Str)→(List Str)→Int→(List Str)→Int→Int→Bool→Bool→(List Int)→(List Int)→Option ((List Str)×(List Str)×Int×Bool×Bool×(List Int)×(List Int))
 |0,_,_,_,_,_,_,_,_,_,_=>none
 |n_+1,a,b,n,t10,t11,t12,t4,t4_1,t4_2,t4_3=>ZpC (ZoQ n_) a b n t10 t11 t12 t4 t4_1 t4_2 t4_3
def ZuB (n:Nat) (s:((List Str)×(List Str)×Int×(List Str)×Int×Int×Bool×Bool×(List Int)×(List Int))):Option ((List Str)×(List Str)×Int×Bool×Bool×(List Int)×(List Int)):=ZoQ n s.1 s.2.1 s.2.2.1 s.2.2.2.1 s.2.2.2.2.1 s.2.2.2.2.2.1 s.2.2.2.2.2.2.1 s.2.2.2.2.2.2.2.1 s.2.2.2.2.2.2.2.2.1 s.2.2.2.2.2.2.2.2.2
def ZrC (rec_:((List Str)×(List Str)×Int×(List Str)×Int×Int×Bool×Bool×(List Int)×(List Int))→Option ((List Str)×(List Str)×Int×Bool×Bool×(List Int)×(List Int))) (s:((List Str)×(List Str)×Int×(List Str)×Int×Int×Bool×Bool×(List Int)×(List Int))):Option ((List Str)×(List Str)×Int×Bool×Bool×(List Int)×(List Int)):=ZpC (fun a b n t10 t11 t12 t4 t4_1 t4_2 t4_3=>rec_ (a,b,n,t10,t11,t12,t4,t4_1,t4_2,t4_3)) s.1 s.2.1 s.2.2.1 s.2.2.2.1 s.2.2.2.2.1 s.2.2.2.2.2.1 s.2.2.2.2.2.2.1 s.2.2.2.2.2.2.2.1 s.2.2.2.2.2.2.2.2.1 s.2.2.2.2.2.2.2.2.2
theorem ZwY:∀n s,ZuB (n+1) s=ZrC (ZuB n) s:=fun _ _=>rfl
def ZoM (a:(List Str)) (b:(List Str)):Option ZnA:=
 (ZoQ big a b (0:Int) a (a.length:Int) (0:Int) false false ([]:(List Int)) ([]:(List Int))).bind fun(x0,x1,x2,x3,x4,x5,x6)=>Zsu x0 x1 x2 x3 x4 x5 x6
def ZoT (a:G_api_Column) (b:G_api_Column):Option ZnA:=
 (ZoU a).bind fun q=>
 (ZoU b).bind fun q_1=>
 (ZoM q q_1).bind fun q_2=>
 some q_2
def ZtG (s:Str):Option Str:=
 some s
def Zrg (rec_:Str→Option Str) (s:Str) (t23:Bool):Option Str:=
 bif t23 then (
  chk (inK .i64 ((s.length:Int) - 1)) <|
  chk (Zb9 0 ((s.length:Int) - 1) (s.length:Int)) <|
  rec_ (s.take (((s.length:Int) - 1)).toNat)
 )else (
  some s
 )
def ZsS (rec_:Str→Option Str) (s:Str):Option Str:=
 bif (decide ((s.length:Int) > 0))then (
  chk (inK .i64 ((s.length:Int) - 1)) <|
  (idx s ((s.length:Int) - 1)).bind fun c=>
  Zrg rec_ s (((c.toNat:Nat):Int) == 32)
 )else (
  Zrg rec_ s false
 )
def ZpK:Nat→Str→Option Str
 |0,_=>none
 |n_+1,s=>ZsS (ZpK n_) s
def Zvt (n:Nat) (s:Str):Option Str:=ZpK n s
def Zvu (rec_:Str→Option Str) (s:Str):Option Str:=ZsS (fun s=>rec_ s) s
theorem Zxx:∀n s,Zvt (n+1) s=Zvu (Zvt n) s:=fun _ _=>rfl
def ZtH (s:Str):Option Str:=
 (ZpK big s).bind fun x0=>ZtG x0
def Zrh (rec_:Str→Option Str) (s:Str) (t10:Bool):Option Str:=
 bif t10 then (
  chk (Zb9 1 (s.length:Int) (s.length:Int)) <|
  rec_ (s.drop ((1:Int)).toNat)
 )else (
  some s
 )
def ZsT (rec_:Str→Option Str) (s:Str):Option Str:=
 bif (decide ((s.length:Int) > 0))then (
  (idx s 0).bind fun c=>
  Zrh rec_ s (((c.toNat:Nat):Int) == 32)
 )else (
  Zrh rec_ s false
 )
def ZpL:Nat→Str→Option Str
 |0,_=>none
 |n_+1,s=>ZsT (ZpL n_) s
def Zvv (n:Nat) (s:Str):Option Str:=ZpL n s
def Zvw (rec_:Str→Option Str) (s:Str):Option Str:=ZsT (fun s=>rec_ s) s
theorem Zxy:∀n s,Zvv (n+1) s=Zvw (Zvv n) s:=fun _ _=>rfl
def ZqQ (s:Str):Option Str:=
 (ZpL big s).bind fun x0=>ZtH x0
def Zwh (b:(List Int)):Option Str:=
 some (b.map fun n=>UInt8.ofNat (Int.toNat n))
def ZtI (rec_:Int→Int→(List Int)→Option (List Int)) (t8:Int) (i:Int) (b:(List Int)):Option (List Int):=
 chk (inK .i64 (i+1)) <|
 rec_ t8 (i+1) b
def ZtJ (rec_:Int→Int→(List Int)→Option (List Int)) (i:Int) (t8:Int) (i_1:Int) (t23:Bool) (b:(List Int)):Option (List Int):=
 bif t23 then (
  chk (inR i (b.length:Int)) <|
  (b[(i).toNat]?).bind fun b_e=>
  chk (inR i (b.length:Int)) <|
  ZtI rec_ t8 i_1 (b.set ((i).toNat) (IntKind.wrap .u8 (b_e+32)))
 )else (
  ZtI rec_ t8 i_1 b
 )
def ZxM (rec_:Int→Int→(List Int)→Option (List Int)) (t8:Int) (i:Int) (b:(List Int)):Option (List Int):=
 bif (decide (i < t8))then (
  chk (inR i (b.length:Int)) <|
  (b[(i).toNat]?).bind fun b_e=>
  bif (decide (b_e≥65))then (
   chk (inR i (b.length:Int)) <|
   (b[(i).toNat]?).bind fun b_e_1=>
   ZtJ rec_ i t8 i (decide (b_e_1≤90)) b
  )else (
   ZtJ rec_ i t8 i false b
  )
 )else (
  some b
 )
def ZpM:Nat→Int→Int→(List Int)→Option (List Int)
 |0,_,_,_=>none
 |n_+1,t8,i,b=>ZxM (ZpM n_) t8 i b
def ZuW (s:Str):Option Str:=
 chk (decide (s.length≤281474976710656)) <|
 (ZpM big ((s.map fun b=>((b.toNat:Nat):Int)).length:Int) (0:Int) (s.map fun b=>((b.toNat:Nat):Int))).bind fun x0=>Zwh x0
def ZvQ (neg:Bool) (digits:Str) (places:Str):Option (Bool×Str×Str×Bool):=
 some (neg,digits,places,true)
def ZqZ (rec_:Bool→Str→Str→Int→Option (Out (Bool×Str×Str) (Bool×Str×Str×Bool))) (neg:Bool) (digits:Str) (places:Str) (i:Int) (t92:Bool):Option (Out (Bool×Str×Str) (Bool×Str×Str×Bool)):=
 bif t92 then (
  some (.ret (false,([]:Str),([]:Str),false))
 )else (
  chk (inK .i64 (i+1)) <|
  rec_ neg digits places (i+1)
 )
def Zqi (rec_:Bool→Str→Str→Int→Option (Out (Bool×Str×Str) (Bool×Str×Str×Bool))) (neg:Bool) (digits:Str) (places:Str) (i:Int):Option (Out (Bool×Str×Str) (Bool×Str×Str×Bool)):=
 bif (decide (i < (places.length:Int)))then (
  (idx places i).bind fun c=>
  bif (decide (((c.toNat:Nat):Int) < 48))then (
   ZqZ rec_ neg digits places i true
  )else (
   (idx places i).bind fun c_1=>
   ZqZ rec_ neg digits places i (decide (((c_1.toNat:Nat):Int) > 57))
  )
 )else (
  some (.brk (neg,digits,places))
 )
def ZoG:Nat→Bool→Str→Str→Int→Option (Out (Bool×Str×Str) (Bool×Str×Str×Bool))
 |0,_,_,_,_=>none
 |n_+1,neg,digits,places,i=>Zqi (ZoG n_) neg digits places i
def Zvc (n:Nat) (s:(Bool×Str×Str×Int)):Option (Out (Bool×Str×Str) (Bool×Str×Str×Bool)):=ZoG n s.1 s.2.1 s.2.2.1 s.2.2.2
def Zsy (rec_:(Bool×Str×Str×Int)→Option (Out (Bool×Str×Str) (Bool×Str×Str×Bool))) (s:(Bool×Str×Str×Int)):Option (Out (Bool×Str×Str) (Bool×Str×Str×Bool)):=Zqi (fun neg digits places i=>rec_ (neg,digits,places,i)) s.1 s.2.1 s.2.2.1 s.2.2.2
theorem Zxm:∀n s,Zvc (n+1) s=Zsy (Zvc n) s:=fun _ _=>rfl
def Zn0 (neg:Bool) (digits:Str) (places:Str) (t76:Bool):Option (Bool×Str×Str×Bool):=
 bif t76 then (
  some (false,([]:Str),([]:Str),false)
 )else (
  (ZoG big neg digits places (0:Int)).bind fun
   | .ret q_=>some q_
   | .brk (x0,x1,x2)=>ZvQ x0 x1 x2
 )
def Zq0 (s:Str) (neg:Bool) (digits:Str) (k:Int) (t52:Bool):Option (Bool×Str×Str×Bool):=
 bif t52 then (
  some (false,([]:Str),([]:Str),false)
 )else (
  bif (k == (s.length:Int))then (
   some (neg,digits,([]:Str),true)
  )else (
   chk (inK .i64 (k+1)) <|
   chk (Zb9 (k+1) (s.length:Int) (s.length:Int)) <|
   (idx s k).bind fun c=>
   bif (((c.toNat:Nat):Int) != 46)then (
    Zn0 neg digits (s.drop ((k+1)).toNat) true
   )else (
    bif (decide (((s.drop ((k+1)).toNat).length:Int) < 1))then (
     Zn0 neg digits (s.drop ((k+1)).toNat) true
    )else (
     Zn0 neg digits (s.drop ((k+1)).toNat) (decide (((s.drop ((k+1)).toNat).length:Int) > 9))
    )
   )
  )
 )
def Ztk (s:Str) (neg:Bool) (k:Int):Option (Bool×Str×Str×Bool):=
 chk (Zb9 0 k (s.length:Int)) <|
 bif (decide (k < 1))then (
  Zq0 s neg (s.take (k).toNat) k true
 )else (
  Zq0 s neg (s.take (k).toNat) k (decide (k > 15))
 )
def Zpw (rec_:Str→Bool→Int→Option (Str×Bool×Int)) (s:Str) (neg:Bool) (k:Int) (t41:Bool):Option (Str×Bool×Int):=
 bif t41 then (
  chk (inK .i64 (k+1)) <|
  rec_ s neg (k+1)
 )else (
  some (s,neg,k)
 )
def Zsz (rec_:Str→Bool→Int→Option (Str×Bool×Int)) (s:Str) (neg:Bool) (k:Int):Option (Str×Bool×Int):=
 bif (decide (k < (s.length:Int)))then (
  (idx s k).bind fun c=>
  bif (decide (((c.toNat:Nat):Int)≥48))then (
   (idx s k).bind fun c_1=>
   Zpw rec_ s neg k (decide (((c_1.toNat:Nat):Int)≤57))
  )else (
   Zpw rec_ s neg k false
  )
 )else (
  Zpw rec_ s neg k false
 )
def Zpv:Nat→Str→Bool→Int→Option (Str×Bool×Int)
 |0,_,_,_=>none
 |n_+1,s,neg,k=>Zsz (Zpv n_) s neg k
def Zvd (n:Nat) (s:(Str×Bool×Int)):Option (Str×Bool×Int):=Zpv n s.1 s.2.1 s.2.2
def Zve (rec_:(Str×Bool×Int)→Option (Str×Bool×Int)) (s:(Str×Bool×Int)):Option (Str×Bool×Int):=Zsz (fun s neg k=>rec_ (s,neg,k)) s.1 s.2.1 s.2.2
theorem Zxn:∀n s,Zvd (n+1) s=Zve (Zvd n) s:=fun _ _=>rfl
def Zn4 (s:Str) (neg:Bool):Option (Bool×Str×Str×Bool):=
 (Zpv big s neg (0:Int)).bind fun(x0,x1,x2)=>Ztk x0 x1 x2
def Zpx (s:Str) (neg:Bool) (t20:Bool):Option (Bool×Str×Str×Bool):=
 bif t20 then (
  (idx s 0).bind fun c=>
  chk (Zb9 1 (s.length:Int) (s.length:Int)) <|
  Zn4 (s.drop ((1:Int)).toNat) (((c.toNat:Nat):Int) == 45)
 )else (
  Zn4 s neg
 )
def Zpk (s:Str):Option (Bool×Str×Str×Bool):=
 bif (decide ((s.length:Int) > 0))then (
  (idx s 0).bind fun c=>
  bif (((c.toNat:Nat):Int) == 43)then (
   Zpx s false true
  )else (
   (idx s 0).bind fun c_1=>
   Zpx s false (((c_1.toNat:Nat):Int) == 45)
  )
 )else (
  Zpx s false false
 )
def ZqA (digits:Str):Option Str:=
 some digits
def ZqB (digits:Str) (t43:Bool):Option Str:=
 bif t43 then (
  chk (decide (([45]:Str).length+digits.length≤Zq)) <|
  ZqA (([45]:Str)++digits)
 )else (
  ZqA digits
 )
def ZqC (neg:Bool) (digits:Str):Option Str:=
 bif neg then (
  ZqB digits (!(digits == ([48]:Str)))
 )else (
  ZqB digits false
 )
def ZsN (neg:Bool) (digits:Str) (places:Str):Option Str:=
 bif (!(places == ([]:Str)))then (
  chk (decide (([46]:Str).length+places.length≤Zq)) <|
  chk (decide (digits.length+(([46]:Str)++places).length≤Zq)) <|
  ZqC neg (digits++(([46]:Str)++places))
 )else (
  ZqC neg digits
 )
def ZqD (rec_:Bool→Str→Str→Option (Bool×Str×Str)) (neg:Bool) (digits:Str) (places:Str) (t27:Bool):Option (Bool×Str×Str):=
 bif t27 then (
  chk (inK .i64 ((places.length:Int) - 1)) <|
  chk (Zb9 0 ((places.length:Int) - 1) (places.length:Int)) <|
  rec_ neg digits (places.take (((places.length:Int) - 1)).toNat)
 )else (
  some (neg,digits,places)
 )
def Zse (rec_:Bool→Str→Str→Option (Bool×Str×Str)) (neg:Bool) (digits:Str) (places:Str):Option (Bool×Str×Str):=
 bif (decide ((places.length:Int) > 0))then (
  chk (inK .i64 ((places.length:Int) - 1)) <|
  (idx places ((places.length:Int) - 1)).bind fun c=>
  ZqD rec_ neg digits places (((c.toNat:Nat):Int) == 48)
 )else (
  ZqD rec_ neg digits places false
 )
def Zo6:Nat→Bool→Str→Str→Option (Bool×Str×Str)
 |0,_,_,_=>none
 |n_+1,neg,digits,places=>Zse (Zo6 n_) neg digits places
def ZuR (n:Nat) (s:(Bool×Str×Str)):Option (Bool×Str×Str):=Zo6 n s.1 s.2.1 s.2.2
def ZuS (rec_:(Bool×Str×Str)→Option (Bool×Str×Str)) (s:(Bool×Str×Str)):Option (Bool×Str×Str):=Zse (fun neg digits places=>rec_ (neg,digits,places)) s.1 s.2.1 s.2.2
theorem Zw7:∀n s,ZuR (n+1) s=ZuS (ZuR n) s:=fun _ _=>rfl
def ZsO (neg:Bool) (digits:Str) (places:Str):Option Str:=
 (Zo6 big neg digits places).bind fun(x0,x1,x2)=>ZsN x0 x1 x2
def ZqE (rec_:Bool→Str→Str→Option (Bool×Str×Str)) (neg:Bool) (digits:Str) (places:Str) (t14:Bool):Option (Bool×Str×Str):=
 bif t14 then (
  chk (Zb9 1 (digits.length:Int) (digits.length:Int)) <|
  rec_ neg (digits.drop ((1:Int)).toNat) places
 )else (
  some (neg,digits,places)
 )
def Zsf (rec_:Bool→Str→Str→Option (Bool×Str×Str)) (neg:Bool) (digits:Str) (places:Str):Option (Bool×Str×Str):=
 bif (decide ((digits.length:Int) > 1))then (
  (idx digits 0).bind fun c=>
  ZqE rec_ neg digits places (((c.toNat:Nat):Int) == 48)
 )else (
  ZqE rec_ neg digits places false
 )
def Zo7:Nat→Bool→Str→Str→Option (Bool×Str×Str)
 |0,_,_,_=>none
 |n_+1,neg,digits,places=>Zsf (Zo7 n_) neg digits places
def ZuT (n:Nat) (s:(Bool×Str×Str)):Option (Bool×Str×Str):=Zo7 n s.1 s.2.1 s.2.2
def ZuU (rec_:(Bool×Str×Str)→Option (Bool×Str×Str)) (s:(Bool×Str×Str)):Option (Bool×Str×Str):=Zsf (fun neg digits places=>rec_ (neg,digits,places)) s.1 s.2.1 s.2.2
theorem Zw8:∀n s,ZuT (n+1) s=ZuU (ZuT n) s:=fun _ _=>rfl
def Zp3 (neg:Bool) (digits:Str) (places:Str):Option Str:=
 (Zo7 big neg digits places).bind fun(x0,x1,x2)=>ZsO x0 x1 x2
def Zwu (n:Int):Option Int:=
 some n
def Zt5 (rec_:Str→Int→Int→Option (Out Int Int)) (s:Str) (n:Int) (i:Int) (t20:Bool):Option (Out Int Int):=
 bif t20 then (
  some (.ret (-1:Int))
 )else (
  chk (inK .i64 (10*n)) <|
  (idx s i).bind fun c=>
  chk (inK .i64 ((10*n)+(IntKind.wrap .i64 (IntKind.wrap .u8 (((c.toNat:Nat):Int) - 48))))) <|
  chk (inK .i64 (i+1)) <|
  rec_ s ((10*n)+(IntKind.wrap .i64 (IntKind.wrap .u8 (((c.toNat:Nat):Int) - 48)))) (i+1)
 )
def Zx2 (rec_:Str→Int→Int→Option (Out Int Int)) (s:Str) (n:Int) (i:Int):Option (Out Int Int):=
 bif (decide (i < (s.length:Int)))then (
  (idx s i).bind fun c=>
  bif (decide (((c.toNat:Nat):Int) < 48))then (
   Zt5 rec_ s n i true
  )else (
   (idx s i).bind fun c_1=>
   Zt5 rec_ s n i (decide (((c_1.toNat:Nat):Int) > 57))
  )
 )else (
  some (.brk n)
 )
def ZrS:Nat→Str→Int→Int→Option (Out Int Int)
 |0,_,_,_=>none
 |n_+1,s,n,i=>Zx2 (ZrS n_) s n i
def Zox (s:Str):Option Int:=
 (ZrS big s (0:Int) (0:Int)).bind fun
  | .ret q_=>some q_
  | .brk x0=>Zwu x0
def Zre (t2:Bool):Option Bool:=
 some t2
def ZsQ (y:Int):Option Bool:=
 chk (decide ((4:Int)≠0)) <|
 bif ((Int.tmod y 4) == 0)then (
  chk (decide ((100:Int)≠0)) <|
  bif ((Int.tmod y 100) != 0)then (
   Zre true
  )else (
   chk (decide ((400:Int)≠0)) <|
   Zre ((Int.tmod y 400) == 0)
  )
 )else (
  Zre false
 )
def Zo8 (t15:Bool):Option Int:=
 bif t15 then (
  some (30:Int)
 )else (
  some (31:Int)
 )
def ZsP (m:Int) (t5:Bool):Option Int:=
 bif t5 then (
  some (29:Int)
 )else (
  bif (m == 2)then (
   some (28:Int)
  )else (
   bif (m == 4)then (
    Zo8 true
   )else (
    bif (m == 6)then (
     Zo8 true
    )else (
     bif (m == 9)then (
      Zo8 true
     )else (
      Zo8 (m == 11)
     )
    )
   )
  )
 )
def ZrT (y:Int) (m:Int):Option Int:=
 bif (m == 2)then (
  (ZsQ y).bind fun q=>
  ZsP m q
 )else (
  ZsP m false
 )
def Zwv (day:Int) (n:Int):Option (Int×Bool):=
 chk (inK .i64 (n+day)) <|
 chk (inK .i64 ((n+day) - 1)) <|
 chk (inK .i64 (((n+day) - 1) - 719162)) <|
 some ((((n+day) - 1) - 719162),true)
def Zx3 (rec_:Int→Int→Int→Int→Int→Option (Int×Int)) (year:Int) (month:Int) (day:Int) (n:Int) (m:Int):Option (Int×Int):=
 bif (decide (m < month))then (
  (ZrT year m).bind fun q=>
  chk (inK .i64 (n+q)) <|
  chk (inK .i64 (m+1)) <|
  rec_ year month day (n+q) (m+1)
 )else (
  some (day,n)
 )
def Zt6:Nat→Int→Int→Int→Int→Int→Option (Int×Int)
 |0,_,_,_,_,_=>none
 |n_+1,year,month,day,n,m=>Zx3 (Zt6 n_) year month day n m
def Zww (year:Int) (month:Int) (day:Int) (n:Int):Option (Int×Bool):=
 (Zt6 big year month day n (1:Int)).bind fun(x0,x1)=>Zwv x0 x1
def Zt7 (rec_:Int→Int→Int→Int→Int→Option (Int×Int×Int×Int)) (year:Int) (month:Int) (day:Int) (n:Int) (y:Int):Option (Int×Int×Int×Int):=
 chk (inK .i64 (y+1)) <|
 rec_ year month day n (y+1)
def Zx4 (rec_:Int→Int→Int→Int→Int→Option (Int×Int×Int×Int)) (year:Int) (month:Int) (day:Int) (n:Int) (y:Int):Option (Int×Int×Int×Int):=
 bif (decide (y < year))then (
  chk (inK .i64 (n+365)) <|
  (ZsQ y).bind fun q=>
  bif q then (
   chk (inK .i64 ((n+365)+1)) <|
   Zt7 rec_ year month day ((n+365)+1) y
  )else (
   Zt7 rec_ year month day (n+365) y
  )
 )else (
  some (year,month,day,n)
 )
def ZrU:Nat→Int→Int→Int→Int→Int→Option (Int×Int×Int×Int)
 |0,_,_,_,_,_=>none
 |n_+1,year,month,day,n,y=>Zx4 (ZrU n_) year month day n y
def Zoq (year:Int) (month:Int) (day:Int) (t35:Bool):Option (Int×Bool):=
 bif t35 then (
  some (0,false)
 )else (
  (ZrU big year month day (0:Int) (1:Int)).bind fun(x0,x1,x2,x3)=>Zww x0 x1 x2 x3
 )
def Ztw (year:Int) (month:Int) (day:Int):Option (Int×Bool):=
 bif (decide (year < 1))then (
  Zoq year month day true
 )else (
  bif (decide (year > 9999))then (
   Zoq year month day true
  )else (
   bif (decide (month < 1))then (
    Zoq year month day true
   )else (
    bif (decide (month > 12))then (
     Zoq year month day true
    )else (
     bif (decide (day < 1))then (
      Zoq year month day true
     )else (
      (ZrT year month).bind fun q=>
      Zoq year month day (decide (day > q))
     )
    )
   )
  )
 )
def ZtD (year:Int) (month:Int) (day:Int):Option (Int×Int×Int×Bool):=
 (Ztw year month day).bind fun(q,ok)=>
 some (year,month,day,ok)
def ZtE (s:Str) (t35:Bool):Option (Int×Int×Int×Bool):=
 bif t35 then (
  chk (Zb9 6 (s.length:Int) (s.length:Int)) <|
  (Zox (s.drop ((6:Int)).toNat)).bind fun year=>
  chk (Zb9 3 5 (s.length:Int)) <|
  (Zox ((s.take ((5:Int)).toNat).drop ((3:Int)).toNat)).bind fun month=>
  chk (Zb9 0 2 (s.length:Int)) <|
  (Zox (s.take ((2:Int)).toNat)).bind fun day=>
  ZtD year month day
 )else (
  some (0,0,0,false)
 )
def Zrf (s:Str) (t9:Bool):Option (Int×Int×Int×Bool):=
 bif t9 then (
  chk (Zb9 0 4 (s.length:Int)) <|
  (Zox (s.take ((4:Int)).toNat)).bind fun year=>
  chk (Zb9 5 7 (s.length:Int)) <|
  (Zox ((s.take ((7:Int)).toNat).drop ((5:Int)).toNat)).bind fun month=>
  chk (Zb9 8 (s.length:Int) (s.length:Int)) <|
  (Zox (s.drop ((8:Int)).toNat)).bind fun day=>
  ZtD year month day
 )else (
  (idx s 2).bind fun c=>
  bif (((c.toNat:Nat):Int) == 46)then (
   (idx s 5).bind fun c_1=>
   ZtE s (((c_1.toNat:Nat):Int) == 46)
  )else (
   ZtE s false
  )
 )
def ZtF (s:Str) (t9:Bool):Option (Int×Int×Int×Bool):=
 bif t9 then (
  Zrf s t9
 )else (
  (idx s 4).bind fun c=>
  bif (((c.toNat:Nat):Int) == 47)then (
   (idx s 7).bind fun c_1=>
   Zrf s (((c_1.toNat:Nat):Int) == 47)
  )else (
   Zrf s false
  )
 )
def ZsR (s:Str):Option (Int×Int×Int×Bool):=
 bif ((s.length:Int) != 10)then (
  some (0,0,0,false)
 )else (
  (idx s 4).bind fun c=>
  bif (((c.toNat:Nat):Int) == 45)then (
   (idx s 7).bind fun c_1=>
   ZtF s (((c_1.toNat:Nat):Int) == 45)
  )else (
   ZtF s false
  )
 )
def Zvs (s:Str):Option Str:=
 some s
def Zxk (rec_:Int→Int→Str→Option Str) (n:Int) (width:Int) (s:Str):Option Str:=
 bif (decide (width > 0))then (
  chk (decide ((10:Int)≠0)) <|
  chk (decide ((([(IntKind.wrap .u8 (48+(IntKind.wrap .u8 (Int.tmod n 10))))]:(List Int)).map fun n=>UInt8.ofNat (Int.toNat n)).length+s.length≤Zq)) <|
  chk (decide ((10:Int)≠0)) <|
  chk (inK .i64 (Int.tdiv n 10)) <|
  chk (inK .i64 (width - 1)) <|
  rec_ (Int.tdiv n 10) (width - 1) ((([(IntKind.wrap .u8 (48+(IntKind.wrap .u8 (Int.tmod n 10))))]:(List Int)).map fun n=>UInt8.ofNat (Int.toNat n))++s)
 )else (
  some s
 )
def ZsM:Nat→Int→Int→Str→Option Str
 |0,_,_,_=>none
 |n_+1,n,width,s=>Zxk (ZsM n_) n width s
def Zp2 (n:Int) (width:Int):Option Str:=
 (ZsM big n width ([]:Str)).bind fun x0=>Zvs x0
def ZoD:Option (Str×Bool):=
 some (([]:Str),false)
def ZoE (neg:Bool) (digits:Str) (places:Str) (t49:Bool):Option (Str×Bool):=
 bif t49 then (
  (Zp3 neg digits places).bind fun q=>
  some (q,true)
 )else (
  ZoD
 )
def ZpE (kind:Int) (t:Str) (t17:Int) (t31:Bool):Option (Str×Bool):=
 bif t31 then (
  (Zpk t).bind fun(neg,digits,places,ok)=>
  bif ok then (
   bif (kind == 4)then (
    ZoE neg digits places true
   )else (
    ZoE neg digits places (places == ([]:Str))
   )
  )else (
   ZoE neg digits places false
  )
 )else (
  bif (t17 == 5)then (
   (ZsR t).bind fun(y,m,d,ok_1)=>
   bif ok_1 then (
    (Zp2 y 4).bind fun q=>
    chk (decide (q.length+([45]:Str).length≤Zq)) <|
    (Zp2 m 2).bind fun q_1=>
    chk (decide ((q++([45]:Str)).length+q_1.length≤Zq)) <|
    chk (decide (((q++([45]:Str))++q_1).length+([45]:Str).length≤Zq)) <|
    (Zp2 d 2).bind fun q_2=>
    chk (decide ((((q++([45]:Str))++q_1)++([45]:Str)).length+q_2.length≤Zq)) <|
    some (((((q++([45]:Str))++q_1)++([45]:Str))++q_2),true)
   )else (
    ZoD
   )
  )else (
   ZoD
  )
 )
def ZrE (t28:Bool):Option (Str×Bool):=
 bif t28 then (
  some (([102,97,108,115,101]:Str),true)
 )else (
  ZoD
 )
def ZrF (t24:Str) (t25:Bool):Option (Str×Bool):=
 bif t25 then (
  some (([116,114,117,101]:Str),true)
 )else (
  bif (t24 == ([102,97,108,115,101]:Str))then (
   ZrE (t24 == ([102,97,108,115,101]:Str))
  )else (
   ZrE (t24 == ([110,111]:Str))
  )
 )
def Zo9 (kind:Int) (s:Str):Option (Str×Bool):=
 (ZqQ s).bind fun t=>
 bif (kind == 1)then (
  some (s,true)
 )else (
  bif (kind == 2)then (
   (ZuW t).bind fun q=>
   bif (q == ([116,114,117,101]:Str))then (
    ZrF q (q == ([116,114,117,101]:Str))
   )else (
    ZrF q (q == ([121,101,115]:Str))
   )
  )else (
   bif (kind == 3)then (
    ZpE kind t kind (kind == 3)
   )else (
    ZpE kind t kind (kind == 4)
   )
  )
 )
def Zub (out:(List Int)):Option (List Int):=
 (ZnZ out).bind fun q=>
 some q
def Zuc (rec_:(List Int)→(List Int)→Int→(List Int)→Option (List Int)) (a:(List Int)) (b:(List Int)) (i:Int) (c:Int) (out:(List Int)):Option (List Int):=
 chk (inK .i64 (i+(b.length:Int))) <|
 chk (inR (i+(b.length:Int)) (out.length:Int)) <|
 chk (inK .i64 (i+1)) <|
 rec_ a b (i+1) (out.set (((i+(b.length:Int))).toNat) (IntKind.wrap .u32 c))
def ZqU (rec_:(List Int)→(List Int)→Int→Int→Int→(List Int)→Option ((List Int)×(List Int)×Int×Int×(List Int))) (a:(List Int)) (b:(List Int)) (i:Int) (c:Int) (j:Int) (out:(List Int)):Option ((List Int)×(List Int)×Int×Int×(List Int)):=
 bif (decide (j < (b.length:Int)))then (
  (idx a i).bind fun a_e=>
  (idx b j).bind fun b_e=>
  chk (inK .i64 (i+j)) <|
  chk (inR (i+j) (out.length:Int)) <|
  (out[((i+j)).toNat]?).bind fun out_e=>
  chk (inK .i64 (i+j)) <|
  chk (inR (i+j) (out.length:Int)) <|
  chk (decide (0≤(32:Int))) <|
  chk (inK .i64 (j+1)) <|
  rec_ a b i (shrK .u64 (IntKind.wrap .u64 (c+(IntKind.wrap .u64 ((IntKind.wrap .u64 ((IntKind.wrap .u64 a_e)*(IntKind.wrap .u64 b_e)))+(IntKind.wrap .u64 out_e))))) 32) (j+1) (out.set (((i+j)).toNat) (IntKind.wrap .u32 (IntKind.wrap .u64 (c+(IntKind.wrap .u64 ((IntKind.wrap .u64 ((IntKind.wrap .u64 a_e)*(IntKind.wrap .u64 b_e)))+(IntKind.wrap .u64 out_e)))))))
 )else (
  some (a,b,i,c,out)
 )
def ZrY:Nat→(List Int)→(List Int)→Int→Int→Int→(List Int)→Option ((List Int)×(List Int)×Int×Int×(List Int))
 |0,_,_,_,_,_,_=>none
 |n_+1,a,b,i,c,j,out=>ZqU (ZrY n_) a b i c j out
def ZvL (n:Nat) (s:((List Int)×(List Int)×Int×Int×Int×(List Int))):Option ((List Int)×(List Int)×Int×Int×(List Int)):=ZrY n s.1 s.2.1 s.2.2.1 s.2.2.2.1 s.2.2.2.2.1 s.2.2.2.2.2
def Ztd (rec_:((List Int)×(List Int)×Int×Int×Int×(List Int))→Option ((List Int)×(List Int)×Int×Int×(List Int))) (s:((List Int)×(List Int)×Int×Int×Int×(List Int))):Option ((List Int)×(List Int)×Int×Int×(List Int)):=ZqU (fun a b i c j out=>rec_ (a,b,i,c,j,out)) s.1 s.2.1 s.2.2.1 s.2.2.2.1 s.2.2.2.2.1 s.2.2.2.2.2
theorem ZxO:∀n s,ZvL (n+1) s=Ztd (ZvL n) s:=fun _ _=>rfl
def ZqV (rec_:(List Int)→(List Int)→Int→(List Int)→Option (List Int)) (a:(List Int)) (b:(List Int)) (i:Int) (out:(List Int)):Option (List Int):=
 bif (decide (i < (a.length:Int)))then (
  (ZrY big a b i (0:Int) (0:Int) out).bind fun(x0,x1,x2,x3,x4)=>Zuc rec_ x0 x1 x2 x3 x4
 )else (
  some out
 )
def Zp7:Nat→(List Int)→(List Int)→Int→(List Int)→Option (List Int)
 |0,_,_,_,_=>none
 |n_+1,a,b,i,out=>ZqV (Zp7 n_) a b i out
def ZvM (n:Nat) (s:((List Int)×(List Int)×Int×(List Int))):Option (List Int):=Zp7 n s.1 s.2.1 s.2.2.1 s.2.2.2
def Zte (rec_:((List Int)×(List Int)×Int×(List Int))→Option (List Int)) (s:((List Int)×(List Int)×Int×(List Int))):Option (List Int):=ZqV (fun a b i out=>rec_ (a,b,i,out)) s.1 s.2.1 s.2.2.1 s.2.2.2
theorem ZxP:∀n s,ZvM (n+1) s=Zte (ZvM n) s:=fun _ _=>rfl
def Zrr (a:(List Int)) (b:(List Int)):Option (List Int):=
 chk (inK .i64 ((a.length:Int)+(b.length:Int))) <|
 chk (mkOk ((a.length:Int)+(b.length:Int)) ((a.length:Int)+(b.length:Int)) 4) <|
 (Zp7 big a b (0:Int) (List.replicate (((a.length:Int)+(b.length:Int))).toNat (0:Int))).bind fun x0=>Zub x0
def ZnG (a:ZnB) (b:ZnB):Option ZnB:=
 (Zrr a.Words b.Words).bind fun q=>
 (ZnP (!(a.Neg == b.Neg)) q).bind fun q_1=>
 some q_1
def Zuk (c:Int) (out:(List Int)):Option (List Int):=
 chk (ZiZ (out.length+([(IntKind.wrap .u32 c)]:(List Int)).length) 4) <|
 some (out++([(IntKind.wrap .u32 c)]:(List Int)))
def Zqa (rec_:(List Int)→(List Int)→Int→Int→(List Int)→Option (Int×(List Int))) (a:(List Int)) (b:(List Int)) (c:Int) (i:Int) (out:(List Int)):Option (Int×(List Int)):=
 chk (ZiZ (out.length+([(IntKind.wrap .u32 c)]:(List Int)).length) 4) <|
 chk (decide (0≤(32:Int))) <|
 chk (inK .i64 (i+1)) <|
 rec_ a b (shrK .u64 c 32) (i+1) (out++([(IntKind.wrap .u32 c)]:(List Int)))
def Zqb (rec_:(List Int)→(List Int)→Int→Int→(List Int)→Option (Int×(List Int))) (a:(List Int)) (b:(List Int)) (c:Int) (i:Int) (out:(List Int)):Option (Int×(List Int)):=
 bif (decide (i < (b.length:Int)))then (
  (idx b i).bind fun b_e=>
  Zqa rec_ a b (IntKind.wrap .u64 (c+(IntKind.wrap .u64 b_e))) i out
 )else (
  Zqa rec_ a b c i out
 )
def ZoX (rec_:(List Int)→(List Int)→Int→Int→(List Int)→Option (Int×(List Int))) (a:(List Int)) (b:(List Int)) (c:Int) (i:Int) (t17:Bool) (out:(List Int)):Option (Int×(List Int)):=
 bif t17 then (
  bif (decide (i < (a.length:Int)))then (
   (idx a i).bind fun a_e=>
   Zqb rec_ a b (IntKind.wrap .u64 (c+(IntKind.wrap .u64 a_e))) i out
  )else (
   Zqb rec_ a b c i out
  )
 )else (
  some (c,out)
 )
def ZqY (rec_:(List Int)→(List Int)→Int→Int→(List Int)→Option (Int×(List Int))) (a:(List Int)) (b:(List Int)) (c:Int) (i:Int) (out:(List Int)):Option (Int×(List Int)):=
 bif (decide (i < (a.length:Int)))then (
  ZoX rec_ a b c i true out
 )else (
  ZoX rec_ a b c i (decide (i < (b.length:Int))) out
 )
def Zou:Nat→(List Int)→(List Int)→Int→Int→(List Int)→Option (Int×(List Int))
 |0,_,_,_,_,_=>none
 |n_+1,a,b,c,i,out=>ZqY (Zou n_) a b c i out
def ZvP (n:Nat) (s:((List Int)×(List Int)×Int×Int×(List Int))):Option (Int×(List Int)):=Zou n s.1 s.2.1 s.2.2.1 s.2.2.2.1 s.2.2.2.2
def Ztj (rec_:((List Int)×(List Int)×Int×Int×(List Int))→Option (Int×(List Int))) (s:((List Int)×(List Int)×Int×Int×(List Int))):Option (Int×(List Int)):=ZqY (fun a b c i out=>rec_ (a,b,c,i,out)) s.1 s.2.1 s.2.2.1 s.2.2.2.1 s.2.2.2.2
theorem ZxS:∀n s,ZvP (n+1) s=Ztj (ZvP n) s:=fun _ _=>rfl
def ZpW (a:(List Int)) (b:(List Int)):Option (List Int):=
 (Zou big a b (0:Int) (0:Int) ([]:(List Int))).bind fun(x0,x1)=>Zuk x0 x1
def Zn2 (a:ZnB) (b:ZnB):Option ZnB:=
 bif (a.Neg == b.Neg)then (
  (ZpW a.Words b.Words).bind fun q=>
  (ZnP a.Neg q).bind fun q_1=>
  some q_1
 )else (
  (Zoa a.Words b.Words).bind fun q_2=>
  bif (decide (q_2≥0))then (
   (Zoy a.Words b.Words).bind fun q_3=>
   (ZnP a.Neg q_3).bind fun q_4=>
   some q_4
  )else (
   (Zoy b.Words a.Words).bind fun q_5=>
   (ZnP b.Neg q_5).bind fun q_6=>
   some q_6
  )
 )
def Zok (a:ZnB):Option ZnB:=
 (ZnP (!a.Neg) a.Words).bind fun q=>
 some q
def Zql (t2:Bool) (t2_1:Bool) (n:ZnB) (d:ZnB) (t2_2:(List Int)) (t2_3:(List Int)):Option (ZnA×Bool):=
 (Zot n d).bind fun q=>
 some (q,true)
def ZsA (neg:Bool) (t2:Bool) (t2_1:Bool) (n:ZnB) (d:ZnB) (t2_2:(List Int)) (t2_3:(List Int)):Option (ZnA×Bool):=
 bif neg then (
  (Zok n).bind fun n_1=>
  Zql t2 t2_1 n_1 d t2_2 t2_3
 )else (
  Zql t2 t2_1 n d t2_2 t2_3
 )
def Zqm (rec_:Bool→Bool→Bool→ZnB→ZnB→Str→Nat→(List Int)→(List Int)→Option (Bool×Bool×Bool×ZnB×ZnB×(List Int)×(List Int))) (neg:Bool) (t45:Bool) (t2:Bool) (t2_1:Bool) (n:ZnB) (d:ZnB) (t43:Str) (t43_pos:Nat) (t2_2:(List Int)) (t2_3:(List Int)):Option (Bool×Bool×Bool×ZnB×ZnB×(List Int)×(List Int)):=
 bif t45 then (
  (ZnM 10).bind fun q=>
  (ZnG d q).bind fun d_1=>
  rec_ neg t2 t2_1 n d_1 t43 t43_pos t2_2 t2_3
 )else (
  some (neg,t2,t2_1,n,d,t2_2,t2_3)
 )
def ZrG (rec_:Bool→Bool→Bool→ZnB→ZnB→Str→Nat→(List Int)→(List Int)→Option (Bool×Bool×Bool×ZnB×ZnB×(List Int)×(List Int))) (neg:Bool) (t2:Bool) (t2_1:Bool) (n:ZnB) (d:ZnB) (t43:Str) (t43_pos:Nat) (t2_2:(List Int)) (t2_3:(List Int)):Option (Bool×Bool×Bool×ZnB×ZnB×(List Int)×(List Int)):=
 bif (decide (t43_pos < t43.length))then (
  Zqm rec_ neg true t2 t2_1 n d t43 (t43_pos+(Utf8.decode ⟨List.toArray t43⟩ t43_pos).2) t2_2 t2_3
 )else (
  Zqm rec_ neg false t2 t2_1 n d t43 t43_pos t2_2 t2_3
 )
def ZoR:Nat→Bool→Bool→Bool→ZnB→ZnB→Str→Nat→(List Int)→(List Int)→Option (Bool×Bool×Bool×ZnB×ZnB×(List Int)×(List Int))
 |0,_,_,_,_,_,_,_,_,_=>none
 |n_+1,neg,t2,t2_1,n,d,t43,t43_pos,t2_2,t2_3=>ZrG (ZoR n_) neg t2 t2_1 n d t43 t43_pos t2_2 t2_3
def ZuD (n:Nat) (s:(Bool×Bool×Bool×ZnB×ZnB×Str×Nat×(List Int)×(List Int))):Option (Bool×Bool×Bool×ZnB×ZnB×(List Int)×(List Int)):=ZoR n s.1 s.2.1 s.2.2.1 s.2.2.2.1 s.2.2.2.2.1 s.2.2.2.2.2.1 s.2.2.2.2.2.2.1 s.2.2.2.2.2.2.2.1 s.2.2.2.2.2.2.2.2
def ZuE (rec_:(Bool×Bool×Bool×ZnB×ZnB×Str×Nat×(List Int)×(List Int))→Option (Bool×Bool×Bool×ZnB×ZnB×(List Int)×(List Int))) (s:(Bool×Bool×Bool×ZnB×ZnB×Str×Nat×(List Int)×(List Int))):Option (Bool×Bool×Bool×ZnB×ZnB×(List Int)×(List Int)):=ZrG (fun neg t2 t2_1 n d t43 t43_pos t2_2 t2_3=>rec_ (neg,t2,t2_1,n,d,t43,t43_pos,t2_2,t2_3)) s.1 s.2.1 s.2.2.1 s.2.2.2.1 s.2.2.2.2.1 s.2.2.2.2.2.1 s.2.2.2.2.2.2.1 s.2.2.2.2.2.2.2.1 s.2.2.2.2.2.2.2.2
theorem Zw0:∀n s,ZuD (n+1) s=ZuE (ZuD n) s:=fun _ _=>rfl
def ZsB (neg:Bool) (places:Str) (t2:Bool) (t2_1:Bool) (n:ZnB) (d:ZnB) (t2_2:(List Int)) (t2_3:(List Int)):Option (ZnA×Bool):=
 (ZoR big neg t2 t2_1 n d places 0 t2_2 t2_3).bind fun(x0,x1,x2,x3,x4,x5,x6)=>ZsA x0 x1 x2 x3 x4 x5 x6
def ZpF (rec_:Bool→Str→Int→Int→Bool→Bool→ZnB→ZnB→(List Int)→(List Int)→(List Int)→Option (Bool×Str×Bool×Bool×ZnB×ZnB×(List Int)×(List Int))) (neg:Bool) (places:Str) (t28:Int) (t29:Int) (t2:Bool) (t2_1:Bool) (n:ZnB) (d:ZnB) (t27:(List Int)) (t2_2:(List Int)) (t2_3:(List Int)):Option (Bool×Str×Bool×Bool×ZnB×ZnB×(List Int)×(List Int)):=
 bif (decide (t29 < t28))then (
  chk (inR t29 (t27.length:Int)) <|
  (t27[(t29).toNat]?).bind fun c=>
  (ZnM 10).bind fun q=>
  (ZnG n q).bind fun q_1=>
  (ZnM (IntKind.wrap .i64 (IntKind.wrap .u8 (c - 48)))).bind fun q_2=>
  (Zn2 q_1 q_2).bind fun n_1=>
  chk (inK .i64 (t29+1)) <|
  rec_ neg places t28 (t29+1) t2 t2_1 n_1 d t27 t2_2 t2_3
 )else (
  some (neg,places,t2,t2_1,n,d,t2_2,t2_3)
 )
def Zqk:Nat→Bool→Str→Int→Int→Bool→Bool→ZnB→ZnB→(List Int)→(List Int)→(List Int)→Option (Bool×Str×Bool×Bool×ZnB×ZnB×(List Int)×(List Int))
 |0,_,_,_,_,_,_,_,_,_,_,_=>none
 |n_+1,neg,places,t28,t29,t2,t2_1,n,d,t27,t2_2,t2_3=>ZpF (Zqk n_) neg places t28 t29 t2 t2_1 n d t27 t2_2 t2_3
def ZuF (n:Nat) (s:(Bool×Str×Int×Int×Bool×Bool×ZnB×ZnB×(List Int)×(List Int)×(List Int))):Option (Bool×Str×Bool×Bool×ZnB×ZnB×(List Int)×(List Int)):=Zqk n s.1 s.2.1 s.2.2.1 s.2.2.2.1 s.2.2.2.2.1 s.2.2.2.2.2.1 s.2.2.2.2.2.2.1 s.2.2.2.2.2.2.2.1 s.2.2.2.2.2.2.2.2.1 s.2.2.2.2.2.2.2.2.2.1 s.2.2.2.2.2.2.2.2.2.2
def ZrH (rec_:(Bool×Str×Int×Int×Bool×Bool×ZnB×ZnB×(List Int)×(List Int)×(List Int))→Option (Bool×Str×Bool×Bool×ZnB×ZnB×(List Int)×(List Int))) (s:(Bool×Str×Int×Int×Bool×Bool×ZnB×ZnB×(List Int)×(List Int)×(List Int))):Option (Bool×Str×Bool×Bool×ZnB×ZnB×(List Int)×(List Int)):=ZpF (fun neg places t28 t29 t2 t2_1 n d t27 t2_2 t2_3=>rec_ (neg,places,t28,t29,t2,t2_1,n,d,t27,t2_2,t2_3)) s.1 s.2.1 s.2.2.1 s.2.2.2.1 s.2.2.2.2.1 s.2.2.2.2.2.1 s.2.2.2.2.2.2.1 s.2.2.2.2.2.2.2.1 s.2.2.2.2.2.2.2.2.1 s.2.2.2.2.2.2.2.2.2.1 s.2.2.2.2.2.2.2.2.2.2
theorem Zw1:∀n s,ZuF (n+1) s=ZrH (ZuF n) s:=fun _ _=>rfl
def ZpP (s:Str):Option (ZnA×Bool):=
 (Zpk s).bind fun(neg,digits,places,ok)=>
 bif (!ok)then (
  some ((ZnA.mk (ZnB.mk false ([]:(List Int))) (ZnB.mk false ([]:(List Int)))),false)
 )else (
  (ZnM 1).bind fun d=>
  chk (decide (digits.length+places.length≤Zq)) <|
  chk (decide ((digits++places).length≤281474976710656)) <|
  (Zqk big neg places (((digits++places).map fun b=>((b.toNat:Nat):Int)).length:Int) (0:Int) false false (ZnB.mk false ([]:(List Int))) d ((digits++places).map fun b=>((b.toNat:Nat):Int)) ([]:(List Int)) ([]:(List Int))).bind fun(x0,x1,x2,x3,x4,x5,x6,x7)=>ZsB x0 x1 x2 x3 x4 x5 x6 x7
 )
def ZqO (n:Int) (t4:Bool) (t4_1:Bool) (t4_2:(List Int)) (t4_3:(List Int)):Option (ZnA×Bool):=
 (Zqu n 1).bind fun(f,q)=>
 some (f,true)
def ZqP (kind:Int) (t:Str) (t26:Bool) (t4:Bool) (t4_1:Bool) (t4_2:(List Int)) (t4_3:(List Int)):Option (ZnA×Bool):=
 bif t26 then (
  some ((ZnA.mk (ZnB.mk false ([]:(List Int))) (ZnB.mk false ([]:(List Int)))),false)
 )else (
  bif (kind == 2)then (
   bif (t == ([116,114,117,101]:Str))then (
    ZqO (1:Int) t4 t4_1 t4_2 t4_3
   )else (
    ZqO (0:Int) t4 t4_1 t4_2 t4_3
   )
  )else (
   bif (kind == 5)then (
    (ZsR t).bind fun(y,m,d,q)=>
    (Ztw y m d).bind fun(n,q_1)=>
    ZqO n t4 t4_1 t4_2 t4_3
   )else (
    (ZpP t).bind fun(q_2,q_3)=>
    some (q_2,q_3)
   )
  )
 )
def Zqt (kind:Int) (s:Str):Option (ZnA×Bool):=
 (Zo9 kind s).bind fun(t,ok)=>
 bif (!ok)then (
  ZqP kind t true false false ([]:(List Int)) ([]:(List Int))
 )else (
  ZqP kind t (kind == 1) false false ([]:(List Int)) ([]:(List Int))
 )
def Zp1 (c:G_api_Cell):Option (ZnA×Bool):=
 bif c.Null then (
  some ((ZnA.mk (ZnB.mk false ([]:(List Int))) (ZnB.mk false ([]:(List Int)))),false)
 )else (
  (Zqt 4 c.Text).bind fun(q,q_1)=>
  some (q,q_1)
 )
def Zs8 (full:Int) (n:Int) (t2:Bool) (t2_1:Bool) (t2_2:(List Int)) (t2_3:(List Int)):Option ZnA:=
 bif (full == 0)then (
  (ZnS).bind fun q=>
  some q
 )else (
  (Zod n full).bind fun q_1=>
  some q_1
 )
def Zpr (rec_:Int→Int→(List G_api_Cell)→Int→Int→Bool→Bool→(List Int)→(List Int)→Option (Int×Int×Bool×Bool×(List Int)×(List Int))) (full:Int) (n:Int) (t10:(List G_api_Cell)) (t11:Int) (t12:Int) (t2:Bool) (t2_1:Bool) (t2_2:(List Int)) (t2_3:(List Int)):Option (Int×Int×Bool×Bool×(List Int)×(List Int)):=
 chk (inK .i64 (t12+1)) <|
 rec_ full n t10 t11 (t12+1) t2 t2_1 t2_2 t2_3
def Zqd (rec_:Int→Int→(List G_api_Cell)→Int→Int→Bool→Bool→(List Int)→(List Int)→Option (Int×Int×Bool×Bool×(List Int)×(List Int))) (full:Int) (n:Int) (t10:(List G_api_Cell)) (t11:Int) (t12:Int) (t2:Bool) (t2_1:Bool) (t2_2:(List Int)) (t2_3:(List Int)):Option (Int×Int×Bool×Bool×(List Int)×(List Int)):=
 bif (decide (t12 < t11))then (
  (idx t10 t12).bind fun x_=>
  bif x_.Null then (
   Zpr rec_ full n t10 t11 t12 t2 t2_1 t2_2 t2_3
  )else (
   chk (inK .i64 (full+1)) <|
   (Zp1 x_).bind fun(q,ok)=>
   bif ok then (
    chk (inK .i64 (n+1)) <|
    Zpr rec_ (full+1) (n+1) t10 t11 t12 t2 t2_1 t2_2 t2_3
   )else (
    Zpr rec_ (full+1) n t10 t11 t12 t2 t2_1 t2_2 t2_3
   )
  )
 )else (
  some (full,n,t2,t2_1,t2_2,t2_3)
 )
def Zpq:Nat→Int→Int→(List G_api_Cell)→Int→Int→Bool→Bool→(List Int)→(List Int)→Option (Int×Int×Bool×Bool×(List Int)×(List Int))
 |0,_,_,_,_,_,_,_,_,_=>none
 |n_+1,full,n,t10,t11,t12,t2,t2_1,t2_2,t2_3=>Zqd (Zpq n_) full n t10 t11 t12 t2 t2_1 t2_2 t2_3
def Zva (n:Nat) (s:(Int×Int×(List G_api_Cell)×Int×Int×Bool×Bool×(List Int)×(List Int))):Option (Int×Int×Bool×Bool×(List Int)×(List Int)):=Zpq n s.1 s.2.1 s.2.2.1 s.2.2.2.1 s.2.2.2.2.1 s.2.2.2.2.2.1 s.2.2.2.2.2.2.1 s.2.2.2.2.2.2.2.1 s.2.2.2.2.2.2.2.2
def Zst (rec_:(Int×Int×(List G_api_Cell)×Int×Int×Bool×Bool×(List Int)×(List Int))→Option (Int×Int×Bool×Bool×(List Int)×(List Int))) (s:(Int×Int×(List G_api_Cell)×Int×Int×Bool×Bool×(List Int)×(List Int))):Option (Int×Int×Bool×Bool×(List Int)×(List Int)):=Zqd (fun full n t10 t11 t12 t2 t2_1 t2_2 t2_3=>rec_ (full,n,t10,t11,t12,t2,t2_1,t2_2,t2_3)) s.1 s.2.1 s.2.2.1 s.2.2.2.1 s.2.2.2.2.1 s.2.2.2.2.2.1 s.2.2.2.2.2.2.1 s.2.2.2.2.2.2.2.1 s.2.2.2.2.2.2.2.2
theorem Zxj:∀n s,Zva (n+1) s=Zst (Zva n) s:=fun _ _=>rfl
def ZoB (c:G_api_Column):Option ZnA:=
 (Zpq big (0:Int) (0:Int) c.Cells (c.Cells.length:Int) (0:Int) false false ([]:(List Int)) ([]:(List Int))).bind fun(x0,x1,x2,x3,x4,x5)=>Zs8 x0 x1 x2 x3 x4 x5
def Zov (c:Int) (t13:Bool):Option Int:=
 bif t13 then (
  some c
 )else (
  some (0:Int)
 )
def ZsK (c:Int) (t3:Bool):Option Int:=
 bif t3 then (
  some (IntKind.wrap .u8 ((IntKind.wrap .u8 (c+97)) - 65))
 )else (
  bif (decide (c≥97))then (
   bif (decide (c≤122))then (
    Zov c true
   )else (
    bif (decide (c≥48))then (
     Zov c (decide (c≤57))
    )else (
     Zov c false
    )
   )
  )else (
   bif (decide (c≥48))then (
    Zov c (decide (c≤57))
   )else (
    Zov c false
   )
  )
 )
def Zp0 (c:Int):Option Int:=
 bif (decide (c≥65))then (
  ZsK c (decide (c≤90))
 )else (
  ZsK c false
 )
def ZrQ (l:(List Str)) (s:Str) (i:Int) (t31:Bool):Option (List Str):=
 bif t31 then (
  some l
 )else (
  chk (Zb9 0 i (l.length:Int)) <|
  chk (ZiZ (l.take (i).toNat).length 16) <|
  chk (ZiZ ((l.take (i).toNat).length+([s]:(List Str)).length) 16) <|
  chk (Zb9 i (l.length:Int) (l.length:Int)) <|
  chk (ZiZ (((l.take (i).toNat)++([s]:(List Str))).length+(l.drop (i).toNat).length) 16) <|
  some (((l.take (i).toNat)++([s]:(List Str)))++(l.drop (i).toNat))
 )
def Zt4 (l:(List Str)) (s:Str) (i:Int):Option (List Str):=
 bif (decide (i < (l.length:Int)))then (
  (idx l i).bind fun l_e=>
  ZrQ l s i (l_e == s)
 )else (
  ZrQ l s i false
 )
def ZrR (rec_:(List Str)→Str→Int→Option ((List Str)×Str×Int)) (l:(List Str)) (s:Str) (i:Int) (t17:Bool):Option ((List Str)×Str×Int):=
 bif t17 then (
  chk (inK .i64 (i+1)) <|
  rec_ l s (i+1)
 )else (
  some (l,s,i)
 )
def Zs6 (rec_:(List Str)→Str→Int→Option ((List Str)×Str×Int)) (l:(List Str)) (s:Str) (i:Int):Option ((List Str)×Str×Int):=
 bif (decide (i < (l.length:Int)))then (
  (idx l i).bind fun l_e=>
  ZrR rec_ l s i (Op.bytesLess l_e s)
 )else (
  ZrR rec_ l s i false
 )
def ZpZ:Nat→(List Str)→Str→Int→Option ((List Str)×Str×Int)
 |0,_,_,_=>none
 |n_+1,l,s,i=>Zs6 (ZpZ n_) l s i
def ZvF (n:Nat) (s:((List Str)×Str×Int)):Option ((List Str)×Str×Int):=ZpZ n s.1 s.2.1 s.2.2
def ZvG (rec_:((List Str)×Str×Int)→Option ((List Str)×Str×Int)) (s:((List Str)×Str×Int)):Option ((List Str)×Str×Int):=Zs6 (fun l s i=>rec_ (l,s,i)) s.1 s.2.1 s.2.2
theorem ZxJ:∀n s,ZvF (n+1) s=ZvG (ZvF n) s:=fun _ _=>rfl
def Zrn (l:(List Str)) (s:Str):Option (List Str):=
 (ZpZ big l s (0:Int)).bind fun(x0,x1,x2)=>Zt4 x0 x1 x2
def Zs7 (out:(List Str)):Option (List Str):=
 some out
def ZqK (rec_:Str→(List Str)→Str→Int→Option (List Str)) (name:Str) (out:(List Str)) (word:Str) (i:Int):Option (List Str):=
 chk (inK .i64 (i+1)) <|
 rec_ name out word (i+1)
def ZqL (rec_:Str→(List Str)→Str→Int→Option (List Str)) (name:Str) (out:(List Str)) (i:Int):Option (List Str):=
 ZqK rec_ name out ([]:Str) i
def Zpp (rec_:Str→(List Str)→Str→Int→Option (List Str)) (name:Str) (out:(List Str)) (word:Str) (i:Int) (c:Int):Option (List Str):=
 bif (c != 0)then (
  chk (decide (word.length+(([c]:(List Int)).map fun n=>UInt8.ofNat (Int.toNat n)).length≤Zq)) <|
  ZqK rec_ name out (word++(([c]:(List Int)).map fun n=>UInt8.ofNat (Int.toNat n))) i
 )else (
  bif (!(word == ([]:Str)))then (
   (Zrn out word).bind fun out_1=>
   ZqL rec_ name out_1 i
  )else (
   ZqL rec_ name out i
  )
 )
def Zss (rec_:Str→(List Str)→Str→Int→Option (List Str)) (name:Str) (out:(List Str)) (word:Str) (i:Int):Option (List Str):=
 bif (decide (i≤(name.length:Int)))then (
  bif (decide (i < (name.length:Int)))then (
   (idx name i).bind fun c=>
   (Zp0 ((c.toNat:Nat):Int)).bind fun c_1=>
   Zpp rec_ name out word i c_1
  )else (
   Zpp rec_ name out word i (0:Int)
  )
 )else (
  some out
 )
def ZnX:Nat→Str→(List Str)→Str→Int→Option (List Str)
 |0,_,_,_,_=>none
 |n_+1,name,out,word,i=>Zss (ZnX n_) name out word i
def Zu8 (n:Nat) (s:(Str×(List Str)×Str×Int)):Option (List Str):=ZnX n s.1 s.2.1 s.2.2.1 s.2.2.2
def Zu9 (rec_:(Str×(List Str)×Str×Int)→Option (List Str)) (s:(Str×(List Str)×Str×Int)):Option (List Str):=Zss (fun name out word i=>rec_ (name,out,word,i)) s.1 s.2.1 s.2.2.1 s.2.2.2
theorem Zxi:∀n s,Zu8 (n+1) s=Zu9 (Zu8 n) s:=fun _ _=>rfl
def Zph (name:Str):Option (List Str):=
 (ZnX big name ([]:(List Str)) ([]:Str) (0:Int)).bind fun x0=>Zs7 x0
def Zqs (a:Str) (b:Str):Option ZnA:=
 (Zph a).bind fun q=>
 (Zph b).bind fun q_1=>
 (ZoM q q_1).bind fun q_2=>
 some q_2
def ZoF (t24:Bool) (f:ZnA):Option Bool:=
 bif t24 then (
  some false
 )else (
  bif ((f.Num.Words.length:Int) == 0)then (
   (Zoa f.Den.Words ([1]:(List Int))).bind fun q=>
   some (q == 0)
  )else (
   (ZpU f.Num.Words f.Den.Words).bind fun q_1=>
   (Zoa q_1 ([1]:(List Int))).bind fun q_2=>
   some (q_2 == 0)
  )
 )
def ZnN (f:ZnA):Option Bool:=
 (Zoh f.Num).bind fun q=>
 bif (!q)then (
  ZoF true f
 )else (
  (Zoh f.Den).bind fun q_1=>
  bif (!q_1)then (
   ZoF true f
  )else (
   bif f.Den.Neg then (
    ZoF true f
   )else (
    ZoF ((f.Den.Words.length:Int) == 0) f
   )
  )
 )
def ZqF (t21:Bool) (t4:Bool) (t4_1:Bool) (f:ZnA) (t4_2:(List Int)) (t4_3:(List Int)):Option (ZnA×Int):=
 bif t21 then (
  some ((ZnA.mk (ZnB.mk false ([]:(List Int))) (ZnB.mk false ([]:(List Int)))),3)
 )else (
  some (f,0)
 )
def Zos (num:ZnB) (den:ZnB):Option (ZnA×Int):=
 (Zot num den).bind fun f=>
 bif (decide ((f.Num.Words.length:Int) > 256))then (
  ZqF true false false f ([]:(List Int)) ([]:(List Int))
 )else (
  ZqF (decide ((f.Den.Words.length:Int) > 256)) false false f ([]:(List Int)) ([]:(List Int))
 )
def Zr3 (t13:Bool) (a:ZnA) (b:ZnA) (t4:Bool) (t4_1:Bool) (t4_2:(List Int)) (t4_3:(List Int)):Option (ZnA×Int):=
 bif t13 then (
  some ((ZnA.mk (ZnB.mk false ([]:(List Int))) (ZnB.mk false ([]:(List Int)))),1)
 )else (
  (ZnG a.Num b.Den).bind fun q=>
  (ZnG b.Num a.Den).bind fun q_1=>
  (Zok q_1).bind fun q_2=>
  (Zn2 q q_2).bind fun q_3=>
  (ZnG a.Den b.Den).bind fun q_4=>
  (Zos q_3 q_4).bind fun(q_5,q_6)=>
  some (q_5,q_6)
 )
def Zrt (a:ZnA) (b:ZnA):Option (ZnA×Int):=
 (ZnN a).bind fun q=>
 bif (!q)then (
  Zr3 true a b false false ([]:(List Int)) ([]:(List Int))
 )else (
  (ZnN b).bind fun q_1=>
  Zr3 (!q_1) a b false false ([]:(List Int)) ([]:(List Int))
 )
def ZoZ (a:ZnA) (b:ZnA):Option ZnA:=
 (Zrt a b).bind fun(f,q)=>
 some f
def Zr5 (t13:Bool) (a:ZnA) (b:ZnA):Option Int:=
 bif t13 then (
  some (0:Int)
 )else (
  (ZnG a.Num b.Den).bind fun q=>
  (ZnG b.Num a.Den).bind fun q_1=>
  (Zok q_1).bind fun q_2=>
  (Zn2 q q_2).bind fun x_=>
  bif ((x_.Words.length:Int) == 0)then (
   some (0:Int)
  )else (
   bif x_.Neg then (
    some (-1:Int)
   )else (
    some (1:Int)
   )
  )
 )
def Zrv (a:ZnA) (b:ZnA):Option Int:=
 (ZnN a).bind fun q=>
 bif (!q)then (
  Zr5 true a b
 )else (
  (ZnN b).bind fun q_1=>
  Zr5 (!q_1) a b
 )
def ZqN (a:ZnA) (b:ZnA):Option Bool:=
 (Zrv a b).bind fun q=>
 some (decide (q < 0))
def Zrp (a:ZnA):Option ZnA:=
 (ZnS).bind fun q=>
 (ZqN a q).bind fun q_1=>
 bif q_1 then (
  (ZnS).bind fun q_2=>
  (ZoZ q_2 a).bind fun q_3=>
  some q_3
 )else (
  some a
 )
def Zr6 (t13:Bool) (a:ZnA) (b:ZnA) (t4:Bool) (t4_1:Bool) (t4_2:(List Int)) (t4_3:(List Int)):Option (ZnA×Int):=
 bif t13 then (
  some ((ZnA.mk (ZnB.mk false ([]:(List Int))) (ZnB.mk false ([]:(List Int)))),1)
 )else (
  (ZnG a.Num b.Den).bind fun q=>
  (ZnG b.Num a.Den).bind fun q_1=>
  (Zn2 q q_1).bind fun q_2=>
  (ZnG a.Den b.Den).bind fun q_3=>
  (Zos q_2 q_3).bind fun(q_4,q_5)=>
  some (q_4,q_5)
 )
def Zrw (a:ZnA) (b:ZnA):Option (ZnA×Int):=
 (ZnN a).bind fun q=>
 bif (!q)then (
  Zr6 true a b false false ([]:(List Int)) ([]:(List Int))
 )else (
  (ZnN b).bind fun q_1=>
  Zr6 (!q_1) a b false false ([]:(List Int)) ([]:(List Int))
 )
def Zo0 (a:ZnA) (b:ZnA):Option ZnA:=
 (Zrw a b).bind fun(f,q)=>
 some f
def Zr4 (t13:Bool) (a:ZnA) (b:ZnA) (t4:Bool) (t4_1:Bool) (t4_2:(List Int)) (t4_3:(List Int)):Option (ZnA×Int):=
 bif t13 then (
  some ((ZnA.mk (ZnB.mk false ([]:(List Int))) (ZnB.mk false ([]:(List Int)))),1)
 )else (
  bif ((b.Num.Words.length:Int) == 0)then (
   some ((ZnA.mk (ZnB.mk false ([]:(List Int))) (ZnB.mk false ([]:(List Int)))),8)
  )else (
   (ZnG a.Num b.Den).bind fun q=>
   (ZnG a.Den b.Num).bind fun q_1=>
   (Zos q q_1).bind fun(q_2,q_3)=>
   some (q_2,q_3)
  )
 )
def Zru (a:ZnA) (b:ZnA):Option (ZnA×Int):=
 (ZnN a).bind fun q=>
 bif (!q)then (
  Zr4 true a b false false ([]:(List Int)) ([]:(List Int))
 )else (
  (ZnN b).bind fun q_1=>
  Zr4 (!q_1) a b false false ([]:(List Int)) ([]:(List Int))
 )
def Zro (a:ZnA) (b:ZnA):Option ZnA:=
 (Zru a b).bind fun(f,q)=>
 some f
def Zpi (t24:Bool) (a:G_api_Column) (b:G_api_Column) (t4:Bool) (t4_1:Bool) (v_:ZnA) (n:ZnA) (t4_2:(List Int)) (t4_3:(List Int)):Option ZnA:=
 bif t24 then (
  (ZnS).bind fun q=>
  some q
 )else (
  (ZoB a).bind fun q_1=>
  (ZoB b).bind fun q_2=>
  (ZoZ q_1 q_2).bind fun q_3=>
  (Zrp q_3).bind fun d=>
  (Zo0 v_ v_).bind fun q_4=>
  (Zo0 q_4 n).bind fun q_5=>
  (Zn8 1).bind fun q_6=>
  (ZoZ q_6 d).bind fun q_7=>
  (Zo0 q_5 q_7).bind fun sum=>
  (Zn8 4).bind fun q_8=>
  (Zro sum q_8).bind fun q_9=>
  some q_9
 )
def Zsc (a:G_api_Column) (b:G_api_Column):Option ZnA:=
 (ZoT a b).bind fun v_=>
 (Zqs a.Name b.Name).bind fun n=>
 (ZnS).bind fun q=>
 (ZnY v_ q).bind fun q_1=>
 bif q_1 then (
  (ZnS).bind fun q_2=>
  (ZnY n q_2).bind fun q_3=>
  Zpi q_3 a b false false v_ n ([]:(List Int)) ([]:(List Int))
 )else (
  Zpi false a b false false v_ n ([]:(List Int)) ([]:(List Int))
 )
def Zpz:Option Bool:=
 (Zpl).bind fun q=>
 some q
def Zn5 (rec_:Int→Int→(List ZnH)→Option (Out Unit Bool)) (t61:Int) (t62:Int) (t101:Bool) (t60:(List ZnH)):Option (Out Unit Bool):=
 bif t101 then (
  some (.ret false)
 )else (
  chk (inK .i64 (t62+1)) <|
  rec_ t61 (t62+1) t60
 )
def Zoj (rec_:Int→Int→(List ZnH)→Option (Out Unit Bool)) (t61:Int) (t62:Int) (t60:(List ZnH)):Option (Out Unit Bool):=
 bif (decide (t62 < t61))then (
  chk (inR t62 (t60.length:Int)) <|
  (t60[(t62).toNat]?).bind fun p=>
  chk (inR 0 2) <|
  chk (inR 1 2) <|
  (ZrI p.e0 p.e1).bind fun q=>
  chk (inR 0 2) <|
  chk (inR 1 2) <|
  (ZoT p.e0 p.e1).bind fun q_1=>
  (ZnY q q_1).bind fun q_2=>
  bif (!q_2)then (
   Zn5 rec_ t61 t62 true t60
  )else (
   chk (inR 0 2) <|
   (ZoY p.e0).bind fun q_3=>
   chk (inR 0 2) <|
   (ZoB p.e0).bind fun q_4=>
   (ZnY q_3 q_4).bind fun q_5=>
   bif (!q_5)then (
    Zn5 rec_ t61 t62 true t60
   )else (
    chk (inR 0 2) <|
    chk (inR 1 2) <|
    (Ztn p.e0 p.e1).bind fun q_6=>
    chk (inR 0 2) <|
    chk (inR 1 2) <|
    (Zsc p.e0 p.e1).bind fun q_7=>
    (ZnY q_6 q_7).bind fun q_8=>
    Zn5 rec_ t61 t62 (!q_8) t60
   )
  )
 )else (
  some (.brk ())
 )
def ZnU:Nat→Int→Int→(List ZnH)→Option (Out Unit Bool)
 |0,_,_,_=>none
 |n_+1,t61,t62,t60=>Zoj (ZnU n_) t61 t62 t60
def Zrx (n:Nat) (s:(Int×Int×(List ZnH))):Option (Out Unit Bool):=ZnU n s.1 s.2.1 s.2.2
def Zo1 (rec_:(Int×Int×(List ZnH))→Option (Out Unit Bool)) (s:(Int×Int×(List ZnH))):Option (Out Unit Bool):=Zoj (fun t61 t62 t60=>rec_ (t61,t62,t60)) s.1 s.2.1 s.2.2
theorem Zvf:∀n s,Zrx (n+1) s=Zo1 (Zrx n) s:=fun _ _=>rfl
def ZnK (t:(List Int)) (t38:Bool) (a:G_api_Column) (b:G_api_Column):Option Bool:=
 bif t38 then (
  (Zpl).bind fun q=>
  some q
 )else (
  (ZtS t).bind fun d=>
  (ZpG d 6).bind fun(x_,t42)=>
  (ZnT t42 8).bind fun(q_1,t45)=>
  (ZpG t45 q_1).bind fun(y,t44)=>
  (ZnU big (([(ZnH.mk a b),(ZnH.mk x_ y),(ZnH.mk x_ a),(ZnH.mk x_ x_)]:(List ZnH)).length:Int) (0:Int) ([(ZnH.mk a b),(ZnH.mk x_ y),(ZnH.mk x_ a),(ZnH.mk x_ x_)]:(List ZnH))).bind fun
   | .ret q_=>some q_
   | .brk ()=>Zpz
 )
def ZoJ (a:G_api_Column) (b:G_api_Column) (t:(List Int)):Option Bool:=
 bif (decide ((a.Cells.length:Int) > 40))then (
  ZnK t true a b
 )else (
  bif (decide ((b.Cells.length:Int) > 40))then (
   ZnK t true a b
  )else (
   bif (decide ((a.Name.length:Int) > 100))then (
    ZnK t true a b
   )else (
    bif (decide ((b.Name.length:Int) > 100))then (
     ZnK t true a b
    )else (
     (Ztx t).bind fun q=>
     ZnK t (!q) a b
    )
   )
  )
 )
end
end Go.Proofs
