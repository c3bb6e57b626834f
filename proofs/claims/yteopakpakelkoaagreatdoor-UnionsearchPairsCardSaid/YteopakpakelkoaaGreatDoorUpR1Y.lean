/- strconv.Itoa's contract, off the shelf. -/
import Derived.Test.YteopakpakelkoaaGreatDoorUpU
import Derived.Test.YteopakpakelkoaaGreatDoorUpR1XI
import Derived.Test.YteopakpakelkoaaGreatDoorUpLayItoa2
import Derived.Lib.ItoaLen
set_option linter.all false
namespace Go.Proofs
open Go Eng
theorem ZKL {w:World} {S:Fz} (h:ZeC w S 3 (Lib.pow10Tab.map fun z=>P.int .u64 z)):Lib.TabIs Tryz.prog w "internal/strconv.uint64pow10" .u64 Lib.pow10Tab:=by
 obtain⟨_,h1,arr,t,fr,h2,h3⟩:=h;have hn:Tryz.prog.globalNamed "internal/strconv.uint64pow10" =some 3:=by kernel_rfl
 unfold Lib.TabIs World.var?;rw[hn,Option.bind_some,h2];refine congrArg some (Array.ext (by simpa using h3) fun i hi hi'=> ?_);cases h1 with
 |ptr b o cs vs hcell hone hrel=>
  have hlen:i < Lib.pow10Tab.length:=by simpa[h3]using hi
  have hc:(Lib.pow10Tab.map fun z=>P.int .u64 z)[i]? =some (.int .u64 Lib.pow10Tab[i]):=by rw[List.getElem?_map,List.getElem?_eq_getElem hlen];rfl
  have q1:=(hcell i _ hc).2;have q2:=hrel i _ hc;rw[Nat.zero_add]at q1;simp only[World.cell?,h2]at q1;have e1:arr[i]? =some arr[i]:=by simp[hi]
  have q3:arr[i]? =some (vs i):=q1;rw[e1]at q3;have q4:vs i= .int .u64 Lib.pow10Tab[i]:=by generalize vs i=v at q2;cases q2;rfl
  rw[Option.some.inj q3,q4];simp
theorem ZQI (n:Int) (r:Str) (h:ZBj n=some r):Fun X0.E 57 (([.int .i64 n]:List P).map Arg.p) ⟨[.p (.str r)],[]⟩:=by
 refine Zl5 ⟨Tryz.f57,by kernel_rfl,by decide,by kernel_rfl⟩ fun w S c q d a=> ?_
 obtain⟨o⟩:=c
 match o,q with
 | [v0],_=>
  have p:=d 0 v0 _ rfl rfl;have i:=a 3 (Lib.pow10Tab.map fun z=>P.int .u64 z) (by
   refine List.mem_map.2 ⟨(3,ZDD),by simp[X0], ?_⟩;show ((3,(Lib.pow10Tab.map fun n=>(⟨.int .u64,n⟩:Lf Zz1)).map U.encL):Nat×List P)=_;rw[List.map_map];rfl)
  cases p with
  |int k m g f=>
   have j:IntKind.i64.min= -9223372036854775808:=by decide
   have t:IntKind.i64.max=9223372036854775807:=by decide
   rw[j]at g;rw[t]at f;have:=callsIn_wide (n:=0) |>.2 (Any.strconv_Itoa Tryz.laysItoa n g f w (ZKL i));refine CallsIn.mono this ?_;rintro e u ⟨rfl,k,os,rfl⟩;have s:r=Lib.itoa n:=(Option.some.inj h).symm;refine⟨_,rfl, ?_, ?_⟩
   ·refine⟨⟨rfl,rfl⟩, ?_,fun b l=> ?_⟩
    ·show w.heap.size<=((w.drewN k).heap++os).size;rw[Array.size_append];exact Nat.le_add_right _ _
    ·show ((w.drewN k).heap++os)[b]? =_;exact Array.getElem?_append_left l
   ·rw[s];exact .str _ (Nat.le_trans (Lib.itoa_length_le n g f) (by decide))
theorem ZF4:Zez X0.E 57 ZFk.sig:=ZkU.ok uok fun v r h=>⟨ZQI v.1 r h,ZdP rfl⟩
end Go.Proofs
