/- strconv.Itoa's contract, off the shelf. -/
import Derived.Test.YtcjejmbjlhlkhaaGreatDoorCtU
import Derived.Test.YtcjejmbjlhlkhaaGreatDoorCtR1XI
import Derived.Test.YtcjejmbjlhlkhaaGreatDoorCtLayItoa2
import Derived.Lib.ItoaLen
set_option linter.all false
namespace Go.Proofs
open Go Eng
theorem ZMl {w:World} {S:Nat->Prop} (h:Zel w S 2 (Lib.pow10Tab.map fun z=>P.int .u64 z)):Lib.TabIs Tryz.prog w "internal/strconv.uint64pow10" .u64 Lib.pow10Tab:=by
 obtain⟨h1,arr,t,fr,h2,h3⟩:=h;have hn:Tryz.prog.globalNamed "internal/strconv.uint64pow10" =some 2:=by kernel_rfl
 unfold Lib.TabIs World.var?;rw[hn,Option.bind_some,h2];refine congrArg some (Array.ext (by simpa using h3) fun i hi hi'=> ?_);cases h1 with
 |ptr b o cs vs hS hcell hone hrel=>
  have hlen:i < Lib.pow10Tab.length:=by simpa[h3]using hi
  have hc:(Lib.pow10Tab.map fun z=>P.int .u64 z)[i]? =some (.int .u64 Lib.pow10Tab[i]):=by rw[List.getElem?_map,List.getElem?_eq_getElem hlen];rfl
  have q1:=hcell i _ hc;have q2:=hrel i _ hc;rw[Nat.zero_add]at q1;simp only[World.cell?,h2]at q1;have e1:arr[i]? =some arr[i]:=by simp[hi]
  have q3:arr[i]? =some (vs i):=q1;rw[e1]at q3;have q4:vs i= .int .u64 Lib.pow10Tab[i]:=by generalize vs i=v at q2;cases q2;rfl
  rw[Option.some.inj q3,q4];simp
theorem ZSA (n:Int) (r:Str) (h:ZC0 n=some r):Fun X0.E 26 (([.int .i64 n]:List P).map Arg.p) ⟨[.p (.str r)],[]⟩:=by
 refine Zlg ⟨Tryz.f26,by kernel_rfl,by decide,by kernel_rfl⟩ fun w S d t c a=> ?_
 obtain⟨l⟩:=d
 match l,t with
 | [v0],_=>
  have q:=c 0 v0 _ rfl rfl;have o:=a 2 (Lib.pow10Tab.map fun z=>P.int .u64 z) (by
   refine List.mem_map.2 ⟨(2,ZFp),by simp[X0], ?_⟩;show ((2,(Lib.pow10Tab.map fun n=>(⟨.int .u64,n⟩:Lf ZBM)).map U.encL):Nat×List P)=_;rw[List.map_map];rfl)
  cases q with
  |int k m g f=>
   have u:IntKind.i64.min= -9223372036854775808:=by decide
   have p:IntKind.i64.max=9223372036854775807:=by decide
   rw[u]at g;rw[p]at f;have:=callsIn_wide (n:=0) |>.2 (Any.strconv_Itoa Tryz.laysItoa n g f w (ZMl o));refine CallsIn.mono this ?_;rintro e v ⟨rfl,k,i,rfl⟩;have s:r=Lib.itoa n:=(Option.some.inj h).symm;refine⟨_,rfl, ?_, ?_⟩
   ·refine⟨⟨rfl,rfl⟩, ?_,fun b j=> ?_⟩
    ·show w.heap.size<=((w.drewN k).heap++i).size;rw[Array.size_append];exact Nat.le_add_right _ _
    ·show ((w.drewN k).heap++i)[b]? =_;exact Array.getElem?_append_left j
   ·rw[s];exact .str _ (Nat.le_trans (Lib.itoa_length_le n g f) (by decide))
theorem ZH3:Zei X0.E 26 ZG7.sig:=Zkh.ok uok fun v r h=>⟨ZSA v.1 r h,Zdz rfl⟩
end Go.Proofs
