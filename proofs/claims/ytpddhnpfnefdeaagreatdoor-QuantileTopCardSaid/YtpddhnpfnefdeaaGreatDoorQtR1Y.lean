/- strconv.Itoa's contract, off the shelf. -/
import Derived.Test.YtpddhnpfnefdeaaGreatDoorQtU
import Derived.Test.YtpddhnpfnefdeaaGreatDoorQtR1XI
import Derived.Test.YtpddhnpfnefdeaaGreatDoorQtLayItoa2
import Derived.Lib.ItoaLen
set_option linter.all false
namespace Go.Proofs
open Go Eng
theorem ZIZ {w:World} {S:Nat->Prop} (h:Zej w S 3 (Lib.pow10Tab.map fun z=>P.int .u64 z)):Lib.TabIs Tryz.prog w "internal/strconv.uint64pow10" .u64 Lib.pow10Tab:=by
 obtain⟨h1,arr,t,fr,h2,h3⟩:=h;have hn:Tryz.prog.globalNamed "internal/strconv.uint64pow10" =some 3:=by kernel_rfl
 unfold Lib.TabIs World.var?;rw[hn,Option.bind_some,h2];refine congrArg some (Array.ext (by simpa using h3) fun i hi hi'=> ?_);cases h1 with
 |ptr b o cs vs hS hcell hone hrel=>
  have hlen:i < Lib.pow10Tab.length:=by simpa[h3]using hi
  have hc:(Lib.pow10Tab.map fun z=>P.int .u64 z)[i]? =some (.int .u64 Lib.pow10Tab[i]):=by rw[List.getElem?_map,List.getElem?_eq_getElem hlen];rfl
  have q1:=hcell i _ hc;have q2:=hrel i _ hc;rw[Nat.zero_add]at q1;simp only[World.cell?,h2]at q1;have e1:arr[i]? =some arr[i]:=by simp[hi]
  have q3:arr[i]? =some (vs i):=q1;rw[e1]at q3;have q4:vs i= .int .u64 Lib.pow10Tab[i]:=by generalize vs i=v at q2;cases q2;rfl
  rw[Option.some.inj q3,q4];simp
theorem ZNT (n:Int) (r:Str) (h:ZAN n=some r):Fun X0.E 25 (([.int .i64 n]:List P).map Arg.p) ⟨[.p (.str r)],[]⟩:=by
 refine Zk7 ⟨Tryz.f25,by kernel_rfl,by decide,by kernel_rfl⟩ fun w S d p c a=> ?_
 obtain⟨t⟩:=d
 match t,p with
 | [v0],_=>
  have o:=c 0 v0 _ rfl rfl;have l:=a 3 (Lib.pow10Tab.map fun z=>P.int .u64 z) (by
   refine List.mem_map.2 ⟨(3,ZC1),by simp[X0], ?_⟩;show ((3,(Lib.pow10Tab.map fun n=>(⟨.int .u64,n⟩:Lf ZCz)).map U.encL):Nat×List P)=_;rw[List.map_map];rfl)
  cases o with
  |int k m f g=>
   have u:IntKind.i64.min= -9223372036854775808:=by decide
   have s:IntKind.i64.max=9223372036854775807:=by decide
   rw[u]at f;rw[s]at g;have:=callsIn_wide (n:=0) |>.2 (Any.strconv_Itoa Tryz.laysItoa n f g w (ZIZ l));refine CallsIn.mono this ?_;rintro e v ⟨rfl,k,i,rfl⟩;have q:r=Lib.itoa n:=(Option.some.inj h).symm;refine⟨_,rfl, ?_, ?_⟩
   ·refine⟨⟨rfl,rfl⟩, ?_,fun b j=> ?_⟩
    ·show w.heap.size<=((w.drewN k).heap++i).size;rw[Array.size_append];exact Nat.le_add_right _ _
    ·show ((w.drewN k).heap++i)[b]? =_;exact Array.getElem?_append_left j
   ·rw[q];exact .str _ (Nat.le_trans (Lib.itoa_length_le n f g) (by decide))
theorem ZFe:Zeg X0.E 25 ZEo.sig:=Zj9.ok uok fun v r h=>⟨ZNT v.1 r h,Zdx rfl⟩
end Go.Proofs
