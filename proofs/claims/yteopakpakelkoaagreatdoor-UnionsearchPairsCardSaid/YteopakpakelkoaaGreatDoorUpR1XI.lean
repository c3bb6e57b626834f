/- Contracts off the shelf: strings.Trim, TrimLeft, TrimRight at an ASCII set, stringslite.IndexByte, bits.Add64. -/
import Derived.Test.YteopakpakelkoaaGreatDoorUpU
import Derived.Test.YteopakpakelkoaaGreatDoorItoa
import Derived.Laws.Externs
set_option linter.all false
namespace Go.Proofs
open Go Eng Go.RowKit
theorem ZJ3 {l:List UInt8} (h:(l.all fun b=>decide (b.toNat < 128))=true):∀(j:Nat) b,l[j]? =some b->b.toNat < 128:=
 fun _ b a=>of_decide_eq_true (List.all_eq_true.1 h b (List.mem_of_getElem? a))
theorem ZN2 {w a:World} (h:Below w.heap.size w a):Eng.ZjF w a:=⟨⟨h.os,h.output⟩,h.size,h.block⟩
theorem ZJz (s c:List UInt8):(Lib.trimLeftS s c).length<=s.length/\(Lib.trimRightS s c).length<=s.length/\(Lib.trimS s c).length<=s.length:=by
 have a:∀s:List UInt8,(Lib.trimLeftS s c).length<=s.length:=fun s=>(List.dropWhile_sublist _).length_le
 have b:(Lib.trimRightS s c).length<=s.length:=by unfold Lib.trimRightS;rw[List.length_reverse];exact Nat.le_trans (List.dropWhile_sublist _).length_le (by rw[List.length_reverse];exact Nat.le_refl _)
 exact⟨a s,b,Nat.le_trans (a _) b⟩
theorem ZMh {f:Nat} {g:Str->Str->Str} (hf:∃fn,X0.E.prog.funcs[f]? =some fn/\(fn.name == "runtime.NumGoroutine")=false/\fn.body.isNone=false) (hl:∀s c,(g s c).length<=s.length)
  (h:∀(s c:Str) (w:World),s.length<=9223372036854775807->c.length < 4294967281->(c.all fun b=>decide (b.toNat < 128))=true->
   Calls Tryz.prog f #[.string ⟨s.toArray⟩,.string ⟨c.toArray⟩] w fun e w'=>e= .returned (.string ⟨(g s c).toArray⟩)/\Below w.heap.size w w')
  (s c r:Str) (hr:(chk (c.all fun b=>decide (b.toNat < 128)) <| chk (decide (c.length < 4294967281)) <| some (g s c))=some r):Fun X0.E f (([.str s,.str c]:List P).map Arg.p) ⟨[.p (.str r)],[]⟩:=by
 obtain⟨ha,hr⟩:=Zi hr;obtain⟨hc,hr⟩:=Zi hr;simp only[decide_eq_true_eq]at hc;refine Zl5 hf fun w S vals hv hrel hglob=> ?_
 obtain⟨vl⟩:=vals
 match vl,hv with
 | [v0,v1],_=>
  have h0:=hrel 0 v0 _ rfl rfl;have h1:=hrel 1 v1 _ rfl rfl;cases h0 with
  |str l hs=>
   cases h1 with
   |str l2 hs2=>
    have:=callsIn_wide (n:=0) |>.2 (h s c w hs hc ha);refine CallsIn.mono this ?_;rintro e w' ⟨rfl,hb⟩;refine⟨_,rfl,ZN2 hb, ?_⟩;obtain rfl:g s c=r:=Option.some.inj hr;exact .str _ (Nat.le_trans (hl s c) hs)
theorem ZF3:Zez X0.E 274 ZFj.sig:=ZkU.ok uok fun v r h=>⟨ZMh ⟨Tryz.f274,by kernel_rfl,by decide,by kernel_rfl⟩ (fun s c=>(ZJz s c).2.2) (fun s c w a b d=>Any.strings_Trim_laid Tryz.laysTrim (by kernel_rfl) ⟨s.toArray⟩ ⟨c.toArray⟩ w (by simpa[ByteArray.size]using a) (by simpa[ByteArray.size]using b) (ZJ3 d)) v.1 v.2.1 r h,ZdP rfl⟩
theorem ZG6:Zez X0.E 282 ZFp.sig:=ZkU.ok uok fun v r h=>⟨ZMh ⟨Tryz.f282,by kernel_rfl,by decide,by kernel_rfl⟩ (fun s c=>(ZJz s c).1) (fun s c w d a b=>Any.strings_TrimLeft_laid Tryz.laysTrimL (by kernel_rfl) ⟨s.toArray⟩ ⟨c.toArray⟩ w (by simpa[ByteArray.size]using a) (ZJ3 b)) v.1 v.2.1 r h,ZdP rfl⟩
theorem ZGU:Zez X0.E 283 ZE4.sig:=ZkU.ok uok fun v r h=>⟨ZMh ⟨Tryz.f283,by kernel_rfl,by decide,by kernel_rfl⟩ (fun s c=>(ZJz s c).2.1) (fun s c w a b d=>Any.strings_TrimRight_laid Tryz.laysTrimR (by kernel_rfl) ⟨s.toArray⟩ ⟨c.toArray⟩ w (by simpa[ByteArray.size]using a) (by simpa[ByteArray.size]using b) (ZJ3 d)) v.1 v.2.1 r h,ZdP rfl⟩
theorem ZHC:∀(s:List UInt8) (c:UInt8), -1<=Lib.indexByte s c/\Lib.indexByte s c<=s.length
 | [],c=>by unfold Lib.indexByte;constructor<;>simp
 |b::s,c=>by
  have a:=ZHC s c;unfold Lib.indexByte;simp only[List.length_cons]
  repeat' split
  all_goals omega
theorem ZO8 (s:Str) (c r:Int) (h:Zrb s c=some r):Fun X0.E 329 (([.str s,.int .u8 c]:List P).map Arg.p) ⟨[.p (.int .i64 r)],[]⟩:=by
 refine Zl5 ⟨Tryz.f329,by kernel_rfl,by decide,by kernel_rfl⟩ fun w S b j a d=> ?_
 obtain⟨i⟩:=b
 match i,j with
 | [v0,v1],_=>
  have o:=a 0 v0 _ rfl rfl;have f:=a 1 v1 _ rfl rfl;cases o with
  |str l g=>
   cases f with
   |int k m u t=>
    have:=callsIn_wide (n:=0) |>.2 (Any.stringslite_IndexByte Tryz.laysIdx ⟨s.toArray⟩ c w);refine CallsIn.mono this ?_;rintro e p ⟨rfl,rfl⟩;obtain rfl:Lib.indexByte s c.toNat.toUInt8=r:=Option.some.inj h;have q:=ZHC s c.toNat.toUInt8;refine⟨_,rfl,⟨⟨rfl,rfl⟩,Nat.le_refl _,fun _ _=>rfl⟩,.int .i64 _ ?_ ?_⟩
    ·rw[show IntKind.i64.min= -9223372036854775808 from by decide];show _<=Lib.indexByte s c.toNat.toUInt8;omega
    ·rw[show IntKind.i64.max=9223372036854775807 from by decide];show Lib.indexByte s c.toNat.toUInt8<=_;have:s.length<=9223372036854775807:=g;omega
theorem ZC6:Zez X0.E 329 ZyN.sig:=ZkU.ok uok fun v r h=>⟨ZO8 v.1 v.2.1 r h,ZdP rfl⟩
end Go.Proofs
