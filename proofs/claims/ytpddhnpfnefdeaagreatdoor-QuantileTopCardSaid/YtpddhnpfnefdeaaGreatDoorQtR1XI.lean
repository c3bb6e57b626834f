/- Contracts off the shelf: strings.Trim, TrimLeft, TrimRight at an ASCII set, stringslite.IndexByte, bits.Add64. -/
import Derived.Test.YtpddhnpfnefdeaaGreatDoorQtU
import Derived.Test.YtpddhnpfnefdeaaGreatDoorItoa
import Derived.Laws.Externs
set_option linter.all false
namespace Go.Proofs
open Go Eng Go.RowKit
theorem ZIp {l:List UInt8} (h:(l.all fun b=>decide (b.toNat < 128))=true):∀(j:Nat) b,l[j]? =some b->b.toNat < 128:=
 fun _ b a=>of_decide_eq_true (List.all_eq_true.1 h b (List.mem_of_getElem? a))
theorem ZLy {w a:World} (h:Below w.heap.size w a):Eng.Zi2 w a:=⟨⟨h.os,h.output⟩,h.size,h.block⟩
theorem ZHY (s c:List UInt8):(Lib.trimLeftS s c).length<=s.length/\(Lib.trimRightS s c).length<=s.length/\(Lib.trimS s c).length<=s.length:=by
 have b:∀s:List UInt8,(Lib.trimLeftS s c).length<=s.length:=fun s=>(List.dropWhile_sublist _).length_le
 have a:(Lib.trimRightS s c).length<=s.length:=by unfold Lib.trimRightS;rw[List.length_reverse];exact Nat.le_trans (List.dropWhile_sublist _).length_le (by rw[List.length_reverse];exact Nat.le_refl _)
 exact⟨b s,a,Nat.le_trans (b _) a⟩
theorem ZJ9 {f:Nat} {g:Str->Str->Str} (hf:∃fn,X0.E.prog.funcs[f]? =some fn/\(fn.name == "runtime.NumGoroutine")=false/\fn.body.isNone=false) (hl:∀s c,(g s c).length<=s.length)
  (h:∀(s c:Str) (w:World),s.length<=9223372036854775807->c.length < 4294967281->(c.all fun b=>decide (b.toNat < 128))=true->
   Calls Tryz.prog f #[.string ⟨s.toArray⟩,.string ⟨c.toArray⟩] w fun e w'=>e= .returned (.string ⟨(g s c).toArray⟩)/\Below w.heap.size w w')
  (s c r:Str) (hr:(chk (c.all fun b=>decide (b.toNat < 128)) <| chk (decide (c.length < 4294967281)) <| some (g s c))=some r):Fun X0.E f (([.str s,.str c]:List P).map Arg.p) ⟨[.p (.str r)],[]⟩:=by
 obtain⟨ha,hr⟩:=Zo hr;obtain⟨hc,hr⟩:=Zo hr;simp only[decide_eq_true_eq]at hc;refine Zk7 hf fun w S vals hv hrel hglob=> ?_
 obtain⟨vl⟩:=vals
 match vl,hv with
 | [v0,v1],_=>
  have h0:=hrel 0 v0 _ rfl rfl;have h1:=hrel 1 v1 _ rfl rfl;cases h0 with
  |str l hs=>
   cases h1 with
   |str l2 hs2=>
    have:=callsIn_wide (n:=0) |>.2 (h s c w hs hc ha);refine CallsIn.mono this ?_;rintro e w' ⟨rfl,hb⟩;refine⟨_,rfl,ZLy hb, ?_⟩;obtain rfl:g s c=r:=Option.some.inj hr;exact .str _ (Nat.le_trans (hl s c) hs)
theorem ZFd:Zeg X0.E 208 ZEn.sig:=Zj9.ok uok fun v r h=>⟨ZJ9 ⟨Tryz.f208,by kernel_rfl,by decide,by kernel_rfl⟩ (fun s c=>(ZHY s c).2.2) (fun s c w d b a=>Any.strings_Trim_laid Tryz.laysTrim (by kernel_rfl) ⟨s.toArray⟩ ⟨c.toArray⟩ w (by simpa[ByteArray.size]using d) (by simpa[ByteArray.size]using b) (ZIp a)) v.1 v.2.1 r h,Zdx rfl⟩
theorem ZFZ:Zeg X0.E 216 ZEx.sig:=Zj9.ok uok fun v r h=>⟨ZJ9 ⟨Tryz.f216,by kernel_rfl,by decide,by kernel_rfl⟩ (fun s c=>(ZHY s c).1) (fun s c w d b a=>Any.strings_TrimLeft_laid Tryz.laysTrimL (by kernel_rfl) ⟨s.toArray⟩ ⟨c.toArray⟩ w (by simpa[ByteArray.size]using b) (ZIp a)) v.1 v.2.1 r h,Zdx rfl⟩
theorem ZFP:Zeg X0.E 217 ZEb.sig:=Zj9.ok uok fun v r h=>⟨ZJ9 ⟨Tryz.f217,by kernel_rfl,by decide,by kernel_rfl⟩ (fun s c=>(ZHY s c).2.1) (fun s c w d b a=>Any.strings_TrimRight_laid Tryz.laysTrimR (by kernel_rfl) ⟨s.toArray⟩ ⟨c.toArray⟩ w (by simpa[ByteArray.size]using d) (by simpa[ByteArray.size]using b) (ZIp a)) v.1 v.2.1 r h,Zdx rfl⟩
theorem ZGn:∀(s:List UInt8) (c:UInt8), -1<=Lib.indexByte s c/\Lib.indexByte s c<=s.length
 | [],c=>by unfold Lib.indexByte;constructor<;>simp
 |b::s,c=>by
  have a:=ZGn s c;unfold Lib.indexByte;simp only[List.length_cons]
  repeat' split
  all_goals omega
theorem ZMw (s:Str) (c r:Int) (h:Zrz s c=some r):Fun X0.E 270 (([.str s,.int .u8 c]:List P).map Arg.p) ⟨[.p (.int .i64 r)],[]⟩:=by
 refine Zk7 ⟨Tryz.f270,by kernel_rfl,by decide,by kernel_rfl⟩ fun w S b g a d=> ?_
 obtain⟨o⟩:=b
 match o,g with
 | [v0,v1],_=>
  have f:=a 0 v0 _ rfl rfl;have i:=a 1 v1 _ rfl rfl;cases f with
  |str l j=>
   cases i with
   |int k m p q=>
    have:=callsIn_wide (n:=0) |>.2 (Any.stringslite_IndexByte Tryz.laysIdx ⟨s.toArray⟩ c w);refine CallsIn.mono this ?_;rintro e u ⟨rfl,rfl⟩;obtain rfl:Lib.indexByte s c.toNat.toUInt8=r:=Option.some.inj h;have t:=ZGn s c.toNat.toUInt8;refine⟨_,rfl,⟨⟨rfl,rfl⟩,Nat.le_refl _,fun _ _=>rfl⟩,.int .i64 _ ?_ ?_⟩
    ·rw[show IntKind.i64.min= -9223372036854775808 from by decide];show _<=Lib.indexByte s c.toNat.toUInt8;omega
    ·rw[show IntKind.i64.max=9223372036854775807 from by decide];show Lib.indexByte s c.toNat.toUInt8<=_;have:s.length<=9223372036854775807:=j;omega
theorem ZCy:Zeg X0.E 270 Zyu.sig:=Zj9.ok uok fun v r h=>⟨ZMw v.1 v.2.1 r h,Zdx rfl⟩
theorem ZMO (x y c:Int) (r:Int×Int) (h:ZDL x y c=some r):Fun X0.E 40 (([.int .u64 x,.int .u64 y,.int .u64 c]:List P).map Arg.p) ⟨[.p (.int .u64 r.1),.p (.int .u64 r.2)],[]⟩:=by
 obtain⟨d,h⟩:=Zo h;simp only[decide_eq_true_eq]at d;obtain rfl:=Option.some.inj h;refine ZlS ⟨Tryz.f40,by kernel_rfl,by kernel_rfl⟩ fun w S b p a=> ?_
 obtain⟨u⟩:=b
 match u,p with
 | [v0,v1,v2],_=>
  have t:=a 0 v0 _ rfl rfl;have s:=a 1 v1 _ rfl rfl;have q:=a 2 v2 _ rfl rfl;have i:IntKind.u64.min=0:=by decide
  have g:IntKind.u64.max=18446744073709551615:=by decide
  cases t with
  |int k m j o=>
   cases s with
   |int k m l n=>
    cases q with
    |int k m z v=>
     rw[i]at j l;rw[g]at o n;have:=run_callFunc_extern (f:=40) Tryz.func40 (by kernel_rfl) (by kernel_rfl) (by kernel_rfl) (e:=add64Entry) (by kernel_rfl) #[.int .u64 x,.int .u64 y,.int .u64 c] w;refine⟨.int .u64 ((x+y+c) % 18446744073709551616),.int .u64 ((x+y+c) / 18446744073709551616), ?_, ?_, ?_⟩
     ·refine this.trans ?_;rw[run_add64 x y c j l d.1 d.2];rfl
     ·refine .int _ _ ?_ ?_
      ·rw[i];omega
      ·rw[g];omega
     ·refine .int _ _ ?_ ?_
      ·rw[i];omega
      ·rw[g];omega
theorem ZF7:Zeg X0.E 40 ZFf.sig:=Zj9.ok uok fun v r h=>⟨ZMO v.1 v.2.1 v.2.2.1 r h,Zdx rfl⟩
end Go.Proofs
