/- profile.Values: the walk. -/
import Derived.Test.YteopakpakelkoaaGreatDoorUpXVb
import Derived.Test.YteopakpakelkoaaGreatDoorUpLaySim
import Derived.Test.YteopakpakelkoaaGreatDoorUpWD
import Derived.Sort.KeysCollected
import Derived.Maps.OwnSet
set_option linter.all false
namespace Go.Proofs
open Go.RowKit Go.Shelf Go.Maps Go.Sort
attribute [local go_sem] Oper.semAt_some
theorem ZIx {H:Type} (x:List UInt8):∀(a:List Txt) (D:DataW H),IsMap D->(has (a.foldl ZLT D) (.string x)=true<->has D (.string x)=true\/x∈a.map (·.1))
 | [],D,_=>by simp
 |y::a,D,hD=>by
  rw[List.foldl_cons,ZIx x a (ZLT D y) (hD.put _ _)]
  by_cases h:x=y.1
  ·subst h;have:has (ZLT D y) (.string y.1)=true:=has_put_same (k:= .string y.1) hD trivial _;simp[this]
  ·have:has (ZLT D y) (.string x)=has D (.string x):=has_put_other (fun e=>h (by simpa using e)) _;rw[this];simp[h]
theorem ZNI {H:Type} {P:Program} {k:TypeId} {R:Value->Option (DataW H×List MemPlace)} {w:World} {b n:Nat} {a:List Txt} (c:w.ownsMap P k R b n (ZG8 a)) (K:Keyed P k) (e:P.underlying k=some .string):(ZEf (a.map (·.1))).Perm (strKeys (ZG8 (H:=H) a)):=by refine Collected.perm (left:=fun _=>false) ⟨ZHk _,fun x=> ?_⟩ c K e (fun _=>rfl);rw[ZHO];have:=ZIx (H:=H) x a (.map []) isMap_empty;have d:has (DataW.map []:DataW H) (.string x)=false:=rfl;rw[d]at this;simp only[Bool.false_eq_true,false_or]at this;show _<->has (a.foldl ZLT (.map [])) (.string x)=true/\_;rw[this];simp
theorem Tryz.sortsA (m:Nat):AnyZ.SortsIn Tryz.prog Tryz.laysSorted_ren Fence.wide m:=
 ⟨fun d c a f W g b e=>callsIn_wide.2 (AnyM.slices_Sort_string Tryz.laysSort d c a f W g b e),
  fun p a W=>callsIn_wide.2 (AnyM.slices_Sort_string_none Tryz.laysSort p a W)⟩
set_option maxRecDepth 100000 in
set_option maxHeartbeats 2000000 in
theorem Tryz.Values_walk (nm:ByteArray) (a:Option Addr) (len cap:Nat) (zs:List (Bool×Txt)) (hreach:zs.length<=1099511627776) (w:World) (hI:ZLd w.heap.size w (.slice a len cap) zs):
  Calls Tryz.prog 109 #[.agg #[.string nm,.slice a len cap]] w fun e w'=>∃(v:Value) (ss:List (List UInt8)),e= .returned v/\ss=ZxF ((tx zs).map (·.1))/\Below w.heap.size w w'/\w'.ownsRow w.heap.size 9 1 v ss.length (ss.map encStr):=by
 refine(callsIn_wide (n:=8)).1 ?_;have cT:=fun W=>Tryz.texts_in Fence.wide 7 trivial rfl (.string nm) (.slice a len cap) rfl rfl W
 obtain⟨W2,hW2⟩:∃W2,(w.alloc (.cells #[.string nm,.slice a len cap] 37)).alloc (.cells #[.string nm,.slice a len cap] 37)=W2:=⟨_,rfl⟩;have hs2:W2.heap.size=w.heap.size+2:=by rw[<-hW2];simp
 have hB2:Below w.heap.size w W2:=by rw[<-hW2];exact((Below.refl _ w).alloc (Nat.le_refl _) _).alloc (by simp) _
 have hc2:W2.cell? ⟨w.heap.size+1,1,none⟩=some (.slice a len cap):=by
  have:W2.heap[w.heap.size+1]? =some (.cells #[.string nm,.slice a len cap] 37):=by
   rw[<-hW2];have:=World.alloc_heap_new (w.alloc (.cells #[.string nm,.slice a len cap] 37)) (.cells #[.string nm,.slice a len cap] 37)
   rwa [World.size_alloc]at this
  simp[World.cell?,this]
 have hst:=Tryz.texts_stops Fence.wide 6 trivial rfl (by omega) (w.heap.size+1) (w.heap.size+2) _ zs hreach W2 (by omega) (by omega) (by omega) hc2 ((hI.below hB2).mono (by omega));have cA:=Tryz.tally_in (H:=Unit) Fence.wide 7 trivial trivial rfl (by omega) _ (w.heap.size+2) zs.length (tx zs) hreach W2 (by omega) hst;rw[hs2]at cA;have cK:∀mb W,CallsIn Fence.wide 7 Tryz.prog 148 #[.map mb] W fun e w'=>e= .returned (.func (.func 199) #[] #[.pointer (some ⟨W.heap.size,0,none⟩)])/\w'=W.alloc (.cells #[.map mb] 162):=fun mb W=>AnyZ.keys_in Tryz.laysKeys Fence.wide 7 trivial rfl mb W
 have hf1:Fence.wide.fn 150:=trivial;have hf2:Fence.wide.fn 149:=trivial;have hf3:Fence.wide.fn 148:=trivial;have hf4:Fence.wide.fn 147:=trivial;refine callsIn_of_wp Tryz.func109 rfl trivial ?_ rfl;simp only[Tryz.ntmps109,List.size_toArray,List.length_cons,List.length_nil,Nat.reduceAdd,Nat.reduceSub,Array.replicate_succ,Array.replicate_zero,List.push_toArray,List.append_toArray,List.nil_append,List.cons_append]
 gi_wp2_with (gi_at_call 150;refine(cT _).mono ?_;rintro e w' ⟨rfl,rfl⟩)
 refine cA.mono ?_;rintro e W3 ⟨rfl,hown,hB3⟩;have hs3:=hB3.size;have hmx:=hown.size_le;have hlx:=ZRk zs;have hmax:Maps.size (ZG8 (H:=Unit) (tx zs))<=maxLen:=by unfold maxLen;omega
 have hbytes:Maps.size (ZG8 (H:=Unit) (tx zs))*16<=140737488355328:=by omega
 have hseq:SeqGives Fence.wide 4 Tryz.prog 199 #[.pointer (some ⟨W3.heap.size,0,none⟩)] encStr (fun ss=>ss.Perm (strKeys (ZG8 (H:=Unit) (tx zs)))) (Maps.size (ZG8 (H:=Unit) (tx zs))) (W3.alloc (.cells #[.map (some (w.heap.size+2))] 162)):=
  AnyZ.keys_gives (ρ:=Tryz.laysKeys_ren) {Tryz.laysKeys with} Fence.wide _ trivial rfl (by omega) W3.heap.size (w.heap.size+2) _ _ _ (by simp) (by simp) (hown.alloc _)
 have cS:=AnyZ.sorted_in Tryz.laysSorted Fence.wide 7 trivial trivial trivial trivial rfl (by omega) (Tryz.sortsA _) (enters_of Tryz.func157 (by kernel_rfl) rfl) 199 #[.pointer (some ⟨W3.heap.size,0,none⟩)] trivial (enters_of Tryz.func199 (by kernel_rfl) rfl) _ _ hmax hbytes _ hseq
 change CallsIn _ _ Tryz.prog 147 _ _ _ at cS
 have hperm:=ZNI hown (Maps.string_keyed Tryz.underlying9) Tryz.underlying9;have HA:Aside ((ZEf ((tx zs).map (·.1))).Perm (strKeys (ZG8 (H:=Unit) (tx zs)))):=hperm;clear hperm hmax hbytes hseq hown
 gi_wp2_with (first
  |(gi_at_call 148;refine(cK _ _).mono ?_;rintro e w' ⟨rfl,rfl⟩)
  |(gi_at_call 147;refine cS.mono ?_;rintro e w' ⟨v,ss,rfl,hS,hrow,hnil,hb⟩))
 go_ret
 have e1:(ss.mergeSort fun x y=>decide (x<=y))=ZxF ((tx zs).map (·.1)):=by have hp:=hS.trans HA.out.symm;exact ZNE (hp.nodup_iff.2 (ZHk _)) fun x=>by rw[hp.mem_iff,ZHO]
 have hlen:(ZxF ((tx zs).map (·.1))).length=ss.length:=by rw[<-e1];simp
 rw[e1]at hrow;refine⟨v,_,rfl,rfl,((hB2.trans (hB3.mono (by omega))).alloc (by omega) _).trans (hb.mono (by simp;omega)), ?_⟩;rw[hlen];exact ownsRow_base_a hrow (by simp;omega)
end Go.Proofs
