/- profile.tally over profile.texts. -/
import Derived.Test.YteopakpakelkoaaGreatDoorUpXVa
set_option linter.all false
namespace Go.Proofs
open Go.RowKit Go.Shelf Go.Maps
attribute [local go_sem] Oper.semAt_some
def numD {H:Type}:DataW H->Int
 | .lit (.int _ c)=>c
 |_=>0
def ZLT {H:Type} (D:DataW H) (x:Txt):DataW H:=D.put (.string x.1) (.lit (.int .i64 (wrap64 (numD (D.atKey (.string x.1) (.lit (.int .i64 0)))+1))))
def ZG8 {H:Type} (a:List Txt):DataW H:=a.foldl ZLT (.map [])
theorem ZMe {H:Type} (a:List Txt) (x:Txt):ZG8 (H:=H) (a++[x])=ZLT (ZG8 a) x:=by simp[ZG8]
theorem ZO6 (x:Txt):keyOf Tryz.prog 9 (Txt.val x)=some (.string x.1):=by have:=x.2;simp[keyOf,Tryz.underlying9,mapKey,Txt.val,maxLen,ByteArray.size,this]
set_option maxRecDepth 100000 in
set_option maxHeartbeats 2000000 in
theorem Tryz.tally_in {H:Type} (F:Fence) (n:Nat) (h3:F.fn 149) (h5:F.fn 200) (hro:F.round=none) (hn:3<=n) (lb:Array Value) (n₀ N:Nat) (xs:List Txt) (hN:N<=1099511627776) (w:World) (hn₀:n₀<=w.heap.size)
  (hseq:SeqStopsK F (n - 1) Tryz.prog 200 lb (fun x:Txt=> #[Txt.val x]) (Below n₀) (fun ys=>ys=xs) (fun _=>True) N w):
  CallsIn F n Tryz.prog 149 #[.func (.func 200) #[] lb] w fun e W'=>e= .returned (.map (some w.heap.size))/\W'.ownsMap Tryz.prog 9 (plainElem (H:=H) Tryz.prog 3) w.heap.size xs.length (ZG8 xs)/\Below w.heap.size w W':=by
 have h1:1<=n:=by omega
 have hmm:= @run_makeMap Tryz.prog;refine callsIn_of_wp_marks Tryz.func149 rfl h3 ?_ hro;simp only[Tryz.ntmps149,List.size_toArray,List.length_cons,List.length_nil,Nat.reduceAdd,Nat.reduceSub,Array.replicate_succ,Array.replicate_zero,List.push_toArray,List.append_toArray,List.nil_append,List.cons_append]
 gi_wp2
 have hm0:=World.ownsMap_made w Tryz.prog 9 (plainElem (H:=H) Tryz.prog 3);have bS:=Boxed.new (w.alloc (.map #[] 0)) 162 (.map (some w.heap.size));simp only[World.size_alloc]at bS;have hB0:Below w.heap.size w ((w.alloc (.map #[] 0)).alloc (.cells #[.map (some w.heap.size)] 162)):=((Below.refl _ w).alloc (Nat.le_refl _) _).alloc (by simp) _;refine wpIn_rangeFunc_ownG hro h1 (gf:=200) (lb:=lb) rfl h5 (enters_of Tryz.func200 (by kernel_rfl) rfl)
  hseq belowK_t (belowK_b (by simp;omega)) hB0 (fun _=>rfl)
  (fun pre W=>(W.cell? ⟨w.heap.size+1,0,none⟩=some (.map (some w.heap.size))/\W.ownsMap Tryz.prog 9 (plainElem (H:=H) Tryz.prog 3) w.heap.size pre.length (ZG8 pre))/\Below w.heap.size w W)
  (fun _ _ _=>False)
  (OwnFrom.and (fun s A B row hs hg hr=>⟨cell_kept hs.1 hg (fun r e=>(hr r e).2),hs.2.kept hg (fun e=>by have:=(hr _ e.symm).1;simp at this;omega)⟩) (ownFrom_below (Nat.le_refl _) (by simp;omega)))
  (fun _ _ _ _ _ hs _ _=>hs)
  ⟨⟨bS.cell,hm0.alloc _⟩,hB0⟩
  (fun x=>{tmps:= #[.func (.func 200) #[] lb,undef,.map none,.pointer (some ⟨w.heap.size+1,0,none⟩),Txt.val x,.map (some w.heap.size),.func (.func 200) #[] lb,Txt.val x,undef,undef,undef,undef,undef],defers:=[]}) ?assign ?body ?done ?stop
 case assign=>
  intro l x W K hK
  gi_wp2
  exact hK
 case body=>
  rintro l pre x W ⟨⟨hc,hown⟩,hB⟩ hlt;have hkey:=ZO6 x
  gi_wp2_with (first
   |(gi_at_lookup;refine wpListIn_lookup_own_int _ rfl _ _ 162 rfl 9 3 .i64 (Maps.string_keyed Tryz.underlying9) Tryz.underlying162 Tryz.underlying3 (Tryz.zeroValue3 _) w.heap.size pre.length _ rfl hown _ _ rfl hkey ?_;intro c hat hwc)
   |(gi_at_mapUpdate;refine wpListIn_mapUpdate_own _ rfl _ _ _ 162 rfl 9 3 (Maps.string_keyed Tryz.underlying9) Tryz.underlying162 _ w.heap.size pre.length _ rfl hown (by unfold maxLen;omega) _ _ _ rfl rfl hkey _ [] (plainElem_int Tryz.underlying3 (wrap64_wf _)) ?_;intro w1 hown1 hgrow1))
  obtain⟨es,ck,hh,_⟩:=hown;exact⟨KeepsFrom.of_grownBy hgrow1 (fun j e=>by cases e;simp;omega),(Below.refl _ W).grown hgrow1 (Nat.le_trans hn₀ hB.size) (fun k e=>by cases e;exact hn₀),
   ⟨cell_kept hc hgrow1 (fun r e=>by cases e;exact⟨_,hh,rfl⟩),by rw[ZMe,List.length_append,ZLT,hat];exact hown1⟩,hB.grown hgrow1 hB.size (fun k e=>by cases e;exact Nat.le_refl _)⟩
 case done=>
  rintro D ys W hD rfl ⟨⟨hc,hown⟩,hB⟩ hK
  gi_wp2
  refine⟨by simp,.inl ⟨_,_,rfl,run_takeDeferred hK, ?_⟩⟩;exact⟨_,results_tmp rfl _ _ _,rfl,hown.kept (grownBy_putObj' _ D _) (fun e=>by cases e;simp at hD;omega),hB.trans (belowK_b (w:=w) (Nat.le_refl _) W D _ _ (by simp at hD;omega) hK rfl rfl)⟩
 case stop=>
  rintro D c pre W _ _ h _;exact h.elim
end Go.Proofs
