/- similarity.Words: the walk. -/
import Derived.Test.YteopakpakelkoaaGreatDoorUpXWc
import Derived.Test.YteopakpakelkoaaGreatDoorUpXWb
import Derived.OwnWalk
import Derived.Maps.AppendAt
set_option linter.all false
open Array renaming getElem?_eq_some_iff->ZVx
namespace Go.Proofs
open Go Go.RowKit Go.Sort Go.Lib
theorem Tryz.infoStr:(Tryz.prog.info? 9).map (fun i=>(i.zero,i.size,i.bytes))=some (some (.string ByteArray.empty),1,16):=by kernel_rfl
set_option maxHeartbeats 4000000 in
set_option maxRecDepth 1000000 in
theorem Tryz.Words_walk (s:ByteArray) (w:World) (hs:s.size<=1099511627776):
  Calls Tryz.prog 110 #[.string s] w fun e w'=>∃v,e= .returned v/\Below w.heap.size w w'/\
   w'.ownsRow w.heap.size 9 1 v (ZxF (ZGh (s++⟨#[32]⟩).data.toList [])).length ((ZxF (ZGh (s++⟨#[32]⟩).data.toList [])).map encStr):=by
 obtain⟨i0,hi,hz0,hz1,hz2⟩:=info_parts Tryz.infoStr;have hsz:(s++⟨#[32]⟩:ByteArray).size=s.size+1:=by rw[ByteArray.size_append];rfl
 go_enter Tryz.func110,Tryz.ntmps110
 go_wp2
 generalize hL:(s++{data:= #[32]}:ByteArray)=L at hsz|-
 go_loopw [3] (fun lv0 wr=>∃(lv:Value) (pos:Nat) (ws:List (List UInt8)) (cur:List UInt8),lv=lv0/\IsBuilderF 168 5 w.heap.size w.heap.size (byteCells cur) wr/\wr.heap[w.heap.size+1]? =some (.stringIter L pos)/\Below w.heap.size w wr/\
   wr.ownsRow w.heap.size 9 1 lv ws.length (ws.map encStr)/\ws++ZGh (L.data.toList.drop pos) cur=ZGh L.data.toList []/\cur.length<=pos/\ws.length<=pos/\pos<=L.size) (fun _ wr=>L.size - wr.iterPos (w.heap.size+1))
 case atStart=>
  refine⟨_,0,[],[],rfl,(IsBuilderF.of (fresh_isBuilder 168 5 w)).alloc _, ?_,((Below.refl _ w).alloc (Nat.le_refl _) _).alloc (by simp) _,World.ownsRow_nil _ _ _ _,rfl,by simp,by simp,by omega⟩;have:=World.iter_heap (w.alloc (.cells #[.pointer none,.slice none 0 0] 168)) L 0;simpa using this
 case round=>
  obtain⟨lv,pos,ws,cur,rfl,hI,hit,hbw,hrow,hacc,hcl,hwl,hpl⟩:=hrel;have hszw:w.heap.size+1 < wr.heap.size:=(ZVx.1 hit).1
  by_cases hp:pos < L.size
  ·have hnx:∀ty,(Instr.next (.pointer (some ⟨w.heap.size+1,0,none⟩)) true ty).run Tryz.prog wr=_:=fun ty=>run_next_any_at wr (w.heap.size+1) L pos ty hit hp
   obtain⟨hword,hnone,hwd1,hwd2⟩:=ZOK L pos hp cur;have hd1:=decode_le L pos;have hI2:=hI.iterAt hit (pos+(Utf8.decode L pos).2);have hit2:=iterAt_heap wr (w.heap.size+1) L pos (pos+(Utf8.decode L pos).2) hit;have hbw2:=below_iterAt hbw (k:=w.heap.size+1) (by omega) L (pos+(Utf8.decode L pos).2);have hsz2:w.heap.size<=(wr.iterAt (w.heap.size+1) L (pos+(Utf8.decode L pos).2)).heap.size:=by rw[iterAt_size];omega
   have hrow2:(wr.iterAt (w.heap.size+1) L (pos+(Utf8.decode L pos).2)).ownsRow w.heap.size 9 1 lv ws.length (ws.map encStr):=ZI5 hrow fun g hg=>iterAt_other _ _ _ _ _ fun e=>ZKP hrow hit (fun c fz h=>by cases h) (by rw[<-e,hg])
   generalize wr.iterAt (w.heap.size+1) L (pos+(Utf8.decode L pos).2)=W0 at hI2 hit2 hbw2 hsz2 hrow2 hnx;generalize (Utf8.decode L pos).1=r at hword hnone hnx hd1;generalize (Utf8.decode L pos).2=wd at hword hnone hnx hit2 hwd1 hwd2
   go_wp2_with (go_at_call 151;refine(Tryz.belongs_walk _ hd1 _).mono ?_)
   rintro e W1 ⟨rfl,rfl⟩;obtain⟨bp,bv,hbh⟩:=ZI8 hI2;cases hw:ZGL r with
   |true=>
    obtain⟨h1,hlow,hgo⟩:=hword hw;subst h1
    go_wp2_with (go_at_call 153;refine(Tryz.lower_walk r hd1 _).mono ?_)
    rintro e W2 ⟨rfl,rfl⟩
    go_wp2_with (go_at_call 152;refine(Tryz.rune_k w.heap.size cur (ZO3 r) hlow _ hI2 (by omega) hsz2).mono ?_)
    rintro e W2 ⟨⟨tv,rfl⟩,h1,b1,k1⟩
    go_wp2
    go_roundw
    case rel=>
     exact⟨lv,pos+1,ws,cur++[(ZO3 r).toUInt8],rfl,h1,k1.iter hit2 (by omega),hbw2.trans b1,ZH0 hrow2 hbh (by decide) (by decide) k1,by rw[<-hacc,hgo],by simp;omega,by omega,hwd2⟩
    case measure=>
     simp only[World.iterPos,k1.iter hit2 (by omega),hit];omega
   |false=>
    have hgo:=hnone hw
    go_wp2_with (go_at_call 154;refine(Tryz.len_k w.heap.size cur _ hI2).mono ?_)
    rintro e W2 ⟨rfl,rfl⟩;cases hcur:cur with
    |nil=>
     subst hcur
     go_wp2
     go_roundw
     case rel=>
      exact⟨lv,pos+wd,ws,[],rfl,hI2,hit2,hbw2,hrow2,by rw[<-hacc,hgo];rfl,by simp,by omega,hwd2⟩
     case measure=>
      simp only[World.iterPos,hit2,hit];omega
    |cons c0 cr=>
     have hpos:0 < ((c0::cr).length:Int):=by simp only[List.length_cons];omega
     rw[<-hcur]at hpos|-
     have hgo2:ZGh (L.data.toList.drop pos) cur=cur::ZGh (L.data.toList.drop (pos+wd)) []:=by rw[hgo,hcur];rfl
     clear hcur hgo
     go_wp2_with (go_at_call 155;refine(Tryz.str_k w.heap.size cur _ hI2 hsz2).mono ?_)
     rintro e W3 ⟨rfl,h3,b3,k3⟩;have hit3:=k3.iter hit2 (by omega);have hrow3:=ZH0 hrow2 hbh (by decide) (by decide) k3;obtain⟨bp3,bv3,hbh3⟩:=ZI8 h3;have hlt3:w.heap.size+1 < W3.heap.size:=(ZVx.1 hit3).1;have hne3:=ZKP hrow3 hbh3 (fun c fz h=>by simp at h);have hne3':=ZKP hrow3 hit3 (fun c fz h=>by cases h)
     go_wp2_with (at_builtin;refine wpList_append_own _ rfl _ _ 95 rfl w.heap.size 9 i0 (.string ByteArray.empty) 1 16 Tryz.underlying95 hi hz0 hz1 hz2 rfl (by decide) lv ws.length (ws.map encStr) rfl (hrow3.alloc _) ⟨W3.heap.size,0,none⟩ 1 1 [encStr cur] rfl rfl (cell_one_new _ _ _) (fun u hu=>by simp at hu;subst hu;rfl) (by unfold maxLen;omega) (by omega) (by simp;omega) ?_)
     intro v' W4 hown' hgrow4 _;have hbh4:W4.heap[w.heap.size]? =some (.cells #[bp3,bv3] 168 (0,0)):=by rw[hgrow4.block _ (by simp;omega) hne3,alloc_old _ _ _ (by omega)];exact hbh3
     have hit4:W4.heap[w.heap.size+1]? =some (.stringIter L (pos+wd)):=by rw[hgrow4.block _ (by simp;omega) hne3',alloc_old _ _ _ (by omega)];exact hit3
     have hne4:=ZKP hown' hbh4 (fun c fz h=>by simp at h);have hbw4:Below w.heap.size w W4:=((hbw2.trans b3).alloc (by omega) _).grown hgrow4 (by simp;omega) (fun k hk=>(hrow3.lt k hk).1)
     go_wp2_with (go_at_call 156;refine(Tryz.reset_k w.heap.size bp3 bv3 W4 hbh4).mono ?_)
     rintro e W5 ⟨rfl,h5,b5,k5,s5⟩
     go_wp2
     go_roundw
     case rel=>
      refine⟨v',pos+wd,ws++[cur],[],rfl,h5,(k5 _ (by omega)).trans hit4,hbw4.trans b5, ?_,by rw[List.append_assoc,List.singleton_append,<-hgo2,hacc],by simp,by simp;omega,hwd2⟩;have:=ZI5 hown' (fun g hg=>k5 g fun e=>hne4 (by rw[<-e,hg]));simpa using this
     case measure=>
      simp only[World.iterPos,(k5 (w.heap.size+1) (by omega)).trans hit4,hit];omega
  ·have hnx:∀ty,(Instr.next (.pointer (some ⟨w.heap.size+1,0,none⟩)) true ty).run Tryz.prog wr=_:=fun ty=>run_next_end_at wr (w.heap.size+1) L pos ty hit hp
   have hlen:ws.length < 4611686018427387904:=by omega
   rcases hrow.2 with ⟨rfl,h0⟩ |⟨g,cap,cc,rfl,hbg,hg,hn,hc,hs',ht⟩
   ·have:ws=[]:=List.eq_nil_of_length_eq_zero h0
    go_wp2_with (first
     |(go_at_call 157;refine(Tryz.sort_none _ _ _).mono ?_;rintro e W1 ⟨rfl,rfl⟩)
     |(go_at_call 158;refine(Tryz.cut_none _ _ _).mono ?_;rintro e W2 ⟨rfl,rfl⟩))
    go_ret
    have hws:ws=ZGh L.data.toList []:=by rw[<-hacc,List.drop_of_length_le (by rw[Array.length_toList];show L.size<=pos;omega),ZGh,List.append_nil]
    rw[hL,<-hws,this];have:ZxF []=[]:=by kernel_rfl
    rw[this];exact⟨_,rfl,hbw,World.ownsRow_nil _ _ _ _⟩
   ·have hgl:g < wr.heap.size:=(ZVx.1 hg).1;have hH:Holds encStr wr g 0 ws.toArray:=holds_of_block hg (by simpa using ht)
    go_wp2_with (go_at_call 157;refine(Tryz.sort_k g 0 cap ws wr hH hgl hlen).mono ?_)
    rintro e W1 ⟨rfl,q1,os1,hW1⟩;have hsl:(ws.mergeSort fun x y=>decide (x<=y)).length=ws.length:=by simp
    have hg1:W1.heap[g]? =some (.cells (putCells encStr 0 (ws.mergeSort fun x y=>decide (x<=y)).toArray cc) 9 (0,0)):=by rw[hW1];exact heap_sorted _ hg
    have hbw1:Below w.heap.size w W1:=by rw[hW1];exact hbw.grown (grownBy_sorted _) (by omega) (fun k hk=>by cases hk;exact hbg)
    have hH1:Holds encStr W1 g 0 (ws.mergeSort fun x y=>decide (x<=y)).toArray:=by
     rw[hW1];have:=ownsRow_sorted (n:=q1) (os:=os1) hsl hbg hg hn hc hs';rcases this.2 with ⟨h,_⟩ |⟨g',cap',cur',he,_,hg',_,_,_,ht'⟩
     ·cases h
     ·cases he;exact holds_of_block hg' (by rw[hsl];simpa using ht')
    clear hW1;have hcut:=Tryz.cut_k g 0 cap (ws.mergeSort fun x y=>decide (x<=y)).toArray W1 hH1 (by simp;unfold maxLen at hc;omega) (by simpa using hn);rw[ZNx]at hcut;rw[show (ws.mergeSort fun x y=>decide (x<=y)).toArray.size=ws.length by simp]at hcut
    go_wp2_with (go_at_call 158;refine hcut.mono ?_)
    rintro e W2 ⟨rfl,q2,rfl⟩
    go_wp2
    go_ret
    have hxl:(ZxF ws).length<=ws.length:=by have h1:=ZNx ws;rw[<-h1];unfold compactUpTo;rw[List.length_map];exact Nat.le_trans (List.length_filter_le _ _) (by simp)
    obtain⟨r1,r2⟩:=ZMq (q:=q2) (ts:=ZxF ws) (rest:=List.replicate (ws.length - (ZxF ws).length) []) hbg hg1 (by rw[List.length_replicate];omega) hc (by simp[putCells,hs']);have hs1:=hbw1.size;have hws:ws=ZGh L.data.toList []:=by rw[<-hacc,List.drop_of_length_le (by rw[Array.length_toList];show L.size<=pos;omega),ZGh,List.append_nil]
    rw[hL,<-hws];exact⟨_,rfl,hbw1.grown r2 hs1 (fun k hk=>by cases hk;exact hbg),r1⟩
end Go.Proofs
