/- The law CorrelationParts: the end. -/
import Derived.Test.YtjdddnbddnhilaaDoorCpCF6
set_option linter.unusedVariables false
set_option linter.unusedSimpArgs false
set_option linter.unusedSectionVars false
namespace Go.Proofs
open Go Eng

theorem parts_loop {l : List (Int × Int)} (hl : Sml l) (turn : Int) : wp (sl25_CorrelationParts_l1 big turn ((l.map prP).length : Int) 0 (l.map prP) (moL [])) (fun x => x = (turn, l.map prP, moL l)) := by
  have hlen := hl.len
  refine forS_wp sl25_CorrelationParts_l1_FB (l.map prP) (by simp; omega) (fun k (m : GaMoments) => (turn, ((l.map prP).length : Int), k, l.map prP, m)) (fun k m => m = moL (l.take k)) (moL []) rfl (fun rec k m hlt hP ih => ?_) (fun rec m hP => ?_)
  · subst hP
    have hk : k < l.length := by simpa using hlt
    have hin := hl.in_ _ (List.getElem_mem hk)
    unfold sl25_CorrelationParts_l1_B sl25_CorrelationParts_l1_b
    dsimp only
    rw [wp_bif]
    refine ⟨fun _ => ?_, fun h => by simp only [decide_eq_false_iff_not] at h; omega⟩
    rw [wp_chk, wp_bind, wp_get]
    refine ⟨inR_nat hlt, by simpa using hk, ?_⟩
    simp only [Int.toNat_natCast]
    rw [wp_chk, wp_chk, wp_bind, List.getElem_map]
    refine ⟨by decide, by decide, ?_⟩
    show wp (s_correlation_Add (moL (l.take k)) (fr l[k].1 12) (fr l[k].2 12)) _
    rw [cadd_eq (hl.take k) hin.1 hin.2, wp_some, wp_chk]
    exact ⟨inK_i64 (by omega), ih _ (by rw [List.take_succ_eq_append_getElem hk])⟩
  · subst hP
    rw [List.length_map, List.take_length]
    unfold sl25_CorrelationParts_l1_B sl25_CorrelationParts_l1_b
    dsimp only
    rw [wp_bif]
    exact ⟨fun h => by simp only [decide_eq_true_eq] at h; omega, fun _ => by rw [wp_some]⟩

theorem correlationParts_law (t : List Int) (turn : Int) : sl25_CorrelationParts t turn = some true := by
  refine eq_of_wp ?_
  unfold sl25_CorrelationParts sk_Light
  rw [wp_bind, wp_some, wp_bif]
  refine ⟨fun _ => by rw [awake25, wp_bind, wp_some, wp_some], fun hl => ?_⟩
  simp only [Bool.not_eq_false', decide_eq_true_eq] at hl
  unfold sk_Roll
  rw [wp_bind, wp_some, wp_bind]
  refine wp_mono (pairs_wp (d := ⟨t, 0⟩) ⟨by simp, by simp, by simp only; omega⟩) ?_
  rintro ⟨l', d'⟩ ⟨l, hll, hs⟩
  dsimp only at hll ⊢
  subst hll
  have hlen := hs.len
  have h0 : s_correlation_Of [] = some (moL []) := of_eq (l := []) ⟨by simp, by simp⟩
  rw [h0, wp_bind, wp_some, wp_bind]
  refine wp_mono (parts_loop hs turn) ?_
  rintro x rfl
  dsimp only
  unfold sl25_CorrelationParts_k1
  have hml : ((l.map prP).length : Int) = (l.length : Int) := by rw [List.length_map]
  rw [hml, wp_chk, wp_bind]
  refine ⟨inK_i64 (by omega), wp_mono (mod_wp turn (by omega)) fun k hk => ?_⟩
  have e : ((l.map prP).drop k.toNat).take ((l.length : Int).toNat - k.toNat) ++ ((l.map prP).drop 0).take (k.toNat - 0) = (l.drop k.toNat ++ l.take k.toNat).map prP := by
    rw [List.map_append, List.map_drop, List.map_take, List.drop_zero, Nat.sub_zero, List.take_of_length_le (by simp)]
  have hs2 : Sml (l.drop k.toNat ++ l.take k.toNat) := ⟨by simp; omega, fun p hp => by
    rcases List.mem_append.1 hp with hp | hp
    · exact hs.in_ p (List.mem_of_mem_drop hp)
    · exact hs.in_ p (List.mem_of_mem_take hp)⟩
  rw [wp_chk, wp_chk, wp_chk, wp_chk, e, of_eq hs2, moL_turn, wp_bind, wp_some, of_eq hs, wp_bind, wp_some, sameMo, wp_bind, wp_some, cond_true, wp_bind, wp_some, cond_true]
  refine ⟨within_ok (by omega), room_ok ?_, within_ok (by omega), room_ok ?_, ?_⟩
  · simp only [List.length_take, List.length_drop, List.length_map]; omega
  · simp only [List.length_take, List.length_drop, List.length_map]; omega
  · have hn : (moL l).N = (l.length : Int) := rfl
    rw [hn, beq_self_eq_true, cond_true, awake25, wp_bind, wp_some]
    unfold sl25_CorrelationParts_j2
    rw [wp_some]
end Go.Proofs
