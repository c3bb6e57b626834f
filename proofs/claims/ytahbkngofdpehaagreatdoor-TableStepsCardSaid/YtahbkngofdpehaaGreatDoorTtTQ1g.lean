/- A text behind quotes: what strconv's AppendBool and AppendQuote add to a row's key. -/
import Derived.Test.YtahbkngofdpehaaGreatDoorTtTP2g
set_option linter.unusedVariables false
set_option linter.unusedSimpArgs false
set_option linter.unusedSectionVars false
namespace Go.Proofs
open Go Eng

def bI (s : Str) : List Int := s.map fun b => ((b.toNat : Nat) : Int)
def quoteI (s : Str) : List Int := 34 :: bI s ++ [34]
def boolI (b : Bool) : List Int := bif b then [116, 114, 117, 101] else [102, 97, 108, 115, 101]

/-- Letters that stand for themselves. -/
def asc : List Int := (List.range 95).filterMap fun (n : Nat) => if n = 2 ∨ n = 60 then none else some ((n : Int) + 32)
theorem asc_all : (asc.map fun (r : Int) => fun buf : List Int => s_strconv_appendEscapedRune buf r 34 false false) = asc.map fun r => fun buf => (chk (room (buf.length + ([r] : List Int).length) 1) (some (buf ++ [r]))).bind fun q => some q := by kernel_rfl
theorem mem_map_eq {α β : Type} {l : List α} {f g : α → β} (h : l.map f = l.map g) {x : α} (hx : x ∈ l) : f x = g x := by
  induction l with
  | nil => simp at hx
  | cons y l ih =>
    simp only [List.map_cons, List.cons.injEq] at h
    rcases List.mem_cons.1 hx with rfl | hx
    · exact h.1
    · exact ih h.2 hx
theorem esc_asc {r : Int} (h : r ∈ asc) (buf : List Int) (hb : buf.length ≤ 1000000) : s_strconv_appendEscapedRune buf r 34 false false = some (buf ++ [r]) := by
  have := congrFun (mem_map_eq asc_all h) buf
  rw [this, room_ok (by simp only [List.length_singleton]; omega)]
  rfl
theorem esc_ue (buf : List Int) (hb : buf.length ≤ 1000000) : s_strconv_appendEscapedRune buf 252 34 false false = some (buf ++ [195, 188]) := by
  have h : (fun buf => s_strconv_appendEscapedRune buf 252 34 false false) = fun buf : List Int => ((chk (room (buf.length + ([195, 188] : List Int).length) 1) (some (buf ++ [195, 188]))).bind fun q => some q).bind fun q => some q := by kernel_rfl
  have := congrFun h buf
  rw [this, room_ok (by simp only [List.length_cons, List.length_nil]; omega)]
  rfl

/-- Texts that quotes leave as they are. -/
def okQ : Str → Bool
  | [] => true
  | c :: r => (c :: r == [195, 188, 114, 105, 99, 104]) || (asc.contains ((c.toNat : Nat) : Int) && decide (c.toNat < 128) && okQ r)
theorem okQ_all : (mtexts.all okQ) = true := by kernel_rfl

theorem dec_asc (c : UInt8) (r : Str) (h : c.toNat < 128) : s_unicode_utf8_DecodeRuneInString (c :: r) = some (((c.toNat : Nat) : Int), 1) := by
  unfold s_unicode_utf8_DecodeRuneInString s_unicode_utf8_DecodeRuneInString_j1
  have h1 : idx (c :: r) 0 = some c := rfl
  have h2 : ((c :: r) == ([] : Str)) = false := rfl
  rw [h2, Bool.not_false, cond_true, h1, Option.bind_some, decide_eq_true (by omega), cond_true, Option.bind_some]
  have : IntKind.wrap .i32 ((c.toNat : Nat) : Int) = ((c.toNat : Nat) : Int) := by rw [IntKind.wrap_i32]; omega
  rw [this]
theorem dec_ue : s_unicode_utf8_DecodeRuneInString [195, 188, 114, 105, 99, 104] = some (252, 2) := by kernel_rfl

theorem quote_loop : ∀ (k n : Nat) (s : Str) (buf : List Int), s.length ≤ k → okQ s = true → s.length < n → buf.length + s.length ≤ 100000 → s_strconv_appendQuotedWith_l1 n s 34 false false buf = some (34, buf ++ bI s)
  | k, 0, s, buf, _, _, h, _ => by omega
  | k, n + 1, [], buf, _, _, _, _ => by
    show s_strconv_appendQuotedWith_l1_b _ _ _ _ _ _ = _
    unfold s_strconv_appendQuotedWith_l1_b
    simp [bI]
  | 0, n + 1, c :: r, buf, hk, _, _, _ => by simp at hk
  | k + 1, n + 1, c :: r, buf, hk, hq, hn, hb => by
    show s_strconv_appendQuotedWith_l1_b _ _ _ _ _ _ = _
    simp only [List.length_cons] at hk hn hb
    unfold s_strconv_appendQuotedWith_l1_b
    rw [decide_eq_true (by simp only [List.length_cons]; omega), cond_true]
    unfold okQ at hq
    rcases Bool.or_eq_true_iff.1 hq with h | h
    · have he : c :: r = [195, 188, 114, 105, 99, 104] := by simpa using h
      rw [he, dec_ue, Option.bind_some]
      dsimp only
      rw [show ((2 : Int) == 1) = false from rfl, cond_false]
      unfold s_strconv_appendQuotedWith_j2 s_strconv_appendQuotedWith_j3
      rw [cond_false, esc_ue _ (by omega), Option.bind_some]
      have hlen : r.length = 5 := by have := congrArg List.length he; simpa using this
      rw [show within 2 (([195, 188, 114, 105, 99, 104] : Str).length : Int) (([195, 188, 114, 105, 99, 104] : Str).length : Int) = true from rfl, chk_true]
      show s_strconv_appendQuotedWith_l1 n [114, 105, 99, 104] 34 false false (buf ++ [195, 188]) = _
      rw [quote_loop k n [114, 105, 99, 104] (buf ++ [195, 188]) (by simp; omega) (by kernel_rfl) (by simp; omega) (by simp; omega)]
      simp [bI]
    · simp only [Bool.and_eq_true, decide_eq_true_eq, List.contains_iff_mem] at h
      obtain ⟨⟨h1, h2⟩, h3⟩ := h
      rw [dec_asc c r h2, Option.bind_some]
      dsimp only
      have hne : (((c.toNat : Nat) : Int) == 65533) = false := by rw [beq_eq_false_iff_ne]; omega
      rw [show ((1 : Int) == 1) = true from rfl, cond_true, hne]
      unfold s_strconv_appendQuotedWith_j2 s_strconv_appendQuotedWith_j3
      rw [cond_false, esc_asc h1 _ (by omega), Option.bind_some]
      rw [within_ok (by simp only [List.length_cons]; omega), chk_true]
      show s_strconv_appendQuotedWith_l1 n r 34 false false (buf ++ [((c.toNat : Nat) : Int)]) = _
      rw [quote_loop k n r (buf ++ [((c.toNat : Nat) : Int)]) (by omega) h3 (by omega) (by simp; omega)]
      simp [bI]

theorem quoted_eq {s : Str} (hs : okQ s = true) (hl : s.length ≤ 1000) (buf : List Int) (hb : buf.length ≤ 10000) : s_strconv_AppendQuote buf s = some (buf ++ quoteI s) := by
  have j : s_strconv_appendQuotedWith_j1 s 34 false false buf = some (buf ++ quoteI s) := by
    unfold s_strconv_appendQuotedWith_j1 s_strconv_appendQuotedWith_k4
    rw [room_ok (by simp only [List.length_singleton]; omega), chk_true, quote_loop s.length big s (buf ++ [34]) (Nat.le_refl _) hs (by rw [big_eq]; omega) (by simp; omega), Option.bind_some]
    dsimp only
    rw [room_ok (by simp [bI]; omega), chk_true]
    simp [quoteI]
  have hm : maxInt = 9223372036854775807 := by decide
  unfold s_strconv_AppendQuote s_strconv_appendQuotedWith
  rw [anyN_eq (r := buf ++ quoteI s) (by omega) fun c h1 h2 => ?_]
  · rfl
  rw [inK_i64 (by omega), chk_true]
  have e : buf.take (List.replicate ((buf.length : Int)).toNat (0 : Int)).length ++ (List.replicate ((buf.length : Int)).toNat (0 : Int)).drop buf.length = buf := by simp
  rw [e, inK_i64 (by omega), chk_true, inK_i64 (by omega), chk_true, inK_i64 (by omega), chk_true, j]
  have : mkOk (buf.length : Int) ((((buf.length : Int) + 1) + (s.length : Int)) + 1) 1 = true := decide_eq_true (by unfold roomB; omega)
  rw [this, chk_true, Bool.cond_self]

theorem abool_eq (b : Bool) (buf : List Int) (hb : buf.length ≤ 10000) : s_strconv_AppendBool buf b = some (buf ++ boolI b) := by
  unfold s_strconv_AppendBool s_internal_strconv_AppendBool
  cases b
  · rw [cond_false, room_ok (by simp; omega), chk_true]; rfl
  · rw [cond_true, room_ok (by simp; omega), chk_true]; rfl
end Go.Proofs
