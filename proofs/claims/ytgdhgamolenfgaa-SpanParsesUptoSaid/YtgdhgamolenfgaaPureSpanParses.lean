/- For every text of at most 1048575 bytes the law SpanParses answers true: Parse is the document's, and what it takes is written so (the second form: where what the law reads is of bulk at most 1048576). -/
import Derived.Test.YtgdhgamolenfgaaPAllx0
import Derived.Test.YtgdhgamolenfgaaPAllx7
import Derived.Test.YtgdhgamolenfgaaSEv
import Derived.Test.YtgdhgamolenfgaaSLists
import Derived.Test.YtgdhgamolenfgaaSShown02
import Derived.Test.YtgdhgamolenfgaaSHex
import Derived.Test.YtgdhgamolenfgaaSSpanE
import Derived.Test.YtgdhgamolenfgaaSSpanR
import Derived.Test.YtgdhgamolenfgaaSHexref02
import Derived.Test.YtgdhgamolenfgaaSParse
import Derived.Test.YtgdhgamolenfgaaSPrt
import Derived.Test.YtgdhgamolenfgaaSRparse
set_option linter.unusedVariables false
set_option linter.unusedSimpArgs false
namespace Go.Proofs.Ytgdhgamolenfgaa.Pure
open Go.RowKit Go.Proofs.Ytgdhgamolenfgaa.PAll Go.Proofs.YtgdhgamolenfgaaW.PrintWords Go.Proofs.YtgdhgamolenfgaaW.PrintLast Go.Proofs.YtgdhgamolenfgaaW.PrintMore
theorem parV_sizes {lo hi : ByteArray} {ok : Bool} (h : (parV lo hi ok).2.2.2 = 0) : rgE (parV lo hi ok).1 (parV lo hi ok).2.1 (parV lo hi ok).2.2.1 = 0 ∧ ok = true ∧ hexB (parV lo hi ok).1 = lo ∧
    ((parV lo hi ok).2.2.1 = true ∧ hi.toList = [42] ∨ (parV lo hi ok).2.2.1 = false ∧ hexB (parV lo hi ok).2.1 = hi) := by
  unfold parV at h ⊢
  simp only at h ⊢
  generalize e : (hi.toList == ([42] : List UInt8)) = op at h ⊢
  cases op with
  | true =>
    simp only [if_true] at h ⊢
    by_cases hc : ok = true ∧ (unhE lo).2 = 0 ∧ (unhE (⟨#[]⟩ : ByteArray)).2 = 0 ∧ rgE (unhE lo).1 (unhE (⟨#[]⟩ : ByteArray)).1 true = 0
    · rw [if_pos hc]
      exact ⟨hc.2.2.2, hc.1, hexB_unhE lo hc.2.1, .inl ⟨rfl, by simpa using e⟩⟩
    · rw [if_neg hc] at h; simp at h
  | false =>
    simp only [if_neg (show ¬ (false = true) by decide)] at h ⊢
    by_cases hc : ok = true ∧ (unhE lo).2 = 0 ∧ (unhE hi).2 = 0 ∧ rgE (unhE lo).1 (unhE hi).1 false = 0
    · rw [if_pos hc]
      exact ⟨hc.2.2.2, hc.1, hexB_unhE lo hc.2.1, .inr ⟨rfl, hexB_unhE hi hc.2.2.1⟩⟩
    · rw [if_neg hc] at h; simp at h
theorem cut_back (s lo hi : ByteArray) (hs : s.size < 4294967281) (hc : strings_Cut.f s (⟨#[46, 46]⟩ : ByteArray) = some (lo, hi, true)) : lo ++ (⟨#[46, 46]⟩ : ByteArray) ++ hi = s := by
  unfold strings_Cut.f at hc
  rw [if_pos hs] at hc
  simp only [Option.some.injEq, Prod.mk.injEq] at hc
  rcases Lib.index_spec s.data.toList (⟨#[46, 46]⟩ : ByteArray).data.toList with ⟨hm, _⟩ | ⟨n, hn, hnl, ho, _⟩
  · obtain ⟨c1, c2, c3⟩ := Lib.cutB_miss s (⟨#[46, 46]⟩ : ByteArray) hm
    rw [c3] at hc
    exact absurd hc.2.2 (by decide)
  · obtain ⟨c1, c2, c3⟩ := Lib.cutB_hit s (⟨#[46, 46]⟩ : ByteArray) n hn
    rw [c1, c2] at hc
    obtain ⟨rfl, rfl, _⟩ := hc
    have hp := (pre2 _).1 ho
    have z : (⟨#[46, 46]⟩ : ByteArray).size = 2 := rfl
    rw [z]
    apply ba_eq.1
    have e1 : (s.extract 0 n).data.toList = s.data.toList.take n := by rw [Lib.extract_eq]; simp
    have e2 : (s.extract (n + 2) s.size).data.toList = s.data.toList.drop (n + 2) := by rw [Lib.extract_to_end]
    rw [Go.ByteArray.toList_eq, Go.ByteArray.toList_eq, ByteArray.data_append, ByteArray.data_append, Array.toList_append, Array.toList_append, e1, e2]
    show s.data.toList.take n ++ [46, 46] ++ s.data.toList.drop (n + 2) = _
    rw [← hp, List.append_assoc, ← List.drop_drop, List.take_append_drop, List.take_append_drop]
/-- The same of texts of at most a mebibyte. -/
theorem SpanParses (s : ByteArray) (hs : s.size ≤ 1048576) : ∃ k, tidelinelaw02_SpanParses.f k s = some true := by
  refine Ev.rounds ?_
  refine Ev.congr (fun k => by rw [tidelinelaw02_SpanParses.f]) ?_
  refine Ev.bind shown_f ?_
  simp only [if_true]
  obtain ⟨lo, hi, ok, hc⟩ : ∃ lo hi ok, strings_Cut.f s (⟨#[46, 46]⟩ : ByteArray) = some (lo, hi, ok) := by
    unfold strings_Cut.f
    rw [if_pos (by omega)]
    exact ⟨_, _, _, rfl⟩
  obtain ⟨hr, h1, h2⟩ := rparse_of s lo hi ok (by omega) hc
  refine Ev.bind (parse_of s lo hi ok hc (by omega) (by omega)) (Ev.bind hr ?_)
  simp only [beq_self_eq_true, Bool.not_true, Bool.or_self, if_neg (show ¬ (false = true) by decide), bne_self_eq_false]
  refine Ev.step (fun k => by rw [tidelinelaw02_SpanParses.j0]) ?_
  simp only [if_neg (show ¬ (false = true) by decide)]
  by_cases h : (parV lo hi ok).2.2.2 = 0
  · simp only [if_pos h]
    refine Ev.bind (prt_f _ _ _) ?_
    obtain ⟨h3, h4, h5, h6⟩ := parV_sizes h
    subst h4
    have hb := cut_back s lo hi (by omega) hc
    have hp2 : (prtV (parV lo hi true).1 (parV lo hi true).2.1 (parV lo hi true).2.2.1).2 = 0 := by unfold prtV; rw [if_pos h3]
    have hp1 : (prtV (parV lo hi true).1 (parV lo hi true).2.1 (parV lo hi true).2.2.1).1 = s := by
      unfold prtV
      rw [if_pos h3]
      rcases h6 with ⟨h7, h8⟩ | ⟨h7, h8⟩
      · rw [h7]
        simp only [if_true]
        rw [h5, ← hb]
        have e : hi = (⟨#[42]⟩ : ByteArray) := ba_eq.1 (by rw [h8]; decide +kernel)
        rw [e]
        apply ba_eq.1
        rw [Go.ByteArray.toList_eq, Go.ByteArray.toList_eq]
        simp
      · rw [h7]
        simp only [if_neg (show ¬ (false = true) by decide)]
        rw [h5, h8, hb]
    simp only [if_pos hp2, hp1]
    exact Ev.const (by simp)
  · simp only [if_neg h]; exact Ev.const rfl
end Go.Proofs.Ytgdhgamolenfgaa.Pure
