/- For every range the law SpanTexts answers true: Print is the document's, and Parse of what it writes is the range again. It has no condition but the form's own reach. -/
import Derived.Test.YtgdhgamolenfgaaPAllx0
import Derived.Test.YtgdhgamolenfgaaPAllx4
import Derived.Test.YtgdhgamolenfgaaPAllx6
import Derived.Test.YtgdhgamolenfgaaQSpanTexts
import Derived.Test.YtgdhgamolenfgaaSEv
import Derived.Test.YtgdhgamolenfgaaSLists
import Derived.Test.YtgdhgamolenfgaaSShown02
import Derived.Test.YtgdhgamolenfgaaSHex
import Derived.Test.YtgdhgamolenfgaaSSpanE
import Derived.Test.YtgdhgamolenfgaaSSpanR
import Derived.Test.YtgdhgamolenfgaaSHexref02
import Derived.Test.YtgdhgamolenfgaaSParse
import Derived.Test.YtgdhgamolenfgaaSPrt
set_option linter.unusedVariables false
set_option linter.unusedSimpArgs false
namespace Go.Proofs.Ytgdhgamolenfgaa.Pure
open Go.RowKit Go.Proofs.Ytgdhgamolenfgaa.PAll Go.Proofs.YtgdhgamolenfgaaW.PrintWords Go.Proofs.YtgdhgamolenfgaaW.PrintLast Go.Proofs.YtgdhgamolenfgaaW.PrintMore
theorem hexB_star (s : ByteArray) : (hexB s).toList ≠ ([42] : List UInt8) := by
  intro h
  have := congrArg List.length h
  rw [Go.ByteArray.toList_eq, Array.length_toList] at this
  have e : (hexB s).data.size = 2 * s.size := hexB_size s
  rw [e] at this
  simp only [List.length_cons, List.length_nil] at this
  omega
theorem empty_list : (⟨#[]⟩ : ByteArray).toList = [] := by decide +kernel
theorem back (lo hi : ByteArray) (op : Bool) (h : rgE lo hi op = 0) : Ev (fun k => span_Parse.f k (prtV lo hi op).1) (lo, hi, op, 0) := by
  obtain ⟨h1, h2⟩ := rgE_sizes h
  have s1 := hexB_size lo
  have s2 := hexB_size hi
  unfold prtV
  simp only [if_pos h]
  cases op with
  | true =>
    simp only [if_true]
    have e : hexB lo ++ (⟨#[46, 46, 42]⟩ : ByteArray) = hexB lo ++ (⟨#[46, 46]⟩ : ByteArray) ++ (⟨#[42]⟩ : ByteArray) := by
      apply ba_eq.1
      rw [Go.ByteArray.toList_eq, Go.ByteArray.toList_eq]
      simp
    have hc := cut_at (hexB lo) (⟨#[42]⟩ : ByteArray) (hex_nodot lo) (by show (hexB lo).size + 1 < _; omega)
    rw [e]
    refine Ev.val (parse_of _ _ _ _ hc (by omega) (by show (1 : Nat) ≤ _; omega)) ?_
    have hn : hi = ⟨#[]⟩ := by
      unfold rgE at h
      rw [if_neg (by omega)] at h
      simp only [if_true] at h
      by_cases hh : hi.toList = []
      · exact ba_eq.1 (by rw [hh, empty_list])
      · rw [if_neg hh] at h; simp at h
    subst hn
    have e1 : ((⟨#[42]⟩ : ByteArray).toList == ([42] : List UInt8)) = true := by decide +kernel
    have e2 : unhE (⟨#[]⟩ : ByteArray) = (⟨#[]⟩, 0) := by
      have := unhE_hexB (⟨#[]⟩ : ByteArray)
      exact this
    unfold parV
    simp only [e1, if_true, e2, unhE_hexB, h, and_self]
  | false =>
    simp only [if_neg (show ¬ (false = true) by decide)]
    have hc := cut_at (hexB lo) (hexB hi) (hex_nodot lo) (by omega)
    refine Ev.val (parse_of _ _ _ _ hc (by omega) (by omega)) ?_
    have e1 : ((hexB hi).toList == ([42] : List UInt8)) = false := by
      have := hexB_star hi
      simpa using this
    unfold parV
    simp only [e1, if_neg (show ¬ (false = true) by decide), unhE_hexB, h, and_self, if_true]
theorem SpanTexts : tidelinelaw02_SpanTexts.Pure := by
  intro lo hi op _
  refine Ev.rounds ?_
  refine Ev.congr (fun k => by rw [tidelinelaw02_SpanTexts.f]) ?_
  refine Ev.bind shown_f ?_
  simp only [if_true]
  refine Ev.bind (prt_f lo hi op) (Ev.bind (prt_ref lo hi op) ?_)
  simp only [if_true, bne_self_eq_false]
  refine Ev.step (fun k => by rw [tidelinelaw02_SpanTexts.j0]) ?_
  simp only [if_neg (show ¬ (false = true) by decide)]
  by_cases h : rgE lo hi op = 0
  · have h2 : (prtV lo hi op).2 = 0 := by unfold prtV; rw [if_pos h]
    simp only [if_pos h2]
    refine Ev.bind (back lo hi op h) ?_
    exact Ev.const (by simp)
  · have h2 : ¬ (prtV lo hi op).2 = 0 := by unfold prtV; rw [if_neg h]; exact h
    simp only [if_neg h2]; exact Ev.const rfl
end Go.Proofs.Ytgdhgamolenfgaa.Pure
