import Derived.Test.YtgdhgamolenfgaaPAllx0
import Derived.Test.YtgdhgamolenfgaaPAllx3
import Derived.Test.YtgdhgamolenfgaaPAllx6
import Derived.Test.YtgdhgamolenfgaaSEv
import Derived.Test.YtgdhgamolenfgaaSLists
import Derived.Test.YtgdhgamolenfgaaSHex
import Derived.Test.YtgdhgamolenfgaaSSpanE
import Derived.Test.YtgdhgamolenfgaaSSpanR
import Derived.Test.YtgdhgamolenfgaaSHexref02
set_option linter.unusedVariables false
set_option linter.unusedSimpArgs false
namespace Go.Proofs.Ytgdhgamolenfgaa.Pure
open Go.RowKit Go.Proofs.Ytgdhgamolenfgaa.PAll Go.Proofs.YtgdhgamolenfgaaW.PrintWords Go.Proofs.YtgdhgamolenfgaaW.PrintLast Go.Proofs.YtgdhgamolenfgaaW.PrintMore
/-- What Print answers. -/
def prtV (lo hi : ByteArray) (op : Bool) : ByteArray × Int :=
  if rgE lo hi op = 0 then ((if op = true then hexB lo ++ (⟨#[46, 46, 42]⟩ : ByteArray) else hexB lo ++ (⟨#[46, 46]⟩ : ByteArray) ++ hexB hi), 0) else ((⟨#[]⟩ : ByteArray), rgE lo hi op)
theorem rgE_sizes {lo hi : ByteArray} {op : Bool} (h : rgE lo hi op = 0) : lo.size ≤ 16 ∧ hi.size ≤ 16 := by
  unfold rgE at h
  split at h
  · simp at h
  · omega
theorem prt_f (lo hi : ByteArray) (op : Bool) : Ev (fun k => span_Print.f k lo hi op) (prtV lo hi op) := by
  refine Ev.congr (fun k => by rw [span_Print.f]) (Ev.bind (rgE_f lo hi op) ?_)
  unfold prtV
  by_cases h : rgE lo hi op = 0
  · obtain ⟨h1, h2⟩ := rgE_sizes h
    simp only [if_pos h]
    have s1 := hexB_size lo
    have s2 := hexB_size hi
    cases op with
    | true =>
      simp only [if_true]
      refine Ev.bind (hex_f lo (by omega)) ?_
      simp only [if_pos (show (hexB lo).size + 3 ≤ 9223372036854775807 by omega)]
      exact Ev.const rfl
    | false =>
      simp only [if_neg (show ¬ (false = true) by decide)]
      refine Ev.bind (hex_f lo (by omega)) ?_
      simp only [if_pos (show (hexB lo).size + 2 ≤ 9223372036854775807 by omega)]
      refine Ev.bind (hex_f hi (by omega)) ?_
      have s3 : (hexB lo ++ (⟨#[46, 46]⟩ : ByteArray)).size = (hexB lo).size + 2 := by rw [ByteArray.size_append]; rfl
      simp only [if_pos (show (hexB lo ++ (⟨#[46, 46]⟩ : ByteArray)).size + (hexB hi).size ≤ 9223372036854775807 by omega)]
      exact Ev.const rfl
  · simp only [if_neg h]; exact Ev.const rfl
theorem prt_ref (lo hi : ByteArray) (op : Bool) : Ev (fun k => tidelineref02_Print.f k lo hi op) (prtV lo hi op) := by
  refine Ev.congr (fun k => by rw [tidelineref02_Print.f]) (Ev.bind (rgE_ref lo hi op) ?_)
  unfold prtV
  by_cases h : rgE lo hi op = 0
  · obtain ⟨h1, h2⟩ := rgE_sizes h
    simp only [if_pos h]
    have s1 := hexB_size lo
    have s2 := hexB_size hi
    cases op with
    | true =>
      simp only [if_true]
      refine Ev.bind (rhex_f lo (by omega)) ?_
      simp only [if_pos (show (hexB lo).size + 3 ≤ 9223372036854775807 by omega)]
      exact Ev.const rfl
    | false =>
      simp only [if_neg (show ¬ (false = true) by decide)]
      refine Ev.bind (rhex_f lo (by omega)) ?_
      simp only [if_pos (show (hexB lo).size + 2 ≤ 9223372036854775807 by omega)]
      refine Ev.bind (rhex_f hi (by omega)) ?_
      have s3 : (hexB lo ++ (⟨#[46, 46]⟩ : ByteArray)).size = (hexB lo).size + 2 := by rw [ByteArray.size_append]; rfl
      simp only [if_pos (show (hexB lo ++ (⟨#[46, 46]⟩ : ByteArray)).size + (hexB hi).size ≤ 9223372036854775807 by omega)]
      exact Ev.const rfl
  · simp only [if_neg h]; exact Ev.const rfl
end Go.Proofs.Ytgdhgamolenfgaa.Pure
