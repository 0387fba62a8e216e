/- For every two texts the law NumsHex answers true: bytes as text and texts as bytes are the document's, and there and back is the same. It has no condition but the form's own reach. -/
import Derived.Test.YtcfiobhebakhlabPAllx0
import Derived.Test.YtcfiobhebakhlabPAllx5
import Derived.Test.YtcfiobhebakhlabSEv
import Derived.Test.YtcfiobhebakhlabSLists
import Derived.Test.YtcfiobhebakhlabSHex
import Derived.Test.YtcfiobhebakhlabSHexref01
set_option linter.unusedVariables false
set_option linter.unusedSimpArgs false
namespace Go.Proofs.Ytcfiobhebakhlab.Pure
open Go.RowKit Go.Proofs.Ytcfiobhebakhlab.PAll Go.Proofs.YtcfiobhebakhlabW.PrintWords Go.Proofs.YtcfiobhebakhlabW.PrintLast Go.Proofs.YtcfiobhebakhlabW.PrintMore
theorem unhE_size (t : ByteArray) (h : (unhE t).2 = 0) : 2 * (unhE t).1.size = t.size := by
  have := congrArg ByteArray.size (hexB_unhE t h)
  rw [hexB_size] at this
  exact this
theorem NumsHex : tidelinelaw01_NumsHex.Pure := by
  intro s t _ _
  refine Ev.rounds ?_
  have g : ∀ k, tidelinelaw01_NumsHex.f k s t = tidelinelaw01_NumsHex.j0 k s t (decide (s.size > 1073741824 ∨ t.size > 1073741824)) := by
    intro k
    unfold tidelinelaw01_NumsHex.f
    by_cases h : (s.size : Int) > 1073741824
    · rw [if_pos h, decide_eq_true (show s.size > 1073741824 ∨ t.size > 1073741824 by omega)]
    · rw [if_neg h]
      by_cases h2 : (t.size : Int) > 1073741824
      · rw [decide_eq_true h2, decide_eq_true (show s.size > 1073741824 ∨ t.size > 1073741824 by omega)]
      · rw [decide_eq_false h2, decide_eq_false (show ¬ (s.size > 1073741824 ∨ t.size > 1073741824) by omega)]
  refine Ev.congr g (Ev.step (fun k => by rw [tidelinelaw01_NumsHex.j0]) ?_)
  by_cases h : s.size > 1073741824 ∨ t.size > 1073741824
  · simp only [decide_eq_true h, if_true]; exact Ev.const rfl
  · simp only [decide_eq_false h, if_neg (show ¬ (false = true) by decide)]
    have hs : s.size ≤ 1073741824 := by omega
    have ht : t.size ≤ 1073741824 := by omega
    refine Ev.bind (hex_f s (by omega)) ?_
    refine Ev.bind (unhex_f _ (by rw [hexB_size]; omega)) ?_
    refine Ev.bind (unhex_f t (by omega)) (Ev.bind (runhex_f t (by omega)) (Ev.bind (rhex_f s (by omega)) ?_))
    simp only [unhE_hexB, if_true]
    by_cases hu : (unhE t).2 = 0
    · simp only [if_pos hu]
      have := unhE_size t hu
      refine Ev.bind (hex_f _ (by omega)) ?_
      exact Ev.const (by rw [hexB_unhE t hu]; simp)
    · simp only [if_neg hu]; exact Ev.const rfl
end Go.Proofs.Ytcfiobhebakhlab.Pure
