/- For every range, list of keys and int the law CutsRanges answers true: the ranges of a split are the document's. It has no condition but the form's own reach. -/
import Derived.Test.YtcfiobhebakhlaaPAllx0
import Derived.Test.YtcfiobhebakhlaaPAllx20
import Derived.Test.YtcfiobhebakhlaaQCutsRanges
import Derived.Test.YtcfiobhebakhlaaSEv
import Derived.Test.YtcfiobhebakhlaaSLists
import Derived.Test.YtcfiobhebakhlaaSStarts
import Derived.Test.YtcfiobhebakhlaaSRefstarts
import Derived.Test.YtcfiobhebakhlaaSBorders
import Derived.Test.YtcfiobhebakhlaaSBeyond07
import Derived.Test.YtcfiobhebakhlaaSSpanE
import Derived.Test.YtcfiobhebakhlaaSSpanR
import Derived.Test.YtcfiobhebakhlaaSSplitE
import Derived.Test.YtcfiobhebakhlaaSRanges07
import Derived.Test.YtcfiobhebakhlaaSRranges07
set_option linter.unusedVariables false
set_option linter.unusedSimpArgs false
namespace Go.Proofs.Ytcfiobhebakhlaa.Pure
open Go.RowKit Go.Proofs.Ytcfiobhebakhlaa.PAll Go.Proofs.YtcfiobhebakhlaaW.PrintWords Go.Proofs.YtcfiobhebakhlaaW.PrintLast Go.Proofs.YtcfiobhebakhlaaW.PrintMore
theorem sameR_loop (l : List S36) (hl : l.length ≤ 9223372036854775806) (d : Nat) : ∀ (i : Nat), i + d = l.length → Ev (fun k => tidelinelaw07_sameRanges.l0 k l l (i : Int)) true := by
  induction d with
  | zero =>
    intro i hd
    refine Ev.step (fun k => by rw [tidelinelaw07_sameRanges.l0]) ?_
    simp only [if_neg (show ¬ (i : Int) < (l.length : Int) by omega)]
    exact Ev.const rfl
  | succ d ih =>
    intro i hd
    refine Ev.step (fun k => by rw [tidelinelaw07_sameRanges.l0]) ?_
    simp only [if_pos (show (i : Int) < (l.length : Int) by omega), if_pos (show (0 : Int) ≤ (i : Int) by omega), beq_self_eq_true, Bool.not_true, Bool.or_false, if_neg (show ¬ (false = true) by decide)]
    rw [wrap_succ (by omega)]
    exact ih (i + 1) (by omega)
theorem sameR_self (l : List S36) (hl : l.length ≤ 9223372036854775806) : Ev (fun k => tidelinelaw07_sameRanges.f k l l) true := by
  refine Ev.congr (fun k => by rw [tidelinelaw07_sameRanges.f, if_pos rfl]) ?_
  exact sameR_loop l hl l.length 0 (by omega)
theorem CutsRanges : tidelinelaw07_CutsRanges.Pure := by
  intro lo hi op l a _ hf wa
  refine Ev.rounds ?_
  refine Ev.congr (fun k => by rw [tidelinelaw07_CutsRanges.f]) ?_
  obtain ⟨r, hr, hr'⟩ := beyond_ok l hf.1 lo hi op
  refine Ev.bind hr ?_
  cases r with
  | true => exact Ev.const rfl
  | false =>
    have hs := hr' rfl
    simp only [if_neg (show ¬ (false = true) by decide)]
    refine Ev.bind (ran_ok lo hi op l a (by omega)) (Ev.bind (rran_ok lo hi op l a (by omega)) ?_)
    simp only [if_true]
    have hb := ranE_len lo hi op l a
    exact Ev.bind (sameR_self _ (Nat.le_trans hb (by omega))) (Ev.const rfl)
end Go.Proofs.Ytcfiobhebakhlaa.Pure
