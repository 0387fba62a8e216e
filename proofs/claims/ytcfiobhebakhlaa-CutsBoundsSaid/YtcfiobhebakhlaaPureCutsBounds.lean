/- For every three ints the law CutsBounds answers true: depth, turns and moves are the document's, and the turns are at most MaxTurn. It has no condition. -/
import Derived.Test.YtcfiobhebakhlaaPAllx5
import Derived.Test.YtcfiobhebakhlaaPAllx6
import Derived.Test.YtcfiobhebakhlaaSEv
import Derived.Test.YtcfiobhebakhlaaSDepth
set_option linter.unusedVariables false
set_option linter.unusedSimpArgs false
namespace Go.Proofs.Ytcfiobhebakhlaa.Pure
open Go.RowKit Go.Proofs.Ytcfiobhebakhlaa.PAll Go.Proofs.YtcfiobhebakhlaaW.PrintWords Go.Proofs.YtcfiobhebakhlaaW.PrintLast Go.Proofs.YtcfiobhebakhlaaW.PrintMore
theorem moves_same (d l : Int) : cuts_Moves.f d l = tidelineref07_Moves.f d l := rfl
theorem moves_some (d l : Int) : ∃ x y, cuts_Moves.f d l = some (x, y) := by
  unfold cuts_Moves.f; (repeat' split) <;> exact ⟨_, _, rfl⟩
theorem CutsBounds : tidelinelaw07_CutsBounds.Pure := by
  intro a d l wa wd wl
  refine ⟨20, ?_⟩
  obtain ⟨x, y, hm⟩ := moves_some d l
  have hm' : tidelineref07_Moves.f d l = some (x, y) := hm
  unfold tidelinelaw07_CutsBounds.f cuts_Turns.f tidelineref07_Turns.f
  by_cases h : 2 ≤ a ∧ a ≤ 16
  · obtain ⟨e1, e2⟩ := depth_ok a h.1 h.2 20 (Nat.le_refl _)
    have hb := depth_bd a
    rw [e1, e2, hm, hm']
    simp only [Option.bind_some, if_true, Option.some.injEq]
    rw [wrap_id (x := 2 * depthOf a) (by omega) (by omega), wrap_id (by omega) (by omega)]
    exact decide_eq_true (by omega)
  · obtain ⟨e1, e2⟩ := depth_bad a h 20
    rw [e1, e2, hm, hm']
    simp
end Go.Proofs.Ytcfiobhebakhlaa.Pure
