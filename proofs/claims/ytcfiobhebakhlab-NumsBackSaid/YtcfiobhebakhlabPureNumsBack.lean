/- For every list of steps the law NumsBack answers true: what was laid down is read again by the same calls, and nothing is left. It has no condition but the form's own reach. -/
import Derived.Test.YtcfiobhebakhlabPAllx0
import Derived.Test.YtcfiobhebakhlabPAllx1
import Derived.Test.YtcfiobhebakhlabQNumsBack
import Derived.Test.YtcfiobhebakhlabSBey01
set_option linter.unusedVariables false
set_option linter.unusedSimpArgs false
namespace Go.Proofs.Ytcfiobhebakhlab.Pure
open Go.RowKit Go.Proofs.Ytcfiobhebakhlab.PAll Go.Proofs.YtcfiobhebakhlabW.PrintWords Go.Proofs.YtcfiobhebakhlabW.PrintLast Go.Proofs.YtcfiobhebakhlabW.PrintMore
theorem NumsBack : tidelinelaw01_NumsBack.Pure := by
  intro l0 hl
  obtain ⟨hn, hf⟩ := hl
  have hmin : IntKind.i64.min = -9223372036854775808 := by decide
  have hok : ∀ x ∈ l0, OkStep x ∧ x.f2.size ≤ 140737488355328 := by
    intro x hx
    obtain ⟨_, h1, h2, h3, _⟩ := hf x hx
    simp [Lit.wf] at h1 h3
    rw [hmin] at h1
    rw [show IntKind.u64.min = 0 by decide, show IntKind.u64.max = 18446744073709551615 by decide] at h3
    exact ⟨⟨h1.1, h1.2, h3.1, by omega⟩, by omega⟩
  obtain ⟨b, hb, hb'⟩ := bey01_f l0 (by omega) (fun x hx => (hok x hx).2)
  have htt : ∀ l : List S34, total l = stepsT l := by
    intro l
    induction l with
    | nil => rfl
    | cons x l ih => simp only [total, stepsT, List.map_cons, List.sum_cons]; unfold stepsT at ih; omega
  cases b with
  | true =>
    obtain ⟨k, hk⟩ := hb
    refine ⟨k, ?_⟩
    unfold tidelinelaw01_NumsBack.f
    rw [show tidelinelaw01_beyond.f k l0 = some true from hk k (Nat.le_refl _), Option.bind_some, if_pos rfl]
  | false =>
    have ht := hb' rfl
    obtain ⟨k1, hk1⟩ := hb
    refine ⟨k1, ?_⟩
    unfold tidelinelaw01_NumsBack.f
    rw [show tidelinelaw01_beyond.f k1 l0 = some false from hk1 _ (Nat.le_refl _), Option.bind_some, if_neg (by decide), if_pos ⟨fun x hx => (hok x hx).1, by rw [htt]; exact ht⟩]
end Go.Proofs.Ytcfiobhebakhlab.Pure
