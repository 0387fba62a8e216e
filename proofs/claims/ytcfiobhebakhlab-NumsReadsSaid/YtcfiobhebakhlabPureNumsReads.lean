/- For all bytes and every list of steps the law NumsReads answers true: the reader reads them as the document says, whatever is asked of it, and the bytes are neither changed nor kept. It has no condition but the form's own reach. -/
import Derived.Test.YtcfiobhebakhlabPAllx0
import Derived.Test.YtcfiobhebakhlabPAllx1
import Derived.Test.YtcfiobhebakhlabQNumsReads
import Derived.Test.YtcfiobhebakhlabSSteps01
set_option linter.unusedVariables false
set_option linter.unusedSimpArgs false
namespace Go.Proofs.Ytcfiobhebakhlab.Pure
open Go.RowKit Go.Proofs.Ytcfiobhebakhlab.PAll Go.Proofs.YtcfiobhebakhlabW.PrintWords Go.Proofs.YtcfiobhebakhlabW.PrintLast Go.Proofs.YtcfiobhebakhlabW.PrintMore
theorem NumsReads : tidelinelaw01_NumsReads.Pure := by
  intro l0 l1 hl0 hl1
  obtain ⟨hn0, hf0⟩ := hl0
  obtain ⟨hn, hf⟩ := hl1
  have hok : ∀ x ∈ l1, (-9223372036854775808 ≤ x.f1 ∧ x.f1 ≤ 9223372036854775807) ∧ x.f2.size ≤ 140737488355328 := by
    intro x hx
    obtain ⟨_, h1, h2, h3, _⟩ := hf x hx
    simp [Lit.wf] at h1
    rw [show IntKind.i64.min = -9223372036854775808 by decide] at h1
    exact ⟨⟨h1.1, h1.2⟩, by omega⟩
  have hb0 : ∀ x ∈ l0, 0 ≤ x ∧ x < 256 := by
    intro x hx
    have h := hf0 x hx
    simp [Lit.wf] at h
    rw [show IntKind.u8.min = 0 by decide, show IntKind.u8.max = 255 by decide] at h
    omega
  obtain ⟨b, hb, hb'⟩ := bey01_f l1 (by omega) (fun x hx => (hok x hx).2)
  cases b with
  | true =>
    obtain ⟨k, hk⟩ := hb
    refine ⟨k, ?_⟩
    unfold tidelinelaw01_NumsReads.f
    rw [show tidelinelaw01_beyond.f k l1 = some true from hk k (Nat.le_refl _), Option.bind_some, if_pos rfl]
  | false =>
    obtain ⟨k1, hk1⟩ := hb
    by_cases hg : 2147483647 < (l0.length : Int)
    · refine ⟨k1, ?_⟩
      unfold tidelinelaw01_NumsReads.f
      rw [show tidelinelaw01_beyond.f k1 l1 = some false from hk1 k1 (Nat.le_refl _), Option.bind_some, if_neg (by decide), if_pos hg]
    · obtain ⟨k2, hk2⟩ := spoil01_f l0 (by omega)
      refine ⟨max k1 k2, ?_⟩
      unfold tidelinelaw01_NumsReads.f
      rw [show tidelinelaw01_beyond.f (max k1 k2) l1 = some false from hk1 _ (Nat.le_max_left _ _), Option.bind_some, if_neg (by decide), if_neg hg, if_pos ⟨hb0, fun x hx => (hok x hx).1⟩, show tidelinelaw01_spoil.f (max k1 k2) l0 = some () from hk2 _ (Nat.le_max_right _ _)]
      rfl
end Go.Proofs.Ytcfiobhebakhlab.Pure
