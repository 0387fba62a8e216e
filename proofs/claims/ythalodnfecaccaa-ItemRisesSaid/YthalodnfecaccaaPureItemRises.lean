/- For every clock and every list of nodes the law ItemRises answers true: versions that are dealt one behind the other rise. It has no condition but the form's own reach. -/
import Derived.Test.YthalodnfecaccaaPAllx7
import Derived.Test.YthalodnfecaccaaSEv
import Derived.Test.YthalodnfecaccaaSItem1
set_option linter.unusedVariables false
set_option linter.unusedSimpArgs false
namespace Go.Proofs.Ythalodnfecaccaa.Pure
open Go.RowKit Go.Proofs.Ythalodnfecaccaa.PAll Go.Proofs.YthalodnfecaccaaW.PrintWords Go.Proofs.YthalodnfecaccaaW.PrintLast Go.Proofs.YthalodnfecaccaaW.PrintMore
theorem nextv_case (c n : Int) : (nextv c n = (0, 0, 30)) ∨ (nextv c n = (0, 0, 33)) ∨ (nextv c n = (c + 1, n, 0) ∧ 0 ≤ n ∧ n < 8 ∧ 0 ≤ c ∧ c < 1099511627776) := by
  unfold nextv
  by_cases h : n < 0 ∨ n ≥ 8 ∨ c < 0 ∨ c > 1099511627776
  · rw [if_pos h]; exact .inl rfl
  · rw [if_neg h]
    by_cases h2 : c = 1099511627776
    · rw [if_pos h2]; exact .inr (.inl rfl)
    · rw [if_neg h2]; exact .inr (.inr ⟨rfl, by omega, by omega, by omega, by omega⟩)
theorem rises_loop (l : List Int) (hl : l.length ≤ 1048576) (d : Nat) : ∀ (i : Nat) (c a b : Int), i + d = l.length → (a ≤ c ∨ a = 0) → Ev (fun k => tidelinelaw03_ItemRises.l0 k c l (i : Int) a b) true := by
  induction d with
  | zero =>
    intro i c a b hd ha
    refine Ev.step (fun k => by rw [tidelinelaw03_ItemRises.l0]) ?_
    simp only [if_neg (show ¬ (i : Int) < (l.length : Int) by omega)]
    exact Ev.const rfl
  | succ d ih =>
    intro i c a b hd ha
    refine Ev.step (fun k => by rw [tidelinelaw03_ItemRises.l0]) ?_
    simp only [if_pos (show (i : Int) < (l.length : Int) by omega), if_pos (show (0 : Int) ≤ (i : Int) by omega)]
    generalize rd l (i : Int) = n
    refine Ev.bind (next_f c n) (Ev.bind (next_ref c n) ?_)
    simp only [beq_self_eq_true, Bool.not_true, Bool.or_false, if_neg (show ¬ (false = true) by decide), bne_self_eq_false]
    refine Ev.step (fun k => by rw [tidelinelaw03_ItemRises.j1]) ?_
    simp only [if_neg (show ¬ (false = true) by decide), chkv_f, Option.bind_some]
    rw [wrap_succ (q := i) (by omega)]
    rcases nextv_case c n with e | e | ⟨e, h0, h1, h2, h3⟩
    · rw [e]
      simp only [if_neg (show ¬ (30 : Int) = 0 by decide)]
      exact ih (i + 1) c a b (by omega) ha
    · rw [e]
      simp only [if_neg (show ¬ (33 : Int) = 0 by decide)]
      exact ih (i + 1) c a b (by omega) ha
    · rw [e]
      simp only [if_true]
      refine Ev.bind (cmpv_f _ _ _ _) ?_
      have hc : chkv (c + 1) n = 0 := by unfold chkv; rw [if_pos (by omega)]
      have hv : cmpv (c + 1) n a b = 1 := by
        rcases cmpv_cases (c + 1) n a b with ⟨e1, h⟩ | ⟨e1, h⟩ | ⟨e1, h⟩
        · exact e1
        · omega
        · omega
      simp only [if_pos hc, if_pos hv]
      exact ih (i + 1) (c + 1) (c + 1) n (by omega) (.inl (Int.le_refl _))
theorem ItemRises : tidelinelaw03_ItemRises.Pure := by
  intro c l _ _ _ _
  refine Ev.rounds ?_
  refine Ev.congr (fun k => by rw [tidelinelaw03_ItemRises.f]) ?_
  by_cases h : (l.length : Int) > 1048576
  · simp only [if_pos h]; exact Ev.const rfl
  · simp only [if_neg h]
    exact rises_loop l (by omega) l.length 0 c 0 0 (by omega) (.inr rfl)
end Go.Proofs.Ythalodnfecaccaa.Pure
