import Derived.Test.YtcfiobhebakhlaaPAllx0
import Derived.Test.YtcfiobhebakhlaaPAllx1
import Derived.Test.YtcfiobhebakhlaaSEv
import Derived.Test.YtcfiobhebakhlaaSLists
set_option linter.unusedVariables false
set_option linter.unusedSimpArgs false
namespace Go.Proofs.Ytcfiobhebakhlaa.Pure
open Go.RowKit Go.Proofs.Ytcfiobhebakhlaa.PAll Go.Proofs.YtcfiobhebakhlaaW.PrintWords Go.Proofs.YtcfiobhebakhlaaW.PrintLast Go.Proofs.YtcfiobhebakhlaaW.PrintMore
theorem mn_bd (a : Nat) : (0 : Int) ≤ mn (a : Int) 1073741824 ∧ mn (a : Int) 1073741824 ≤ 1073741824 := by unfold mn; split <;> omega
theorem beyond_loop (l : List ByteArray) (hl : l.length ≤ 140737488351232) (d : Nat) : ∀ (i : Nat) (n : Int), i + d = l.length → (l.length : Int) ≤ n → n ≤ 9223372036854 * 1000 → ∃ b, Ev (fun k => tidelinelaw07_beyond.l0 k l n (i : Int)) b ∧ (b = false → l.length ≤ 1073741824) := by
  induction d with
  | zero =>
    intro i n hd hn hn'
    refine ⟨decide (n > 1073741824), Ev.step (fun k => by rw [tidelinelaw07_beyond.l0]) ?_, fun h => by have := of_decide_eq_false h; omega⟩
    simp only [if_neg (show ¬ (i : Int) < (l.length : Int) by omega)]
    exact Ev.const rfl
  | succ d ih =>
    intro i n hd hn hn'
    by_cases h : n ≤ 1073741824
    · obtain ⟨h0, h1⟩ := mn_bd (rdOf ByteArray.empty l (i : Int)).size
      obtain ⟨b, hb, hf⟩ := ih (i + 1) (n + mn ((rdOf ByteArray.empty l (i : Int)).size : Int) 1073741824) (by omega) (by omega) (by omega)
      refine ⟨b, Ev.step (fun k => by rw [tidelinelaw07_beyond.l0]) ?_, hf⟩
      rw [wrap_id (x := n + _) (by omega) (by omega), wrap_succ (by omega)]
      simp only [if_pos (show (i : Int) < (l.length : Int) by omega), if_pos h, if_pos (show (0 : Int) ≤ (i : Int) by omega)]
      exact hb
    · refine ⟨decide (n > 1073741824), Ev.step (fun k => by rw [tidelinelaw07_beyond.l0]) ?_, fun h' => by have := of_decide_eq_false h'; omega⟩
      simp only [if_pos (show (i : Int) < (l.length : Int) by omega), if_neg h]
      exact Ev.const rfl
theorem beyond_ok (l : List ByteArray) (hl : l.length * 16 ≤ 140737488351232) (a b : ByteArray) (c : Bool) : ∃ r, Ev (fun k => tidelinelaw07_beyond.f k l a b c) r ∧ (r = false → l.length ≤ 1073741824) := by
  obtain ⟨h0, h1⟩ := mn_bd a.size
  obtain ⟨h2, h3⟩ := mn_bd b.size
  obtain ⟨r, hr, hf⟩ := beyond_loop l (by omega) l.length 0 (((l.length : Int) + mn (a.size : Int) 1073741824) + mn (b.size : Int) 1073741824) (by omega) (by omega) (by omega)
  refine ⟨r, Ev.congr (fun k => by rw [tidelinelaw07_beyond.f]) ?_, hf⟩
  rw [wrap_id (x := (l.length : Int) + mn (a.size : Int) 1073741824) (by omega) (by omega), wrap_id (by omega) (by omega)]
  exact hr
end Go.Proofs.Ytcfiobhebakhlaa.Pure
