import Derived.Test.YtcfiobhebakhlaaPAllx0
import Derived.Test.YtcfiobhebakhlaaPAllx4
import Derived.Test.YtcfiobhebakhlaaSEv
import Derived.Test.YtcfiobhebakhlaaSStarts
set_option linter.unusedVariables false
set_option linter.unusedSimpArgs false
namespace Go.Proofs.Ytcfiobhebakhlaa.Pure
open Go.RowKit Go.Proofs.Ytcfiobhebakhlaa.PAll Go.Proofs.YtcfiobhebakhlaaW.PrintWords Go.Proofs.YtcfiobhebakhlaaW.PrintLast Go.Proofs.YtcfiobhebakhlaaW.PrintMore
theorem sts_take (n p i : Nat) (h : i < p) : (sts n p).take (i + 1) = (sts n p).take i ++ [((i * n / p : Nat) : Int)] := by
  rw [List.take_add_one, sts_get n p i h]; rfl
theorem rstarts_loop (n p : Nat) (hp1 : 1 ≤ p) (hpn : p ≤ n) (hn : n ≤ 256) (d : Nat) : ∀ (i : Nat), i + d = p →
    Ev (fun k => tidelineref07_Starts.l0 k (n : Int) (p : Int) ((sts n p).take i) (i : Int)) (sts n p, 0) := by
  induction d with
  | zero =>
    intro i hd
    refine Ev.step (fun k => by rw [tidelineref07_Starts.l0]) ?_
    simp only [if_neg (show ¬ (i : Int) < (p : Int) by omega)]
    exact Ev.const (by rw [List.take_of_length_le (by rw [sts_length]; omega)])
  | succ d ih =>
    intro i hd
    refine Ev.step (fun k => by rw [tidelineref07_Starts.l0]) ?_
    have h1 : (i : Int) < (p : Int) := by omega
    have h2 : ¬ (p : Int) = 0 := by omega
    have h4 : ((sts n p).take i).length < 17592186044416 := by rw [List.length_take, sts_length]; omega
    simp only [if_pos h1, if_neg h2, if_pos h4]
    rw [st_val (by omega) hpn hn, wrap_succ (by omega), ← sts_take n p i (by omega)]
    exact ih (i + 1) (by omega)
theorem rstarts_ok (n p : Nat) (hp1 : 1 ≤ p) (hpn : p ≤ n) (hn : n ≤ 256) : Ev (fun k => tidelineref07_Starts.f k (n : Int) (p : Int)) (sts n p, 0) := by
  have h1 : ¬ (n : Int) < 1 := by omega
  have h2 : ¬ (n : Int) > 256 := by omega
  have h3 : ¬ (p : Int) < 1 := by omega
  have h4 : decide ((p : Int) > (n : Int)) = false := by simp; omega
  refine Ev.congr (fun k => by rw [tidelineref07_Starts.f, if_neg h1, if_neg h2, if_neg h3, h4]) ?_
  refine Ev.step (fun k => by rw [tidelineref07_Starts.j0]) ?_
  have h5 : ¬ (false = true) := by decide
  simp only [if_neg h5]
  exact rstarts_loop n p hp1 hpn hn p 0 (by omega)
theorem rstarts_bad (a b : Int) (h : a < 1 ∨ a > 256 ∨ b < 1 ∨ b > a) : Ev (fun k => tidelineref07_Starts.f k a b) ([], 1) := by
  have g : ∀ k, tidelineref07_Starts.f k a b = tidelineref07_Starts.j0 k a b true := by
    intro k
    unfold tidelineref07_Starts.f
    by_cases h1 : a < 1
    · rw [if_pos h1]
    · rw [if_neg h1]
      by_cases h2 : a > 256
      · rw [if_pos h2]
      · rw [if_neg h2]
        by_cases h3 : b < 1
        · rw [if_pos h3]
        · rw [if_neg h3]
          have : decide (b > a) = true := by simp; omega
          rw [this]
  refine Ev.congr g (Ev.step (fun k => by rw [tidelineref07_Starts.j0]) ?_)
  exact Ev.const rfl
end Go.Proofs.Ytcfiobhebakhlaa.Pure
