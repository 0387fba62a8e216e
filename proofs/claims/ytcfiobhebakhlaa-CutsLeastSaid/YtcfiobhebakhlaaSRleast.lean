import Derived.Test.YtcfiobhebakhlaaPAllx5
import Derived.Test.YtcfiobhebakhlaaPAllx8
import Derived.Test.YtcfiobhebakhlaaSEv
import Derived.Test.YtcfiobhebakhlaaSLeast
set_option linter.unusedVariables false
set_option linter.unusedSimpArgs false
namespace Go.Proofs.Ytcfiobhebakhlaa.Pure
open Go.RowKit Go.Proofs.Ytcfiobhebakhlaa.PAll Go.Proofs.YtcfiobhebakhlaaW.PrintWords Go.Proofs.YtcfiobhebakhlaaW.PrintLast Go.Proofs.YtcfiobhebakhlaaW.PrintMore
theorem rcl_val (n p : Nat) (hn : n ≤ 256) (hp : 1 ≤ p) (hp' : p ≤ 4096) : wrap64 (Int.tdiv (wrap64 ((wrap64 ((n : Int) + (p : Int))) - 1)) (p : Int)) = ((cl n p : Nat) : Int) := by
  rw [wrap_id (x := (n : Int) + (p : Int)) (by omega) (by omega), show (n : Int) + (p : Int) - 1 = ((n + p - 1 : Nat) : Int) by omega, wrap_nat (by omega), tdiv_nat]
  have := cl_le n p (by omega)
  unfold cl at this ⊢
  exact wrap_nat (by omega)
theorem rleast_loop (n b s : Nat) (hn : n ≤ 256) (hb : 2 ≤ b) (hb' : b ≤ 16) (hs : s ≤ 64) (d : Nat) : ∀ (i : Nat), i + d = s → b ^ i ≤ 4096 → Ev (fun k => tidelineref07_Least.l0 k (n : Int) (b : Int) (s : Int) ((b ^ i : Nat) : Int) (i : Int)) (((cl n (b ^ s) : Nat) : Int), 0) := by
  induction d with
  | zero =>
    intro i hd hp
    obtain rfl : i = s := by omega
    refine Ev.step (fun k => by rw [tidelineref07_Least.l0]) ?_
    have h1 := pow_pos' b i hb
    simp only [if_neg (show ¬ (i : Int) < (i : Int) by omega), if_neg (show ¬ ((b ^ i : Nat) : Int) = 0 by omega)]
    exact Ev.const (by rw [rcl_val n _ hn h1 hp])
  | succ d ih =>
    intro i hd hp
    refine Ev.step (fun k => by rw [tidelineref07_Least.l0]) ?_
    have h1 := pow_pos' b i hb
    simp only [if_pos (show (i : Int) < (s : Int) by omega), if_neg (show ¬ ((b ^ i : Nat) : Int) = 0 by omega)]
    by_cases hq : b ^ i ≤ 256
    · simp only [if_pos (show ((b ^ i : Nat) : Int) ≤ 256 by omega)]
      have h2 : b ^ (i + 1) ≤ 4096 := by
        rw [Nat.pow_succ]; exact Nat.le_trans (Nat.mul_le_mul hq hb') (by decide)
      rw [show ((b ^ i : Nat) : Int) * (b : Int) = ((b ^ (i + 1) : Nat) : Int) by rw [Nat.pow_succ]; simp, wrap_nat (by omega), wrap_succ (by omega)]
      exact ih (i + 1) (by omega) h2
    · simp only [if_neg (show ¬ ((b ^ i : Nat) : Int) ≤ 256 by omega)]
      refine Ev.const ?_
      rw [rcl_val n _ hn h1 hp]
      have h3 : b ^ i ≤ b ^ s := Nat.pow_le_pow_right (by omega) (by omega)
      rw [cl_big n (b ^ i) (b ^ s) (by omega) (by omega) h1 (by omega)]
theorem rleast_go (n b s : Nat) (hn : n ≤ 256) (hb : 2 ≤ b) (hb' : b ≤ 16) (hs : s ≤ 63) : Ev (fun k => tidelineref07_Least.f k (n : Int) (b : Int) (s : Int)) (((cl n (b ^ s) : Nat) : Int), 0) := by
  have h1 : ¬ (n : Int) < 0 := by omega
  have h2 : ¬ (n : Int) > 256 := by omega
  have h3 : (b : Int) ≥ 2 := by omega
  have h4 : decide ((b : Int) ≤ 16) = true := decide_eq_true (by omega)
  have h5 : ¬ (s : Int) < 0 := by omega
  have h6 : decide ((s : Int) > 63) = false := decide_eq_false (by omega)
  refine Ev.congr (f := fun k => tidelineref07_Least.j0 k (n : Int) (b : Int) (s : Int) false) (fun k => by
    rw [tidelineref07_Least.f, if_neg h1, if_neg h2, tidelineref07_right.f, if_pos h3, h4, Option.bind_some, if_pos rfl, if_neg h5, h6]) ?_
  refine Ev.step (fun k => by rw [tidelineref07_Least.j0]) ?_
  simp only [if_neg (show ¬ (false = true) by decide)]
  exact rleast_loop n b s hn hb hb' (by omega) s 0 (by omega) (by simp)
theorem rleast_bad (n b s : Int) (h : ¬ (0 ≤ n ∧ n ≤ 256 ∧ 2 ≤ b ∧ b ≤ 16 ∧ 0 ≤ s ∧ s ≤ 63)) : Ev (fun k => tidelineref07_Least.f k n b s) (0, 1) := by
  have g : ∀ k, tidelineref07_Least.f k n b s = tidelineref07_Least.j0 k n b s true := by
    intro k
    unfold tidelineref07_Least.f tidelineref07_right.f
    by_cases h1 : n < 0
    · rw [if_pos h1]
    rw [if_neg h1]
    by_cases h2 : n > 256
    · rw [if_pos h2]
    rw [if_neg h2]
    by_cases h3 : b ≥ 2
    · rw [if_pos h3, Option.bind_some]
      by_cases h4 : b ≤ 16
      · rw [decide_eq_true h4, if_pos rfl]
        by_cases h5 : s < 0
        · rw [if_pos h5]
        rw [if_neg h5, decide_eq_true (show s > 63 by omega)]
      · rw [decide_eq_false h4, if_neg (by decide)]
    · rw [if_neg h3, Option.bind_some, if_neg (by decide)]
  refine Ev.congr g (Ev.step (fun k => by rw [tidelineref07_Least.j0]) ?_)
  exact Ev.const rfl
end Go.Proofs.Ytcfiobhebakhlaa.Pure
