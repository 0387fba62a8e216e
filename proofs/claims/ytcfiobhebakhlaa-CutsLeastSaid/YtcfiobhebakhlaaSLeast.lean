import Derived.Test.YtcfiobhebakhlaaPAllx5
import Derived.Test.YtcfiobhebakhlaaPAllx7
import Derived.Test.YtcfiobhebakhlaaSEv
set_option linter.unusedVariables false
set_option linter.unusedSimpArgs false
namespace Go.Proofs.Ytcfiobhebakhlaa.Pure
open Go.RowKit Go.Proofs.Ytcfiobhebakhlaa.PAll Go.Proofs.YtcfiobhebakhlaaW.PrintWords Go.Proofs.YtcfiobhebakhlaaW.PrintLast Go.Proofs.YtcfiobhebakhlaaW.PrintMore
/-- The least whole number that is at least n / p. -/
def cl (n p : Nat) : Nat := (n + p - 1) / p
theorem cl_le (n p : Nat) (hp : 1 ≤ p) : cl n p ≤ n := by
  unfold cl
  rcases Nat.eq_zero_or_pos n with rfl | hn
  · rw [Nat.div_eq_of_lt (by omega)]; omega
  · refine Nat.le_of_lt_succ ((Nat.div_lt_iff_lt_mul (by omega)).2 ?_)
    have h1 : n * 1 ≤ n * p := Nat.mul_le_mul_left n hp
    rw [Nat.succ_mul]
    omega
theorem cl_le_iff (n p m : Nat) (hp : 1 ≤ p) : cl n p ≤ m ↔ n ≤ m * p := by
  unfold cl
  rw [← Nat.lt_succ_iff, Nat.div_lt_iff_lt_mul (by omega), Nat.succ_mul]
  omega
theorem cl_cl (n p b : Nat) (hp : 1 ≤ p) (hb : 1 ≤ b) : cl (cl n p) b = cl n (p * b) := by
  have hpb : 1 ≤ p * b := Nat.mul_pos hp hb
  have key : ∀ m, cl (cl n p) b ≤ m ↔ cl n (p * b) ≤ m := by
    intro m
    rw [cl_le_iff _ _ _ hb, cl_le_iff _ _ _ hp, cl_le_iff _ _ _ hpb, Nat.mul_assoc, Nat.mul_comm b p]
  exact Nat.le_antisymm ((key _).2 (Nat.le_refl _)) ((key _).1 (Nat.le_refl _))
theorem cl_one (n : Nat) : cl n 1 = n := by simp [cl]
theorem cl_big (n p q : Nat) (hp : n ≤ p) (hq : n ≤ q) (hp1 : 1 ≤ p) (hq1 : 1 ≤ q) : cl n p = cl n q := by
  rcases Nat.eq_zero_or_pos n with rfl | hn
  · have a := cl_le 0 p hp1; have b := cl_le 0 q hq1; omega
  · have a : cl n p ≤ 1 := (cl_le_iff _ _ _ hp1).2 (by omega)
    have b : cl n q ≤ 1 := (cl_le_iff _ _ _ hq1).2 (by omega)
    have a' : ¬ cl n p ≤ 0 := by rw [cl_le_iff _ _ _ hp1]; omega
    have b' : ¬ cl n q ≤ 0 := by rw [cl_le_iff _ _ _ hq1]; omega
    omega
theorem pow_pos' (b i : Nat) (hb : 2 ≤ b) : 1 ≤ b ^ i := Nat.pow_pos (by omega)
theorem cl_step (n b : Nat) (hn : n ≤ 256) (hb : 2 ≤ b) (hb' : b ≤ 16) : wrap64 (Int.tdiv (wrap64 ((wrap64 ((n : Int) + (b : Int))) - 1)) (b : Int)) = ((cl n b : Nat) : Int) := by
  rw [wrap_id (x := (n : Int) + (b : Int)) (by omega) (by omega), show (n : Int) + (b : Int) - 1 = ((n + b - 1 : Nat) : Int) by omega, wrap_nat (by omega), tdiv_nat]
  have := cl_le n b (by omega)
  unfold cl at this ⊢
  exact wrap_nat (by omega)
theorem least_loop (b s : Nat) (hb : 2 ≤ b) (hb' : b ≤ 16) (hs : s ≤ 64) (d : Nat) : ∀ (i n : Nat), i + d = s → n ≤ 256 → Ev (fun k => cuts_Least.l0 k (n : Int) (b : Int) (s : Int) (i : Int)) (((cl n (b ^ d) : Nat) : Int), 0) := by
  induction d with
  | zero =>
    intro i n hd hn
    refine Ev.step (fun k => by rw [cuts_Least.l0]) ?_
    simp only [if_neg (show ¬ (i : Int) < (s : Int) by omega)]
    exact Ev.const (by rw [Nat.pow_zero, cl_one])
  | succ d ih =>
    intro i n hd hn
    refine Ev.step (fun k => by rw [cuts_Least.l0]) ?_
    simp only [if_pos (show (i : Int) < (s : Int) by omega), if_neg (show ¬ (b : Int) = 0 by omega)]
    rw [cl_step n b hn hb hb', wrap_succ (by omega)]
    have h := ih (i + 1) (cl n b) (by omega) (Nat.le_trans (cl_le n b (by omega)) hn)
    rw [cl_cl n b (b ^ d) (by omega) (pow_pos' b d hb), ← Nat.pow_succ'] at h
    exact h
theorem least_go (n b s : Nat) (hn : n ≤ 256) (hb : 2 ≤ b) (hb' : b ≤ 16) (hs : s ≤ 63) : Ev (fun k => cuts_Least.f k (n : Int) (b : Int) (s : Int)) (((cl n (b ^ s) : Nat) : Int), 0) := by
  have h1 : ¬ (n : Int) < 0 := by omega
  have h2 : ¬ (n : Int) > 256 := by omega
  have h3 : (2 : Int) ≤ (b : Int) := by omega
  have h4 : decide ((b : Int) ≤ 16) = true := decide_eq_true (by omega)
  have h5 : ¬ (s : Int) < 0 := by omega
  have h6 : decide ((s : Int) > 63) = false := decide_eq_false (by omega)
  refine Ev.congr (f := fun k => cuts_Least.j0 k (n : Int) (b : Int) (s : Int) false) (fun k => by
    rw [cuts_Least.f, if_neg h1, if_neg h2, cuts_isBranch.f, if_pos h3, h4, Option.bind_some, if_pos rfl, if_neg h5, h6]) ?_
  refine Ev.step (fun k => by rw [cuts_Least.j0]) ?_
  simp only [if_neg (show ¬ (false = true) by decide)]
  exact least_loop b s hb hb' (by omega) s 0 n (by omega) hn
theorem least_bad (n b s : Int) (h : ¬ (0 ≤ n ∧ n ≤ 256 ∧ 2 ≤ b ∧ b ≤ 16 ∧ 0 ≤ s ∧ s ≤ 63)) : Ev (fun k => cuts_Least.f k n b s) (0, 1) := by
  have g : ∀ k, cuts_Least.f k n b s = cuts_Least.j0 k n b s true := by
    intro k
    unfold cuts_Least.f cuts_isBranch.f
    by_cases h1 : n < 0
    · rw [if_pos h1]
    rw [if_neg h1]
    by_cases h2 : n > 256
    · rw [if_pos h2]
    rw [if_neg h2]
    by_cases h3 : 2 ≤ b
    · rw [if_pos h3, Option.bind_some]
      by_cases h4 : b ≤ 16
      · rw [decide_eq_true h4, if_pos rfl]
        by_cases h5 : s < 0
        · rw [if_pos h5]
        rw [if_neg h5, decide_eq_true (show s > 63 by omega)]
      · rw [decide_eq_false h4, if_neg (by decide)]
    · rw [if_neg h3, Option.bind_some, if_neg (by decide)]
  refine Ev.congr g (Ev.step (fun k => by rw [cuts_Least.j0]) ?_)
  exact Ev.const rfl
end Go.Proofs.Ytcfiobhebakhlaa.Pure
