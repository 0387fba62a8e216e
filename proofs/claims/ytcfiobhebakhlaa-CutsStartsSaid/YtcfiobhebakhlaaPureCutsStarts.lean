/- For every two ints the law CutsStarts answers true: where the parts of n things begin is the document's, no part is empty and no two differ by more than one. It has no condition. -/
import Derived.Test.YtcfiobhebakhlaaPAllx3
import Derived.Test.YtcfiobhebakhlaaPAllx4
import Derived.Test.YtcfiobhebakhlaaSEv
import Derived.Test.YtcfiobhebakhlaaSStarts
import Derived.Test.YtcfiobhebakhlaaSRefstarts
set_option linter.unusedVariables false
set_option linter.unusedSimpArgs false
namespace Go.Proofs.Ytcfiobhebakhlaa.Pure
open Go.RowKit Go.Proofs.Ytcfiobhebakhlaa.PAll Go.Proofs.YtcfiobhebakhlaaW.PrintWords Go.Proofs.YtcfiobhebakhlaaW.PrintLast Go.Proofs.YtcfiobhebakhlaaW.PrintMore
theorem same_loop (l : List Int) (hl : (l.length : Int) ≤ 9223372036854775806) (d : Nat) : ∀ (i : Nat), i + d = l.length → Ev (fun k => tidelinelaw07_sameInts.l0 k l l (i : Int)) true := by
  induction d with
  | zero =>
    intro i hd
    refine Ev.step (fun k => by rw [tidelinelaw07_sameInts.l0]) ?_
    simp only [if_neg (show ¬ (i : Int) < (l.length : Int) by omega)]
    exact Ev.const rfl
  | succ d ih =>
    intro i hd
    refine Ev.step (fun k => by rw [tidelinelaw07_sameInts.l0]) ?_
    have h1 : (i : Int) < (l.length : Int) := by omega
    have h3 : (0 : Int) ≤ (i : Int) := by omega
    simp only [if_pos h1, if_pos h3, if_true]
    rw [wrap_succ (by omega)]
    exact ih (i + 1) (by omega)
theorem same_self (l : List Int) (hl : (l.length : Int) ≤ 9223372036854775806) : Ev (fun k => tidelinelaw07_sameInts.f k l l) true := by
  refine Ev.congr (fun k => by rw [tidelinelaw07_sameInts.f, if_pos rfl]) ?_
  exact same_loop l hl l.length 0 (by omega)
theorem part_bd (n p i : Nat) (hp1 : 1 ≤ p) (hpn : p ≤ n) : n / p ≤ (i + 1) * n / p - i * n / p ∧ (i + 1) * n / p - i * n / p ≤ n / p + 1 ∧ i * n / p ≤ (i + 1) * n / p ∧ 1 ≤ n / p := by
  have e : (i + 1) * n = i * n + n := by rw [Nat.add_mul, Nat.one_mul]
  have h1 : 1 ≤ n / p := (Nat.le_div_iff_mul_le (by omega)).2 (by omega)
  have a := Nat.div_add_mod (i * n) p
  have b := Nat.div_add_mod n p
  have c := Nat.mod_lt (i * n) (show p > 0 by omega)
  have d := Nat.mod_lt n (show p > 0 by omega)
  have lo : i * n / p + n / p ≤ (i + 1) * n / p := by
    rw [e, Nat.le_div_iff_mul_le (by omega), Nat.add_mul, Nat.mul_comm _ p, Nat.mul_comm _ p]; omega
  have hi : (i + 1) * n / p < i * n / p + n / p + 2 := by
    rw [e, Nat.div_lt_iff_lt_mul (by omega), Nat.add_mul, Nat.add_mul, Nat.mul_comm _ p, Nat.mul_comm _ p]; omega
  omega
theorem rd_sts (n p i : Nat) (h : i < p) : rd (sts n p) (i : Int) = ((i * n / p : Nat) : Int) := by
  unfold rd; rw [Int.toNat_natCast, List.getD_eq_getElem?_getD, sts_get n p i h]; rfl
theorem law_loop (n p : Nat) (hp1 : 1 ≤ p) (hpn : p ≤ n) (hn : n ≤ 256) (d : Nat) : ∀ i : Nat, i + d = p → Ev (fun k => tidelinelaw07_CutsStarts.l0 k (n : Int) (p : Int) (sts n p) 0 (i : Int)) true := by
  induction d with
  | zero =>
    intro i hd
    refine Ev.step (fun k => by rw [tidelinelaw07_CutsStarts.l0]) ?_
    rw [sts_length]
    simp only [if_neg (show ¬ (i : Int) < (p : Int) by omega), if_true, if_pos (show (0 : Int) < (p : Int) by omega)]
    have := rd_sts n p 0 (by omega)
    refine Ev.const ?_
    rw [show (0 : Int) = ((0 : Nat) : Int) from rfl, this]
    simp
  | succ d ih =>
    intro i hd
    refine Ev.step (fun k => by rw [tidelinelaw07_CutsStarts.l0]) ?_
    have hb := part_bd n p i hp1 hpn
    have m1 := mul_bd (show i ≤ p by omega) hpn hn
    have m2 := mul_bd (show i + 1 ≤ p by omega) hpn hn
    have q1 : i * n / p ≤ i * n := Nat.div_le_self _ _
    have q2 : (i + 1) * n / p ≤ (i + 1) * n := Nat.div_le_self _ _
    have hnp : n / p ≤ n := Nat.div_le_self _ _
    rw [sts_length, wrap_id (x := (i : Int) + 1) (by omega) (by omega), tdiv_nat, wrap_id (x := ((n / p : Nat) : Int)) (by omega) (by omega), wrap_id (x := ((n / p : Nat) : Int) + 1) (by omega) (by omega)]
    simp only [if_pos (show (i : Int) < (p : Int) by omega), if_neg (show ¬ (p : Int) = 0 by omega), if_pos (show (0 : Int) ≤ (i : Int) by omega)]
    rw [rd_sts n p i (by omega)]
    by_cases hl : i + 1 < p
    · rw [show ((i : Int) + 1) = ((i + 1 : Nat) : Int) by omega, rd_sts n p (i + 1) hl]
      rw [wrap_id (x := (((i + 1) * n / p : Nat) : Int) - ((i * n / p : Nat) : Int)) (by omega) (by omega)]
      simp only [if_pos (show ((i + 1 : Nat) : Int) < (p : Int) by omega), if_pos (show (0 : Int) ≤ ((i + 1 : Nat) : Int) by omega)]
      simp only [if_neg (show ¬ (((i + 1) * n / p : Nat) : Int) - ((i * n / p : Nat) : Int) < ((n / p : Nat) : Int) by omega), if_neg (show ¬ (((i + 1) * n / p : Nat) : Int) - ((i * n / p : Nat) : Int) > ((n / p : Nat) : Int) + 1 by omega),
        if_neg (show ¬ (((i + 1) * n / p : Nat) : Int) - ((i * n / p : Nat) : Int) < 1 by omega)]
      exact ih (i + 1) (by omega)
    · have hip : i + 1 = p := by omega
      have ee : (i + 1) * n / p = n := by rw [hip, Nat.mul_div_cancel_left _ (by omega)]
      rw [ee] at hb
      rw [wrap_id (x := (n : Int) - ((i * n / p : Nat) : Int)) (by omega) (by omega)]
      simp only [if_neg (show ¬ ((i : Int) + 1) < (p : Int) by omega)]
      simp only [if_neg (show ¬ (n : Int) - ((i * n / p : Nat) : Int) < ((n / p : Nat) : Int) by omega), if_neg (show ¬ (n : Int) - ((i * n / p : Nat) : Int) > ((n / p : Nat) : Int) + 1 by omega),
        if_neg (show ¬ (n : Int) - ((i * n / p : Nat) : Int) < 1 by omega)]
      exact ih (i + 1) (by omega)
theorem law_bad (a b : Int) : Ev (fun k => tidelinelaw07_CutsStarts.l0 k a b [] 1 0) true := by
  refine Ev.step (fun k => by rw [tidelinelaw07_CutsStarts.l0]) ?_
  simp only [List.length_nil, if_neg (show ¬ (0 : Int) < ((0 : Nat) : Int) by decide), if_neg (show ¬ (1 : Int) = 0 by decide)]
  exact Ev.const rfl
theorem CutsStarts : tidelinelaw07_CutsStarts.Pure := by
  intro a b wa wb
  refine Ev.rounds ?_
  refine Ev.congr (fun k => by rw [tidelinelaw07_CutsStarts.f]) ?_
  by_cases h : a < 1 ∨ a > 256 ∨ b < 1 ∨ b > a
  · refine Ev.bind (starts_bad a b h) (Ev.bind (rstarts_bad a b h) ?_)
    simp only [if_true]
    refine Ev.bind (same_self [] (by simp)) ?_
    refine Ev.step (fun k => by rw [tidelinelaw07_CutsStarts.j0]) ?_
    simp only [Bool.not_true, if_neg (show ¬ (false = true) by decide)]
    exact law_bad a b
  · obtain ⟨n, rfl⟩ := Int.eq_ofNat_of_zero_le (show 0 ≤ a by omega)
    obtain ⟨p, rfl⟩ := Int.eq_ofNat_of_zero_le (show 0 ≤ b by omega)
    refine Ev.bind (starts_ok n p (by omega) (by omega) (by omega)) (Ev.bind (rstarts_ok n p (by omega) (by omega) (by omega)) ?_)
    simp only [if_true]
    refine Ev.bind (same_self (sts n p) (by rw [sts_length]; omega)) ?_
    refine Ev.step (fun k => by rw [tidelinelaw07_CutsStarts.j0]) ?_
    simp only [Bool.not_true, if_neg (show ¬ (false = true) by decide)]
    exact law_loop n p (by omega) (by omega) (by omega) p 0 (by omega)
end Go.Proofs.Ytcfiobhebakhlaa.Pure
