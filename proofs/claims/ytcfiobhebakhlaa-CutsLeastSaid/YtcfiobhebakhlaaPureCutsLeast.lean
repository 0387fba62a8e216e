/- For every three ints the law CutsLeast answers true: how many keys a range has at most behind splits is the document's number, one at most behind Depth splits, and split by split no part has more. It has no condition. -/
import Derived.Test.YtcfiobhebakhlaaPAllx5
import Derived.Test.YtcfiobhebakhlaaPAllx9
import Derived.Test.YtcfiobhebakhlaaSEv
import Derived.Test.YtcfiobhebakhlaaSStarts
import Derived.Test.YtcfiobhebakhlaaSDepth
import Derived.Test.YtcfiobhebakhlaaSLeast
import Derived.Test.YtcfiobhebakhlaaSRleast
set_option linter.unusedVariables false
set_option linter.unusedSimpArgs false
namespace Go.Proofs.Ytcfiobhebakhlaa.Pure
open Go.RowKit Go.Proofs.Ytcfiobhebakhlaa.PAll Go.Proofs.YtcfiobhebakhlaaW.PrintWords Go.Proofs.YtcfiobhebakhlaaW.PrintLast Go.Proofs.YtcfiobhebakhlaaW.PrintMore
theorem part_cl (n p i : Nat) (hp1 : 1 ≤ p) : (i + 1) * n / p ≤ i * n / p + cl n p ∧ i * n / p ≤ (i + 1) * n / p := by
  have hc : n ≤ cl n p * p := (cl_le_iff n p _ hp1).1 (Nat.le_refl _)
  constructor
  · refine Nat.le_of_lt_succ ((Nat.div_lt_iff_lt_mul (by omega)).2 ?_)
    have a := Nat.div_add_mod (i * n) p
    have c := Nat.mod_lt (i * n) (show p > 0 by omega)
    rw [Nat.add_mul i 1 n, Nat.one_mul, Nat.succ_mul, Nat.add_mul, Nat.mul_comm (i * n / p) p]
    omega
  · exact Nat.div_le_div_right (Nat.mul_le_mul_right n (by omega))
theorem rd_sts (n p i : Nat) (h : i < p) : rd (sts n p) (i : Int) = ((i * n / p : Nat) : Int) := by
  unfold rd; rw [Int.toNat_natCast, List.getD_eq_getElem?_getD, sts_get n p i h]; rfl
theorem leaw_loop (n p x : Nat) (hp1 : 1 ≤ p) (hpn : p ≤ n) (hn : n ≤ 256) (hx : cl n p ≤ x) (d : Nat) : ∀ i : Nat, i + d = p → Ev (fun k => tidelinelaw07_CutsLeast.l0 k (n : Int) (p : Int) (sts n p) (x : Int) (i : Int)) true := by
  induction d with
  | zero =>
    intro i hd
    refine Ev.step (fun k => by rw [tidelinelaw07_CutsLeast.l0]) ?_
    simp only [if_neg (show ¬ (i : Int) < (p : Int) by omega)]
    exact Ev.const rfl
  | succ d ih =>
    intro i hd
    refine Ev.step (fun k => by rw [tidelinelaw07_CutsLeast.l0]) ?_
    have hb := part_cl n p i hp1
    have m1 := mul_bd (show i ≤ p by omega) hpn hn
    have m2 := mul_bd (show i + 1 ≤ p by omega) hpn hn
    have q1 : i * n / p ≤ i * n := Nat.div_le_self _ _
    have q2 : (i + 1) * n / p ≤ (i + 1) * n := Nat.div_le_self _ _
    have z1 : (0 : Int) ≤ ((i * n / p : Nat) : Int) := Int.natCast_nonneg _
    have z2 : (0 : Int) ≤ (((i + 1) * n / p : Nat) : Int) := Int.natCast_nonneg _
    rw [sts_length, wrap_succ (q := i) (by omega)]
    simp only [if_pos (show (i : Int) < (p : Int) by omega), if_pos (show (0 : Int) ≤ (i : Int) by omega), if_pos (show (0 : Int) ≤ ((i + 1 : Nat) : Int) by omega)]
    rw [rd_sts n p i (by omega)]
    by_cases hl : i + 1 < p
    · rw [rd_sts n p (i + 1) hl]
      rw [wrap_id (x := (((i + 1) * n / p : Nat) : Int) - ((i * n / p : Nat) : Int)) (by omega) (by omega)]
      simp only [if_pos (show ((i + 1 : Nat) : Int) < (p : Int) by omega), if_neg (show ¬ (((i + 1) * n / p : Nat) : Int) - ((i * n / p : Nat) : Int) > (x : Int) by omega)]
      exact ih (i + 1) (by omega)
    · have hip : i + 1 = p := by omega
      have ee : (i + 1) * n / p = n := by rw [hip, Nat.mul_div_cancel_left _ (by omega)]
      rw [ee] at hb
      rw [wrap_id (x := (n : Int) - ((i * n / p : Nat) : Int)) (by omega) (by omega)]
      simp only [if_neg (show ¬ ((i + 1 : Nat) : Int) < (p : Int) by omega), if_neg (show ¬ (n : Int) - ((i * n / p : Nat) : Int) > (x : Int) by omega)]
      exact ih (i + 1) (by omega)
theorem depth_pow : ∀ b : Fin 15, 256 ≤ (b.val + 2) ^ (depthOf ((b.val : Int) + 2)).toNat := by decide +kernel
theorem mn_nat (a b : Nat) : mn (a : Int) (b : Int) = ((min a b : Nat) : Int) := by unfold mn; split <;> omega
theorem CutsLeast : tidelinelaw07_CutsLeast.Pure := by
  intro n b s wn wb ws
  refine Ev.rounds ?_
  refine Ev.congr (fun k => by rw [tidelinelaw07_CutsLeast.f]) ?_
  by_cases h : ¬ (0 ≤ n ∧ n ≤ 256 ∧ 2 ≤ b ∧ b ≤ 16 ∧ 0 ≤ s ∧ s ≤ 63)
  · refine Ev.bind (least_bad n b s h) (Ev.bind (rleast_bad n b s h) ?_)
    simp only [if_true]
    refine Ev.step (fun k => by rw [tidelinelaw07_CutsLeast.j0]) ?_
    exact Ev.const rfl
  · have h := Decidable.not_not.1 h
    obtain ⟨n, rfl⟩ := Int.eq_ofNat_of_zero_le (show 0 ≤ n by omega)
    obtain ⟨b, rfl⟩ := Int.eq_ofNat_of_zero_le (show 0 ≤ b by omega)
    obtain ⟨s, rfl⟩ := Int.eq_ofNat_of_zero_le (show 0 ≤ s by omega)
    have hn : n ≤ 256 := by omega
    have hb : 2 ≤ b := by omega
    have hb' : b ≤ 16 := by omega
    have hs : s ≤ 63 := by omega
    clear h wn wb ws
    refine Ev.bind (least_go n b s hn hb hb' hs) (Ev.bind (rleast_go n b s hn hb hb' hs) ?_)
    simp only [if_true]
    refine Ev.step (fun k => by rw [tidelinelaw07_CutsLeast.j0]) ?_
    simp only [if_neg (show ¬ ((0 : Int) != 0) = true by decide), if_true]
    have hd : Ev (fun k => cuts_Depth.f k (b : Int)) (depthOf (b : Int), 0) := ⟨20, fun k hk => (depth_ok (b : Int) (by omega) (by omega) k hk).1⟩
    refine Ev.bind hd ?_
    have hdb := depth_bd (b : Int)
    obtain ⟨dn, hdn⟩ := Int.eq_ofNat_of_zero_le (show 0 ≤ depthOf (b : Int) by omega)
    have hpow : 256 ≤ b ^ dn := by
      have := depth_pow ⟨b - 2, by omega⟩
      simp only [show ((b - 2 : Nat) : Int) + 2 = (b : Int) by omega, show b - 2 + 2 = b by omega, hdn, Int.toNat_natCast] at this
      exact this
    have hone := least_go n b dn hn hb hb' (by omega)
    rw [hdn]
    refine Ev.bind hone ?_
    simp only [if_true]
    have h1 : cl n (b ^ dn) ≤ 1 := (cl_le_iff _ _ _ (by omega)).2 (by omega)
    rw [decide_eq_false (show ¬ ((cl n (b ^ dn) : Nat) : Int) > 1 by omega)]
    refine Ev.step (fun k => by rw [tidelinelaw07_CutsLeast.j1]) ?_
    simp only [if_neg (show ¬ (false = true) by decide)]
    generalize hk : cl n (b ^ s) = kk
    have hkn : kk ≤ n := by rw [← hk]; exact cl_le _ _ (pow_pos' b s hb)
    by_cases hk0 : kk = 0
    · simp only [if_pos (show (kk : Int) = 0 by omega)]
      refine Ev.step (fun k => by rw [tidelinelaw07_CutsLeast.j2]) ?_
      exact Ev.const rfl
    · simp only [if_neg (show ¬ (kk : Int) = 0 by omega)]
      by_cases hs63 : s = 63
      · rw [show ((s : Int) == 63) = true by rw [beq_iff_eq]; omega]
        refine Ev.step (fun k => by rw [tidelinelaw07_CutsLeast.j2]) ?_
        exact Ev.const rfl
      · rw [show ((s : Int) == 63) = false by rw [beq_eq_false_iff_ne]; omega]
        refine Ev.step (fun k => by rw [tidelinelaw07_CutsLeast.j2]) ?_
        simp only [if_neg (show ¬ (false = true) by decide)]
        rw [mn_nat, wrap_succ (by omega)]
        refine Ev.bind (starts_ok kk (min kk b) (by omega) (by omega) (by omega)) (Ev.bind (least_go n b (s + 1) hn hb hb' (by omega)) ?_)
        simp only [if_true, sts_length]
        rw [show (((min kk b : Nat) : Int) != ((min kk b : Nat) : Int)) = false by simp]
        refine Ev.step (fun k => by rw [tidelinelaw07_CutsLeast.j3]) ?_
        simp only [if_neg (show ¬ (false = true) by decide)]
        rw [Nat.pow_succ, ← cl_cl n _ b (pow_pos' b s hb) (by omega), hk]
        refine leaw_loop kk (min kk b) _ (by omega) (by omega) (by omega) ?_ (min kk b) 0 (by omega)
        rw [cl_le_iff _ _ _ (by omega)]
        have h2 : kk ≤ cl kk b * b := (cl_le_iff _ _ _ (by omega)).1 (Nat.le_refl _)
        by_cases hm : kk ≤ b
        · rw [Nat.min_eq_left hm]
          have h3 : 1 ≤ cl kk b := by
            rcases Nat.eq_zero_or_pos (cl kk b) with h0 | h0
            · rw [h0] at h2; omega
            · exact h0
          calc kk = 1 * kk := (Nat.one_mul _).symm
            _ ≤ cl kk b * kk := Nat.mul_le_mul_right _ h3
        · rw [Nat.min_eq_right (by omega)]; exact h2
end Go.Proofs.Ytcfiobhebakhlaa.Pure
