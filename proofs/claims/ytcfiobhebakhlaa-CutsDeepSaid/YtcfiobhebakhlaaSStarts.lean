import Derived.Test.YtcfiobhebakhlaaPAllx0
import Derived.Test.YtcfiobhebakhlaaPAllx1
import Derived.Test.YtcfiobhebakhlaaSEv
set_option linter.unusedVariables false
set_option linter.unusedSimpArgs false
namespace Go.Proofs.Ytcfiobhebakhlaa.Pure
open Go.RowKit Go.Proofs.Ytcfiobhebakhlaa.PAll Go.Proofs.YtcfiobhebakhlaaW.PrintWords Go.Proofs.YtcfiobhebakhlaaW.PrintLast Go.Proofs.YtcfiobhebakhlaaW.PrintMore
/-- Where the parts of n things begin. -/
def sts (n p : Nat) : List Int := (List.range p).map (fun j => ((j * n / p : Nat) : Int))
theorem sts_length (n p : Nat) : (sts n p).length = p := by simp [sts]
theorem sts_get (n p i : Nat) (h : i < p) : (sts n p)[i]? = some ((i * n / p : Nat) : Int) := by
  simp [sts, List.getElem?_map, List.getElem?_range h]
theorem mul_bd {i n p : Nat} (hi : i ≤ p) (hp : p ≤ n) (hn : n ≤ 256) : i * n ≤ 65536 :=
  Nat.le_trans (Nat.mul_le_mul (Nat.le_trans hi (Nat.le_trans hp hn)) hn) (by decide)
theorem st_val {i n p : Nat} (hi : i ≤ p) (hp : p ≤ n) (hn : n ≤ 256) :
    wrap64 (Int.tdiv (wrap64 ((i : Int) * (n : Int))) (p : Int)) = ((i * n / p : Nat) : Int) := by
  have hb := mul_bd hi hp hn
  have e1 : ((i : Int) * (n : Int)) = ((i * n : Nat) : Int) := by simp
  have hd : i * n / p ≤ i * n := Nat.div_le_self _ _
  rw [e1, wrap_nat (by omega), tdiv_nat, wrap_nat (Nat.le_trans hd (by omega))]
theorem starts_loop (n p : Nat) (hp1 : 1 ≤ p) (hpn : p ≤ n) (hn : n ≤ 256) (d : Nat) : ∀ (i : Nat) (l : List Int), i + d = p → l.length = p →
    (∀ j, j < i → l[j]? = (sts n p)[j]?) → Ev (fun k => cuts_Starts.l0 k (n : Int) (p : Int) l (p : Int) (i : Int)) (sts n p, 0) := by
  induction d with
  | zero =>
    intro i l hd hl hj
    refine Ev.step (fun k => by rw [cuts_Starts.l0]) ?_
    simp only [if_neg (show ¬ (i : Int) < (p : Int) by omega)]
    have e : l = sts n p := List.ext_getElem? fun j => by
      by_cases h : j < i
      · exact hj j h
      · rw [List.getElem?_eq_none (by omega), List.getElem?_eq_none (by rw [sts_length]; omega)]
    exact Ev.const (by rw [e])
  | succ d ih =>
    intro i l hd hl hj
    refine Ev.step (fun k => by rw [cuts_Starts.l0]) ?_
    have h1 : (i : Int) < (p : Int) := by omega
    have h2 : ¬ (p : Int) = 0 := by omega
    have h3 : (0 : Int) ≤ (i : Int) := by omega
    have h4 : (i : Int) < (l.length : Int) := by omega
    simp only [if_pos h1, if_neg h2, if_pos h3, if_pos h4]
    rw [st_val (by omega) hpn hn, wrap_succ (by omega), Int.toNat_natCast]
    refine ih (i + 1) _ (by omega) (by simp [hl]) ?_
    intro j hji
    by_cases e : j = i
    · subst e
      rw [sts_get n p j (by omega), List.getElem?_set_self (by omega)]
    · rw [List.getElem?_set_ne (by omega)]
      exact hj j (by omega)
theorem starts_ok (n p : Nat) (hp1 : 1 ≤ p) (hpn : p ≤ n) (hn : n ≤ 256) : Ev (fun k => cuts_Starts.f k (n : Int) (p : Int)) (sts n p, 0) := by
  have h1 : ¬ (n : Int) < 1 := by omega
  have h2 : ¬ (n : Int) > 256 := by omega
  have h3 : ¬ (p : Int) < 1 := by omega
  have h4 : decide ((p : Int) > (n : Int)) = false := by simp; omega
  refine Ev.congr (fun k => by rw [cuts_Starts.f, if_neg h1, if_neg h2, if_neg h3, h4]) ?_
  refine Ev.step (fun k => by rw [cuts_Starts.j0]) ?_
  have h5 : ¬ (false = true) := by decide
  have h6 : (0 : Int) ≤ (p : Int) := by omega
  have h7 : p ≤ 35184372088832 := by omega
  simp only [if_neg h5, if_pos h6, if_pos h7, Option.bind_some, List.length_replicate, Int.toNat_natCast]
  exact starts_loop n p hp1 hpn hn p 0 (List.replicate p 0) (by omega) List.length_replicate (fun j hj => by omega)
theorem starts_bad (a b : Int) (h : a < 1 ∨ a > 256 ∨ b < 1 ∨ b > a) : Ev (fun k => cuts_Starts.f k a b) ([], 1) := by
  have g : ∀ k, cuts_Starts.f k a b = cuts_Starts.j0 k a b true := by
    intro k
    unfold cuts_Starts.f
    by_cases h1 : a < 1
    · rw [if_pos h1]
    · rw [if_neg h1]
      by_cases h2 : a > 256
      · rw [if_pos h2]
      · rw [if_neg h2]
        by_cases h3 : b < 1
        · rw [if_pos h3]
        · rw [if_neg h3]
          have : decide (b > a) = true := by simp; omega
          rw [this]
  refine Ev.congr g (Ev.step (fun k => by rw [cuts_Starts.j0]) ?_)
  exact Ev.const rfl
end Go.Proofs.Ytcfiobhebakhlaa.Pure
