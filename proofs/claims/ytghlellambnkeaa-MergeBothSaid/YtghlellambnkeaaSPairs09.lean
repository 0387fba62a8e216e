import Derived.Test.YtghlellambnkeaaPAllx0
import Derived.Test.YtghlellambnkeaaPAllx5
import Derived.Test.YtghlellambnkeaaSEv
import Derived.Test.YtghlellambnkeaaSLists
import Derived.Test.YtghlellambnkeaaSMergeP
import Derived.Test.YtghlellambnkeaaSChk09
import Derived.Test.YtghlellambnkeaaSMergeA
set_option linter.unusedVariables false
set_option linter.unusedSimpArgs false
namespace Go.Proofs.Ytghlellambnkeaa.Pure
open Go.RowKit Go.Proofs.Ytghlellambnkeaa.PAll Go.Proofs.YtghlellambnkeaaW.PrintWords Go.Proofs.YtghlellambnkeaaW.PrintLast Go.Proofs.YtghlellambnkeaaW.PrintMore
open Go.Proofs.Ytghlellambnkeaa.MergeW
def pairS (t : S44 × S44) : S46 := ⟨t.1, t.2⟩
theorem pairs_loop (a b : List S44) (hab0 : a.length + b.length ≤ 1256584717457) (d : Nat) : ∀ (i j : Nat) (acc : List S46), i ≤ a.length → j ≤ b.length → (a.length - i) + (b.length - j) = d → acc.length + d ≤ 1256584717457 →
    Ev (fun k => tidelineref09_Pairs.l0 k a b acc (i : Int) (j : Int)) (acc ++ (mp (a.drop i) (b.drop j)).map pairS) := by
  induction d using Nat.strongRecOn with
  | _ d ih =>
    intro i j acc hi hj hd hacc
    refine Ev.step (fun k => by rw [tidelineref09_Pairs.l0]) ?_
    by_cases ei : i = a.length
    · simp only [if_neg (show ¬ (i : Int) < (a.length : Int) by omega)]
      refine Ev.step (fun k => by rw [tidelineref09_Pairs.j1]) ?_
      rw [List.drop_of_length_le (show a.length ≤ i by omega)]
      by_cases ej : j = b.length
      · rw [decide_eq_false (show ¬ (j : Int) < (b.length : Int) by omega), List.drop_of_length_le (show b.length ≤ j by omega), mp_nil]
        simp only [if_neg (show ¬ (false = true) by decide)]
        exact Ev.const (by simp)
      · rw [decide_eq_true (show (j : Int) < (b.length : Int) by omega)]
        simp only [if_true, if_neg (show ¬ (j : Int) = (b.length : Int) by omega), if_neg (show ¬ (i : Int) < (a.length : Int) by omega)]
        refine Ev.step (fun k => by rw [tidelineref09_Pairs.j2]) ?_
        simp only [if_neg (show ¬ (false = true) by decide), if_pos (show (i : Int) = (a.length : Int) by omega), if_pos (show (0 : Int) ≤ (j : Int) by omega), if_pos (show (j : Int) < (b.length : Int) by omega), if_pos (show acc.length < 1256584717458 by omega)]
        rw [rd44 (show j < b.length by omega), wrap_succ (by omega), List.drop_eq_getElem_cons (show j < b.length by omega), mp_right]
        have := ih (d - 1) (by omega) i (j + 1) (acc ++ [pairS (z44, b[j])]) hi (by omega) (by omega) (by simp; omega)
        rw [List.drop_of_length_le (show a.length ≤ i by omega)] at this
        refine Ev.val this ?_
        simp
    · simp only [if_pos (show (i : Int) < (a.length : Int) by omega)]
      refine Ev.step (fun k => by rw [tidelineref09_Pairs.j1]) ?_
      simp only [if_true]
      rw [List.drop_eq_getElem_cons (show i < a.length by omega)]
      have goA : ∀ (rb : List S44), mp (a[i] :: a.drop (i + 1)) rb = (a[i], z44) :: mp (a.drop (i + 1)) (b.drop j) →
          Ev (fun k => tidelineref09_Pairs.j2 k a b acc (i : Int) (j : Int) true) (acc ++ (mp (a[i] :: a.drop (i + 1)) rb).map pairS) := by
        intro rb hrb
        refine Ev.step (fun k => by rw [tidelineref09_Pairs.j2]) ?_
        simp only [if_true, if_pos (show (0 : Int) ≤ (i : Int) by omega), if_pos (show (i : Int) < (a.length : Int) by omega), if_pos (show acc.length < 1256584717458 by omega)]
        rw [rd44 (show i < a.length by omega), wrap_succ (by omega), hrb]
        have := ih (d - 1) (by omega) (i + 1) j (acc ++ [pairS (a[i], z44)]) (by omega) hj (by omega) (by simp; omega)
        refine Ev.val this ?_
        simp
      by_cases ej : j = b.length
      · simp only [if_pos (show (j : Int) = (b.length : Int) by omega)]
        refine goA _ ?_
        rw [List.drop_of_length_le (show b.length ≤ j by omega), mp_left]
      · simp only [if_neg (show ¬ (j : Int) = (b.length : Int) by omega), if_pos (show (i : Int) < (a.length : Int) by omega), if_pos (show (0 : Int) ≤ (i : Int) by omega), if_pos (show (0 : Int) ≤ (j : Int) by omega), if_pos (show (j : Int) < (b.length : Int) by omega)]
        rw [rd44 (show i < a.length by omega), rd44 (show j < b.length by omega), List.drop_eq_getElem_cons (show j < b.length by omega)]
        cases hab : Op.bytesLess a[i].f0.toList b[j].f0.toList with
        | true =>
          refine goA _ ?_
          rw [mp_lt hab, ← List.drop_eq_getElem_cons (show j < b.length by omega)]
        | false =>
          refine Ev.step (fun k => by rw [tidelineref09_Pairs.j2]) ?_
          simp only [if_neg (show ¬ (false = true) by decide), if_neg (show ¬ (i : Int) = (a.length : Int) by omega), if_pos (show (0 : Int) ≤ (i : Int) by omega), if_pos (show (i : Int) < (a.length : Int) by omega), if_pos (show (0 : Int) ≤ (j : Int) by omega), if_pos (show (j : Int) < (b.length : Int) by omega), if_pos (show acc.length < 1256584717458 by omega)]
          rw [rd44 (show i < a.length by omega), rd44 (show j < b.length by omega)]
          cases hba : Op.bytesLess b[j].f0.toList a[i].f0.toList with
          | true =>
            simp only [if_true]
            rw [mp_gt hab hba, wrap_succ (show j ≤ 9223372036854775806 by omega)]
            have := ih (d - 1) (by omega) i (j + 1) (acc ++ [pairS (z44, b[j])]) hi (by omega) (by omega) (by simp; omega)
            rw [List.drop_eq_getElem_cons (show i < a.length by omega)] at this
            refine Ev.val this ?_
            simp
          | false =>
            simp only [if_neg (show ¬ (false = true) by decide)]
            rw [mp_eq hab hba, wrap_succ (show j ≤ 9223372036854775806 by omega), wrap_succ (show i ≤ 9223372036854775806 by omega)]
            have := ih (d - 2) (by omega) (i + 1) (j + 1) (acc ++ [pairS (a[i], b[j])]) (by omega) (by omega) (by omega) (by simp; omega)
            refine Ev.val this ?_
            simp
theorem pairs_ref (a b : List S44) (h : a.length + b.length ≤ 1256584717457) : Ev (fun k => tidelineref09_Pairs.f k a b) (if chk2 a b = 0 then (mp a b).map pairS else []) := by
  refine Ev.congr (fun k => by rw [tidelineref09_Pairs.f]) ?_
  refine Ev.bind (Ev.const rfl) ?_
  refine Ev.bind (chk2_ref a b (by omega) (by omega)) ?_
  by_cases hc : chk2 a b = 0
  · simp only [if_pos hc]
    have := pairs_loop a b h (a.length + b.length) 0 0 [] (by omega) (by omega) (by omega) (by simpa using h)
    simpa using this
  · simp only [if_neg hc]
    exact Ev.const rfl
end Go.Proofs.Ytghlellambnkeaa.Pure
