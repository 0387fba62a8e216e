import Derived.Test.YtghlellambnkeaaPAllx0
import Derived.Test.YtghlellambnkeaaPAllx5
import Derived.Test.YtghlellambnkeaaSEv
import Derived.Test.YtghlellambnkeaaSLists
import Derived.Test.YtghlellambnkeaaSMergeP
import Derived.Test.YtghlellambnkeaaSChk09
import Derived.Test.YtghlellambnkeaaSPairs09
import Derived.Test.YtghlellambnkeaaSClean09b
import Derived.Test.YtghlellambnkeaaSClean09c
import Derived.Test.YtghlellambnkeaaSMergeA
set_option linter.unusedVariables false
set_option linter.unusedSimpArgs false
namespace Go.Proofs.Ytghlellambnkeaa.Pure
open Go.RowKit Go.Proofs.Ytghlellambnkeaa.PAll Go.Proofs.YtghlellambnkeaaW.PrintWords Go.Proofs.YtghlellambnkeaaW.PrintLast Go.Proofs.YtghlellambnkeaaW.PrintMore
open Go.Proofs.Ytghlellambnkeaa.MergeW
theorem clean_loop (l : List S46) (hl : l.length ≤ 3518437208881) (d : Nat) : ∀ i : Nat, i + d = l.length →
    Ev (fun k => tidelinelaw09_clean.l0 k l (i : Int)) ((l.drop i).all (fun p => okP (p.f0, p.f1))) := by
  induction d with
  | zero =>
    intro i hd
    refine Ev.step (fun k => by rw [tidelinelaw09_clean.l0]) ?_
    simp only [if_neg (show ¬ (i : Int) < (l.length : Int) by omega)]
    rw [List.drop_of_length_le (by omega)]
    exact Ev.const rfl
  | succ d ih =>
    intro i hd
    refine Ev.step (fun k => by rw [tidelinelaw09_clean.l0]) ?_
    simp only [if_pos (show (i : Int) < (l.length : Int) by omega), if_pos (show (0 : Int) ≤ (i : Int) by omega)]
    rw [rd46 (show i < l.length by omega), wrap_succ (by omega), List.drop_eq_getElem_cons (show i < l.length by omega), List.all_cons]
    have := ih (i + 1) (by omega)
    cases hv : verQ l[i].f0 l[i].f1 with
    | false =>
      have ho : okP (l[i].f0, l[i].f1) = true := by simp [okP, hv]
      unfold verQ at hv
      simp only [hv, if_neg (show ¬ (false = true) by decide)]
      exact Ev.val this (by rw [ho]; rfl)
    | true =>
      cases hn : neE l[i].f0 l[i].f1 with
      | true =>
        have ho : okP (l[i].f0, l[i].f1) = false := by simp [okP, hv, hn]
        unfold verQ at hv
        unfold neE at hn
        simp only [hv, if_true, hn]
        exact Ev.const (by rw [ho]; rfl)
      | false =>
        have ho : okP (l[i].f0, l[i].f1) = true := by simp [okP, hv, hn]
        unfold verQ at hv
        unfold neE at hn
        simp only [hv, if_true, hn, if_neg (show ¬ (false = true) by decide)]
        exact Ev.val this (by rw [ho]; rfl)
/-- No two entries of one key and version are unlike; and both lists are maps. -/
def cleanB (a b : List S44) : Bool := decide (chkL a = 0) && (decide (chkL b = 0) && (mp a b).all okP)
theorem clean_f (a b : List S44) (h : a.length + b.length ≤ 1256584717457) : Ev (fun k => tidelinelaw09_clean.f k a b) (cleanB a b) := by
  refine Ev.congr (fun k => by rw [tidelinelaw09_clean.f]) ?_
  refine Ev.bind (chk_ref a (by omega)) ?_
  unfold cleanB
  by_cases ha : chkL a = 0
  · simp only [if_pos ha]
    rw [decide_eq_true ha]
    refine Ev.bind (chk_ref b (by omega)) ?_
    refine Ev.step (fun k => by rw [tidelinelaw09_clean.j0]) ?_
    by_cases hb : chkL b = 0
    · rw [decide_eq_true hb]
      have e : (chkL b != 0) = false := by simp [hb]
      simp only [e, if_neg (show ¬ (false = true) by decide)]
      refine Ev.bind (pairs_ref a b h) ?_
      have hc : chk2 a b = 0 := by unfold chk2; rw [if_pos ha]; exact hb
      simp only [if_pos hc]
      have hl := mp_len a b
      have := clean_loop ((mp a b).map pairS) (by rw [List.length_map]; omega) ((mp a b).map pairS).length 0 (Nat.zero_add _)
      refine Ev.val this ?_
      rw [List.drop_zero, List.all_map]
      rfl
    · have e : (chkL b != 0) = true := by simpa using hb
      simp only [e, if_true]
      exact Ev.const (by rw [decide_eq_false hb]; rfl)
  · simp only [if_neg ha]
    refine Ev.step (fun k => by rw [tidelinelaw09_clean.j0]) ?_
    simp only [if_true]
    exact Ev.const (by rw [decide_eq_false ha]; rfl)
theorem cleanB_parts {a b : List S44} (h : cleanB a b = true) : chkL a = 0 ∧ chkL b = 0 ∧ (mp a b).all okP = true := by
  unfold cleanB at h
  simp only [Bool.and_eq_true, decide_eq_true_eq] at h
  exact h
end Go.Proofs.Ytghlellambnkeaa.Pure
