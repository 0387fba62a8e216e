import Derived.Test.YtcfiobhebakhlaaPAllx0
import Derived.Test.YtcfiobhebakhlaaPAllx5
import Derived.Test.YtcfiobhebakhlaaSEv
import Derived.Test.YtcfiobhebakhlaaSLists
import Derived.Test.YtcfiobhebakhlaaSStarts
import Derived.Test.YtcfiobhebakhlaaSRefstarts
import Derived.Test.YtcfiobhebakhlaaSBorders
import Derived.Test.YtcfiobhebakhlaaSSpanE
import Derived.Test.YtcfiobhebakhlaaSSpanR
import Derived.Test.YtcfiobhebakhlaaSSpanRH
import Derived.Test.YtcfiobhebakhlaaSSplitE
import Derived.Test.YtcfiobhebakhlaaSRanges07
set_option linter.unusedVariables false
set_option linter.unusedSimpArgs false
namespace Go.Proofs.Ytcfiobhebakhlaa.Pure
open Go.RowKit Go.Proofs.Ytcfiobhebakhlaa.PAll Go.Proofs.YtcfiobhebakhlaaW.PrintWords Go.Proofs.YtcfiobhebakhlaaW.PrintLast Go.Proofs.YtcfiobhebakhlaaW.PrintMore
theorem rran_l1 (bs : List ByteArray) (lo0 hi : ByteArray) (op : Bool) (hl : bs.length ≤ 3518437208881) (d : Nat) : ∀ (i : Nat) (lo : ByteArray) (acc : List S36), i + d = bs.length → acc.length ≤ i →
    Ev (fun k => tidelineref07_Ranges.l1 k bs acc lo (i : Int) lo0 hi op) (acc ++ rngs lo (bs.drop i) hi op, 0) := by
  induction d with
  | zero =>
    intro i lo acc hd ha
    refine Ev.step (fun k => by rw [tidelineref07_Ranges.l1]) ?_
    simp only [if_neg (show ¬ (i : Int) < (bs.length : Int) by omega), if_pos (show acc.length < 3518437208883 by omega)]
    rw [List.drop_of_length_le (by omega)]
    exact Ev.const rfl
  | succ d ih =>
    intro i lo acc hd ha
    refine Ev.step (fun k => by rw [tidelineref07_Ranges.l1]) ?_
    simp only [if_pos (show (i : Int) < (bs.length : Int) by omega), if_pos (show (0 : Int) ≤ (i : Int) by omega), if_pos (show acc.length < 3518437208883 by omega)]
    rw [rdOf_nat _ bs i (by omega), List.drop_eq_getElem_cons (show i < bs.length by omega), wrap_succ (by omega)]
    simp only [rngs]
    have := ih (i + 1) bs[i] (acc ++ [⟨lo, bs[i], false⟩]) (by omega) (by simp; omega)
    simpa using this
theorem rran_l0 (lo hi : ByteArray) (op : Bool) (l : List ByteArray) (a : Int) (hl : l.length ≤ 8796093022208) (hc : chkE l = 0) (d : Nat) : ∀ i : Nat, i + d = l.length →
    Ev (fun k => tidelineref07_Ranges.l0 k l a (i : Int) lo hi op) (if allIn lo hi op (l.drop i) = true then (if (borE l a).2 = 0 then (rngs lo (borE l a).1 hi op, 0) else ([], (borE l a).2)) else ([], 22)) := by
  induction d with
  | zero =>
    intro i hd
    refine Ev.step (fun k => by rw [tidelineref07_Ranges.l0]) ?_
    simp only [if_neg (show ¬ (i : Int) < (l.length : Int) by omega)]
    rw [List.drop_of_length_le (by omega)]
    refine Ev.bind (rbor_ok l (by omega) a) ?_
    have : allIn lo hi op [] = true := rfl
    rw [if_pos this]
    by_cases hb : (borE l a).2 = 0
    · simp only [if_pos hb]
      have h0 : (borE l a).1.length ≤ 3518437208881 := by
        unfold borE at hb ⊢
        rw [if_pos hc] at hb ⊢
        split at hb
        · simp at hb
        · rename_i h; rw [if_neg h]; simp only [bdr_length]; omega
      exact rran_l1 _ lo hi op h0 _ 0 lo [] (Nat.zero_add _) (by simp)
    · simp only [if_neg hb]; exact Ev.const rfl
  | succ d ih =>
    intro i hd
    refine Ev.step (fun k => by rw [tidelineref07_Ranges.l0]) ?_
    simp only [if_pos (show (i : Int) < (l.length : Int) by omega), if_pos (show (0 : Int) ≤ (i : Int) by omega)]
    rw [rdOf_nat _ l i (by omega), List.drop_eq_getElem_cons (show i < l.length by omega), wrap_succ (by omega)]
    refine Ev.bind (hasK_ref lo hi op _) ?_
    simp only [allIn, List.all_cons]
    by_cases h : hasK lo hi op l[i] = true
    · simp only [h, if_true, Bool.true_and]; exact ih (i + 1) (by omega)
    · simp only [h, Bool.false_and]; exact Ev.const rfl
theorem rran_ok (lo hi : ByteArray) (op : Bool) (l : List ByteArray) (a : Int) (hl : l.length ≤ 8796093022208) : Ev (fun k => tidelineref07_Ranges.f k lo hi op l a) (ranE lo hi op l a) := by
  refine Ev.congr (fun k => by rw [tidelineref07_Ranges.f]) ?_
  refine Ev.bind (rgE_ref lo hi op) ?_
  unfold ranE
  by_cases hr : rgE lo hi op = 0
  · simp only [if_pos hr]
    refine Ev.bind (rise_ok l (by omega)) ?_
    by_cases hc : chkE l = 0
    · simp only [if_pos hc]
      refine Ev.val (rran_l0 lo hi op l a hl hc l.length 0 (by omega)) ?_
      rw [List.drop_zero]
    · simp only [if_neg hc]; exact Ev.const rfl
  · simp only [if_neg hr]; exact Ev.const rfl
theorem ranE_len (lo hi : ByteArray) (op : Bool) (l : List ByteArray) (a : Int) : (ranE lo hi op l a).1.length ≤ l.length + 1 := by
  have := borE_len l a
  unfold ranE
  (repeat' split) <;> simp [rngs_length] <;> omega
end Go.Proofs.Ytcfiobhebakhlaa.Pure
