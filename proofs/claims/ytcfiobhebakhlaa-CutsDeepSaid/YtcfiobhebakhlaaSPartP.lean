import Derived.Test.YtcfiobhebakhlaaPAllx0
import Derived.Test.YtcfiobhebakhlaaSEv
import Derived.Test.YtcfiobhebakhlaaSLists
import Derived.Test.YtcfiobhebakhlaaSStarts
import Derived.Test.YtcfiobhebakhlaaSRefstarts
import Derived.Test.YtcfiobhebakhlaaSBorders
import Derived.Test.YtcfiobhebakhlaaSSpanE
import Derived.Test.YtcfiobhebakhlaaSSpanR
import Derived.Test.YtcfiobhebakhlaaSSplitE
import Derived.Test.YtcfiobhebakhlaaSRanges07
import Derived.Test.YtcfiobhebakhlaaSTilesP
set_option linter.unusedVariables false
set_option linter.unusedSimpArgs false
namespace Go.Proofs.Ytcfiobhebakhlaa.Pure
open Go.RowKit Go.Proofs.Ytcfiobhebakhlaa.PAll Go.Proofs.YtcfiobhebakhlaaW.PrintWords Go.Proofs.YtcfiobhebakhlaaW.PrintLast Go.Proofs.YtcfiobhebakhlaaW.PrintMore
open Go.Proofs.Ytcfiobhebakhlaa.Str Go.Proofs.Ytcfiobhebakhlaa.Tiles
theorem bdr_get (l : List ByteArray) (p i : Nat) (h : i + 1 < p) : (bdr l p 1).getD i ByteArray.empty = l.getD ((i + 1) * l.length / p) ByteArray.empty := by
  unfold bdr
  rw [List.getD_eq_getElem?_getD, List.getElem?_map, List.getElem?_drop, List.getElem?_range (by omega)]
  simp [Nat.add_comm]
theorem less_idx {l : List ByteArray} (h : adj l = true) {i j : Nat} (hi : i < l.length) (hj : j < l.length) : Op.bytesLess (l.getD i ByteArray.empty).toList (l.getD j ByteArray.empty).toList = decide (i < j) := by
  rcases Nat.lt_trichotomy i j with e | e | e
  · rw [adj_less l i j _ _ h e (getD_some l i hi) (getD_some l j hj), decide_eq_true e]
  · subst e; rw [less_irrefl, decide_eq_false (by omega)]
  · rw [less_asymm (adj_less l j i _ _ h e (getD_some l j hj) (getD_some l i hi)), decide_eq_false (by omega)]
/-- Which keys a part has. -/
theorem part_has (lo hi : ByteArray) (op : Bool) (l : List ByteArray) (p : Nat) (hp1 : 1 ≤ p) (hpn : p ≤ l.length) (hadj : adj l = true) (hin : allIn lo hi op l = true) (hr : rgE lo hi op = 0) (hne : op = true ∨ Op.bytesLess lo.toList hi.toList = true)
    (j : Nat) (hj : j < p) (i : Nat) (hi' : i < l.length) :
    ∃ r, (rngs lo (bdr l p 1) hi op)[j]? = some r ∧ hasK r.f0 r.f1 r.f2 (l.getD i ByteArray.empty) = (decide (j * l.length / p ≤ i) && decide (i < (j + 1) * l.length / p)) := by
  have hlen : (bdr l p 1).length = p - 1 := bdr_length l p 1
  have hok : okB lo (bdr l p 1) hi op = true := okB_bdr l p lo hi op hadj hin hp1 hpn (p - 1) 1 lo (by omega) (by omega) (.inl ⟨rfl, rfl⟩)
  obtain ⟨i1, _, _⟩ := rngs_ris hi op (bdr l p 1) lo hok hr hne
  have hg := rngs_get hi op (bdr l p 1) lo j (by omega)
  refine ⟨_, hg, ?_⟩
  have hem := List.all_eq_true.1 i1 _ (List.mem_of_getElem? hg)
  simp only [Bool.not_eq_true'] at hem
  have hrg := (emp_iff.1 hem).1
  have hk : hasK lo hi op (l.getD i ByteArray.empty) = true := List.all_eq_true.1 hin _ (List.mem_of_getElem? (getD_some l i hi'))
  simp only [hasK, Bool.and_eq_true, decide_eq_true_eq, Bool.not_eq_true'] at hk
  obtain ⟨⟨⟨_, h3⟩, h4⟩, h5⟩ := hk
  unfold hasK
  rw [decide_eq_true hrg, decide_eq_true h3]
  simp only [Bool.true_and]
  congr 1
  · by_cases hj0 : j = 0
    · subst hj0; rw [if_pos rfl, h4, decide_eq_true (show 0 * l.length / p ≤ i by simp)]; rfl
    · rw [if_neg hj0, bdr_get l p (j - 1) (by omega), show j - 1 + 1 = j by omega, less_idx hadj hi' (st_lt l.length p j (by omega) (by omega))]
      by_cases e : i < j * l.length / p
      · rw [decide_eq_true e, decide_eq_false (by omega)]; rfl
      · rw [decide_eq_false e, decide_eq_true (by omega)]; rfl
  · rw [hlen]
    by_cases hjl : j < p - 1
    · rw [if_pos hjl, if_pos hjl, bdr_get l p j (by omega), less_idx hadj hi' (st_lt l.length p (j + 1) (by omega) (by omega))]; rfl
    · rw [if_neg hjl, if_neg hjl]
      have e : (j + 1) * l.length / p = l.length := by
        rw [show j + 1 = p by omega]; exact Nat.mul_div_cancel_left _ (by omega)
      rw [e, decide_eq_true hi']; exact h5
end Go.Proofs.Ytcfiobhebakhlaa.Pure
