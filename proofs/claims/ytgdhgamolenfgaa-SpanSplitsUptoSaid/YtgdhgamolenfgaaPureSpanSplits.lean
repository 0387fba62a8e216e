/- For any range and any borders the law SpanSplits answers true: Split is the document's, what was handed in stays, also behind its length, is not kept, and what comes out is the caller's (the second form: where what the law reads is of bulk at most 1048576). -/
import Derived.Test.YtgdhgamolenfgaaPAllx0
import Derived.Test.YtgdhgamolenfgaaPAllx2
import Derived.Test.YtgdhgamolenfgaaPAllx5
import Derived.Test.YtgdhgamolenfgaaPAllx6
import Derived.Test.YtgdhgamolenfgaaSEv
import Derived.Test.YtgdhgamolenfgaaSLists
import Derived.Test.YtgdhgamolenfgaaSShown02
import Derived.Test.YtgdhgamolenfgaaSSpanE
import Derived.Test.YtgdhgamolenfgaaSSpanR
import Derived.Test.YtgdhgamolenfgaaSSplitE
import Derived.Test.YtgdhgamolenfgaaSLawSplits
set_option linter.unusedVariables false
set_option linter.unusedSimpArgs false
namespace Go.Proofs.Ytgdhgamolenfgaa.Pure
open Go.RowKit Go.Proofs.Ytgdhgamolenfgaa.PAll Go.Proofs.YtgdhgamolenfgaaW.PrintWords Go.Proofs.YtgdhgamolenfgaaW.PrintLast Go.Proofs.YtgdhgamolenfgaaW.PrintMore
theorem rsplit_loop (bs : List ByteArray) (a0 hi : ByteArray) (op : Bool) (hl : bs.length ≤ 3518437208881) (d : Nat) : ∀ (i : Nat) (lo : ByteArray) (acc : List S23), i + d = bs.length → acc.length ≤ i →
    Ev (fun k => tidelineref02_Split.l0 k acc lo bs (bs.length : Int) (i : Int) a0 hi op) (if okB lo (bs.drop i) hi op = true then (acc ++ rngs lo (bs.drop i) hi op, 0) else ([], 22)) := by
  induction d with
  | zero =>
    intro i lo acc hd ha
    refine Ev.step (fun k => by rw [tidelineref02_Split.l0]) ?_
    simp only [if_neg (show ¬ (i : Int) < (bs.length : Int) by omega), if_pos (show acc.length < 3518437208883 by omega)]
    rw [List.drop_of_length_le (by omega)]
    exact Ev.const rfl
  | succ d ih =>
    intro i lo acc hd ha
    refine Ev.step (fun k => by rw [tidelineref02_Split.l0]) ?_
    simp only [if_pos (show (i : Int) < (bs.length : Int) by omega), if_pos (show (0 : Int) ≤ (i : Int) by omega)]
    rw [rdOf_nat _ bs i (by omega), List.drop_eq_getElem_cons (show i < bs.length by omega), wrap_succ (by omega)]
    simp only [okB, rngs]
    by_cases h1 : bs[i].size ≤ 16
    · simp only [if_neg (show ¬ (bs[i].size : Int) > 16 by omega), decide_eq_true h1, Bool.true_and]
      by_cases h2 : Op.bytesLess lo.toList bs[i].toList = true
      · simp only [h2, if_true, Bool.true_and]
        have := ih (i + 1) bs[i] (acc ++ [⟨lo, bs[i], false⟩]) (by omega) (by simp; omega)
        cases op with
        | true =>
          simp only [Bool.true_or, if_true, Bool.true_and, if_pos (show acc.length < 3518437208883 by omega)]
          simpa using this
        | false =>
          simp only [Bool.false_or, if_neg (show ¬ (false = true) by decide)]
          by_cases h3 : Op.bytesLess bs[i].toList hi.toList = true
          · simp only [h3, if_true, Bool.true_and, if_pos (show acc.length < 3518437208883 by omega)]
            simpa using this
          · simp only [h3, Bool.false_and]; exact Ev.const rfl
      · simp only [h2, Bool.false_and]; exact Ev.const rfl
    · simp only [if_pos (show (bs[i].size : Int) > 16 by omega), decide_eq_false h1, Bool.false_and]; exact Ev.const rfl
theorem rsplit_f (lo hi : ByteArray) (op : Bool) (bs : List ByteArray) (hl : bs.length ≤ 3518437208881) : Ev (fun k => tidelineref02_Split.f k lo hi op bs) (splE lo hi op bs) := by
  refine Ev.congr (fun k => by rw [tidelineref02_Split.f]) ?_
  refine Ev.bind (rgE_ref lo hi op) ?_
  unfold splE
  by_cases h : rgE lo hi op = 0
  · simp only [if_pos h]
    exact rsplit_loop bs lo hi op hl bs.length 0 lo [] (by omega) (by simp)
  · simp only [if_neg h]; exact Ev.const rfl
theorem ranges_loop (L : List S23) (hl : L.length ≤ 3518437208881) (d : Nat) : ∀ (i : Nat), i + d = L.length →
    Ev (fun k => tidelinelaw02_ranges.l0 k L L (L.length : Int) (i : Int)) true := by
  induction d with
  | zero =>
    intro i hd
    refine Ev.step (fun k => by rw [tidelinelaw02_ranges.l0]) ?_
    simp only [if_neg (show ¬ (i : Int) < (L.length : Int) by omega)]
    exact Ev.const rfl
  | succ d ih =>
    intro i hd
    refine Ev.step (fun k => by rw [tidelinelaw02_ranges.l0]) ?_
    simp only [if_pos (show (i : Int) < (L.length : Int) by omega), if_pos (show (0 : Int) ≤ (i : Int) by omega)]
    rw [wrap_succ (by omega)]
    simp only [beq_self_eq_true, Bool.not_true, Bool.or_self, if_neg (show ¬ (false = true) by decide)]
    exact ih (i + 1) (by omega)
theorem ranges_f (L : List S23) (hl : L.length ≤ 3518437208881) : Ev (fun k => tidelinelaw02_ranges.f k L L) true := by
  refine Ev.congr (fun k => by rw [tidelinelaw02_ranges.f, if_pos rfl]) ?_
  exact ranges_loop L hl L.length 0 (by omega)
theorem splE_len (lo hi : ByteArray) (op : Bool) (bs : List ByteArray) : (splE lo hi op bs).1.length ≤ bs.length + 1 := by
  unfold splE
  split
  · split
    · simp [rngs_length]
    · simp
  · simp
theorem SpanSplits (a0_0 : ByteArray) (a0_1 : ByteArray) (a0_2 : Bool) (l1 : List ByteArray) (w : l1.length ≤ 1048576) : ∃ k, tidelinelaw02_SpanSplits.f k a0_0 a0_1 a0_2 l1 = some true := by
  obtain ⟨k1, e1⟩ := shown_f
  obtain ⟨k2, e2⟩ := split_f a0_0 a0_1 a0_2 l1 (by omega)
  obtain ⟨k3, e3⟩ := rsplit_f a0_0 a0_1 a0_2 l1 (by omega)
  have hL := splE_len a0_0 a0_1 a0_2 l1
  obtain ⟨k4, e4⟩ := ranges_f (splE a0_0 a0_1 a0_2 l1).1 (by omega)
  refine ⟨k1 + k2 + k3 + k4, ?_⟩
  have a1 : tidelinelaw02_shown.f (k1 + k2 + k3 + k4) = some true := e1 _ (by omega)
  have a2 : span_Split.f (k1 + k2 + k3 + k4) a0_0 a0_1 a0_2 l1 = some (splE a0_0 a0_1 a0_2 l1) := e2 _ (by omega)
  have a3 : tidelineref02_Split.f (k1 + k2 + k3 + k4) a0_0 a0_1 a0_2 l1 = some (splE a0_0 a0_1 a0_2 l1) := e3 _ (by omega)
  have a4 : tidelinelaw02_ranges.f (k1 + k2 + k3 + k4) (splE a0_0 a0_1 a0_2 l1).1 (splE a0_0 a0_1 a0_2 l1).1 = some true := e4 _ (by omega)
  unfold tidelinelaw02_SpanSplits.f
  rw [a1, Option.bind_some, if_pos rfl, a2, Option.bind_some, if_pos ⟨a3, a4, by omega, by omega⟩]
end Go.Proofs.Ytgdhgamolenfgaa.Pure
