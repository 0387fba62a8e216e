import Derived.Test.YtgdhgamolenfgaaPAllx0
import Derived.Test.YtgdhgamolenfgaaPAllx2
import Derived.Test.YtgdhgamolenfgaaSEv
import Derived.Test.YtgdhgamolenfgaaSLists
import Derived.Test.YtgdhgamolenfgaaSSpanE
set_option linter.unusedVariables false
set_option linter.unusedSimpArgs false
namespace Go.Proofs.Ytgdhgamolenfgaa.Pure
open Go.RowKit Go.Proofs.Ytgdhgamolenfgaa.PAll Go.Proofs.YtgdhgamolenfgaaW.PrintWords Go.Proofs.YtgdhgamolenfgaaW.PrintLast Go.Proofs.YtgdhgamolenfgaaW.PrintMore
/-- The ranges between borders. -/
def rngs (lo : ByteArray) (bs : List ByteArray) (hi : ByteArray) (op : Bool) : List S23 := match bs with
  | [] => [⟨lo, hi, op⟩]
  | b :: r => ⟨lo, b, false⟩ :: rngs b r hi op
/-- Do borders rise within a range? -/
def okB (lo : ByteArray) (bs : List ByteArray) (hi : ByteArray) (op : Bool) : Bool := match bs with
  | [] => true
  | b :: r => decide (b.size ≤ 16) && (Op.bytesLess lo.toList b.toList && ((op || Op.bytesLess b.toList hi.toList) && okB b r hi op))
theorem rngs_length (lo : ByteArray) (bs : List ByteArray) (hi : ByteArray) (op : Bool) : (rngs lo bs hi op).length = bs.length + 1 := by
  induction bs generalizing lo with
  | nil => rfl
  | cons b r ih => simp [rngs, ih]
/-- What Split answers. -/
def splE (lo hi : ByteArray) (op : Bool) (bs : List ByteArray) : List S23 × Int :=
  if rgE lo hi op = 0 then (if okB lo bs hi op = true then (rngs lo bs hi op, 0) else ([], 22)) else ([], rgE lo hi op)
theorem split_loop (bs : List ByteArray) (hi : ByteArray) (op : Bool) (hl : bs.length ≤ 3518437208881) (d : Nat) : ∀ (i : Nat) (lo : ByteArray) (acc : List S23), i + d = bs.length → acc.length ≤ i →
    Ev (fun k => span_Split.l0 k acc bs (bs.length : Int) (i : Int) lo hi op) (if okB lo (bs.drop i) hi op = true then (acc ++ rngs lo (bs.drop i) hi op, 0) else ([], 22)) := by
  induction d with
  | zero =>
    intro i lo acc hd ha
    refine Ev.step (fun k => by rw [span_Split.l0]) ?_
    simp only [if_neg (show ¬ (i : Int) < (bs.length : Int) by omega), if_pos (show acc.length < 3518437208883 by omega)]
    rw [List.drop_of_length_le (by omega)]
    exact Ev.const rfl
  | succ d ih =>
    intro i lo acc hd ha
    refine Ev.step (fun k => by rw [span_Split.l0]) ?_
    simp only [if_pos (show (i : Int) < (bs.length : Int) by omega), if_pos (show (0 : Int) ≤ (i : Int) by omega)]
    rw [rdOf_nat _ bs i (by omega), List.drop_eq_getElem_cons (show i < bs.length by omega), wrap_succ (by omega)]
    simp only [okB, rngs]
    by_cases h1 : bs[i].size ≤ 16
    · simp only [if_neg (show ¬ (bs[i].size : Int) > 16 by omega), decide_eq_true h1, Bool.true_and]
      by_cases h2 : Op.bytesLess lo.toList bs[i].toList = true
      · simp only [h2, if_true, Bool.true_and, below_f, Option.bind_some]
        by_cases h3 : (op || Op.bytesLess bs[i].toList hi.toList) = true
        · simp only [h3, if_true, Bool.true_and, if_pos (show acc.length < 3518437208883 by omega)]
          have := ih (i + 1) bs[i] (acc ++ [⟨lo, bs[i], false⟩]) (by omega) (by simp; omega)
          simpa using this
        · simp only [h3, Bool.false_and]; exact Ev.const rfl
      · simp only [h2, Bool.false_and]; exact Ev.const rfl
    · simp only [if_pos (show (bs[i].size : Int) > 16 by omega), decide_eq_false h1, Bool.false_and]; exact Ev.const rfl
theorem split_f (lo hi : ByteArray) (op : Bool) (bs : List ByteArray) (hl : bs.length ≤ 3518437208881) : Ev (fun k => span_Split.f k lo hi op bs) (splE lo hi op bs) := by
  refine Ev.congr (fun k => by rw [span_Split.f]) ?_
  refine Ev.bind (rgE_f lo hi op) ?_
  unfold splE
  by_cases h : rgE lo hi op = 0
  · rw [wrap_succ (by omega)]
    simp only [if_pos h, if_pos (show (0 : Int) ≤ ((bs.length + 1 : Nat) : Int) by omega), Int.toNat_natCast, if_pos (show bs.length + 1 ≤ 7036874417766 by omega)]
    exact split_loop bs hi op hl bs.length 0 lo [] (by omega) (by simp)
  · simp only [if_neg h]; exact Ev.const rfl
end Go.Proofs.Ytgdhgamolenfgaa.Pure
