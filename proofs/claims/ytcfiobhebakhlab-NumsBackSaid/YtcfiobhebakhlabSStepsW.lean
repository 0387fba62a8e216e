-- By wip/late.py (a program of this session) out of wip/words.
import Derived.Test.YtcfiobhebakhlabProg
import Derived.Test.YtcfiobhebakhlabWWords
import Derived.Test.YtcfiobhebakhlabWLast
import Derived.Test.YtcfiobhebakhlabWMore
import Derived.Test.YtcfiobhebakhlabPAllx0
import Derived.Test.YtcfiobhebakhlabSWrWrite
import Derived.WalkKit
import Derived.OwnWalk
import Derived.Test.YtcfiobhebakhlabSNumsP
set_option linter.unusedVariables false
set_option linter.unusedSimpArgs false
namespace Go.Proofs.Ytcfiobhebakhlab.PAll
open Go.RowKit Go.Proofs.YtcfiobhebakhlabW.PrintWords Go.Proofs.YtcfiobhebakhlabW.PrintLast Go.Proofs.YtcfiobhebakhlabW.PrintMore Go.Proofs.Ytcfiobhebakhlab.Pure Go.Proofs.Ytcfiobhebakhlab.Wr
/-! Lists of steps, and what they lay down. -/
def stepB (x : S34) : List Int := partB x.f0 x.f1 x.f2 x.f3 x.f4
def OkStep (x : S34) : Prop := -9223372036854775808 ≤ x.f1 ∧ x.f1 ≤ 9223372036854775807 ∧ 0 ≤ x.f3 ∧ x.f3 < 18446744073709551616
theorem okStep_iff {x : S34} : OkStep x ↔ -9223372036854775808 ≤ x.f1 ∧ x.f1 ≤ 9223372036854775807 ∧ 0 ≤ x.f3 ∧ x.f3 < 18446744073709551616 := Iff.rfl
def total : List S34 → Nat
  | [] => 0
  | x :: l => 1 + x.f2.size + total l
theorem total_at : ∀ (l : List S34) (j : Nat), j < l.length → total (l.take j) + (1 + (rd_T34 l (j : Int)).f2.size) = total (l.take (j + 1)) := by
  intro l
  induction l with
  | nil => intro j hj; simp at hj
  | cons x l ih =>
    intro j hj
    cases j with
    | zero => simp [total, rd_T34]
    | succ j =>
      have := ih j (by simpa using hj)
      simp only [List.take_succ_cons, total]
      rw [show rd_T34 (x :: l) ((j + 1 : Nat) : Int) = rd_T34 l (j : Int) by simp [rd_T34]]
      omega
theorem total_le : ∀ (l : List S34) (j : Nat), total (l.take j) ≤ total l := by
  intro l
  induction l with
  | nil => intro j; simp
  | cons x l ih =>
    intro j
    cases j with
    | zero => simp [total]
    | succ j => have := ih j; simp only [List.take_succ_cons, total]; omega
theorem rd_mem {l : List S34} {j : Nat} (h : j < l.length) : rd_T34 l (j : Int) ∈ l := by
  simp only [rd_T34, Int.toNat_natCast]
  rw [List.getD_eq_getElem?_getD, List.getElem?_eq_getElem h]
  exact List.getElem_mem h
theorem len_steps (l : List S34) : (l.flatMap stepB).length ≤ 9 * total l := by
  induction l with
  | nil => simp
  | cons x l ih =>
    have : (stepB x).length ≤ 9 + x.f2.size := partB_len x.f0 x.f1 x.f2 x.f3 x.f4
    simp only [List.flatMap_cons, List.length_append, total]
    omega
theorem len_total (l : List S34) : l.length ≤ total l := by
  induction l with
  | nil => simp
  | cons x l ih => simp only [List.length_cons, total]; omega
theorem take_step {l : List S34} {j : Nat} (h : j < l.length) : (l.take j).flatMap stepB ++ partB (rd_T34 l (j : Int)).f0 (rd_T34 l (j : Int)).f1 (rd_T34 l (j : Int)).f2 (rd_T34 l (j : Int)).f3 (rd_T34 l (j : Int)).f4 = (l.take (j + 1)).flatMap stepB := by
  rw [List.take_add_one, List.getElem?_eq_getElem h]
  simp only [rd_T34, Int.toNat_natCast, List.getD_eq_getElem?_getD, List.getElem?_eq_getElem h, Option.getD_some, Option.toList_some, List.flatMap_append, List.flatMap_cons, List.flatMap_nil, List.append_nil]
  rfl
theorem round_bounds (l0 : List S34) (htot : total l0 ≤ 2147483647) (j : Nat) (hj : j < l0.length) : (rd_T34 l0 (j : Int)).f2.size ≤ 70368744177664 ∧ ((l0.take j).flatMap stepB).length + 9 + (rd_T34 l0 (j : Int)).f2.size ≤ 140737488355328 ∧ wrap64 ((j : Int) + 1) = (j : Int) + 1 := by
  have l1 := len_steps (l0.take j)
  have l2 := total_at l0 j hj
  have l3 := total_le l0 (j + 1)
  have l5 := len_total l0
  refine ⟨by omega, by omega, ?_⟩
  unfold wrap64
  omega
theorem round_measure (n j : Nat) (hj : j < n) (hw : wrap64 ((j : Int) + 1) = (j : Int) + 1) : n - (intOf (Value.int .i64 (wrap64 ((j : Int) + 1)))).toNat < n - (intOf (Value.int .i64 (j : Int))).toNat := by
  rw [hw]
  simp only [intOf]
  omega
end Go.Proofs.Ytcfiobhebakhlab.PAll
