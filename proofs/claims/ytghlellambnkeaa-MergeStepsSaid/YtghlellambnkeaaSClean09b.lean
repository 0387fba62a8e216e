import Derived.Test.YtghlellambnkeaaPAllx0
import Derived.Test.YtghlellambnkeaaPAllx3
import Derived.Test.YtghlellambnkeaaSEv
import Derived.Test.YtghlellambnkeaaSLists
import Derived.Test.YtghlellambnkeaaSMergeP
import Derived.Test.YtghlellambnkeaaSChk09
set_option linter.unusedVariables false
set_option linter.unusedSimpArgs false
namespace Go.Proofs.Ytghlellambnkeaa.Pure
open Go.RowKit Go.Proofs.Ytghlellambnkeaa.PAll Go.Proofs.YtghlellambnkeaaW.PrintWords Go.Proofs.YtghlellambnkeaaW.PrintLast Go.Proofs.YtghlellambnkeaaW.PrintMore
/-- Are two entries unlike? -/
def neE (x y : S44) : Bool := !((x.f0.toList) == (y.f0.toList)) || ((!(x.f1.f0 == y.f1.f0) || (!(x.f1.f1 == y.f1.f1))) || (!((x.f2.toList) == (y.f2.toList)) || (!(x.f3 == y.f3))))
theorem neE_self (x : S44) : neE x x = false := by simp [neE]
theorem neE_eq {x y : S44} (h : neE x y = false) : x = y := by
  unfold neE at h
  simp only [Bool.or_eq_false_iff, Bool.not_eq_false', beq_iff_eq] at h
  obtain ⟨h0, ⟨h1, h2⟩, h3, h4⟩ := h
  rcases x with ⟨a, ⟨b, c⟩, d, e⟩
  rcases y with ⟨a', ⟨b', c'⟩, d', e'⟩
  simp only at h0 h1 h2 h3 h4
  rw [ba_eq.1 h0, h1, h2, ba_eq.1 h3, h4]
def sameB : List S44 → List S44 → Bool
  | [], [] => true
  | x :: l, y :: m => !neE x y && sameB l m
  | _, _ => false
theorem sameB_iff : ∀ {a b : List S44}, sameB a b = true ↔ a = b := by
  intro a
  induction a with
  | nil => intro b; cases b <;> simp [sameB]
  | cons x l ih =>
    intro b
    cases b with
    | nil => simp [sameB]
    | cons y m =>
      simp only [sameB, Bool.and_eq_true, Bool.not_eq_true', ih, List.cons.injEq]
      constructor
      · rintro ⟨h1, h2⟩; exact ⟨neE_eq h1, h2⟩
      · rintro ⟨h1, h2⟩; rw [h1]; exact ⟨neE_self _, h2⟩
theorem sameB_length {a b : List S44} (h : a.length ≠ b.length) : sameB a b = false := by
  cases hs : sameB a b with
  | false => rfl
  | true => exact absurd (by rw [sameB_iff.1 hs]) h
theorem same_loop (a b : List S44) (he : a.length = b.length) (hl : a.length ≤ 3518437208881) (d : Nat) : ∀ i : Nat, i + d = a.length →
    Ev (fun k => tidelinelaw09_same.l0 k a b (i : Int)) (sameB (a.drop i) (b.drop i)) := by
  induction d with
  | zero =>
    intro i hd
    refine Ev.step (fun k => by rw [tidelinelaw09_same.l0]) ?_
    simp only [if_neg (show ¬ (i : Int) < (a.length : Int) by omega)]
    rw [List.drop_of_length_le (show a.length ≤ i by omega), List.drop_of_length_le (show b.length ≤ i by omega)]
    exact Ev.const rfl
  | succ d ih =>
    intro i hd
    refine Ev.step (fun k => by rw [tidelinelaw09_same.l0]) ?_
    simp only [if_pos (show (i : Int) < (a.length : Int) by omega), if_pos (show (0 : Int) ≤ (i : Int) by omega), if_pos (show (i : Int) < (b.length : Int) by omega)]
    rw [rd44 (show i < a.length by omega), rd44 (show i < b.length by omega), wrap_succ (by omega), List.drop_eq_getElem_cons (show i < a.length by omega), List.drop_eq_getElem_cons (show i < b.length by omega)]
    have := ih (i + 1) (by omega)
    simp only [sameB]
    cases hn : neE a[i] b[i] with
    | true =>
      unfold neE at hn
      simp only [hn, if_true]
      exact Ev.const rfl
    | false =>
      unfold neE at hn
      simp only [hn, if_neg (show ¬ (false = true) by decide)]
      exact Ev.val this (by simp)
theorem same_f (a b : List S44) (hl : a.length ≤ 3518437208881) : Ev (fun k => tidelinelaw09_same.f k a b) (sameB a b) := by
  refine Ev.congr (fun k => by rw [tidelinelaw09_same.f]) ?_
  by_cases he : a.length = b.length
  · simp only [if_pos (show (a.length : Int) = (b.length : Int) by omega)]
    have := same_loop a b he hl a.length 0 (Nat.zero_add _)
    simpa using this
  · simp only [if_neg (show ¬ (a.length : Int) = (b.length : Int) by omega)]
    exact Ev.const (by rw [sameB_length he])
end Go.Proofs.Ytghlellambnkeaa.Pure
