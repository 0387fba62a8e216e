import Derived.Test.YtcfiobhebakhlaaPAllx13
import Derived.Test.YtcfiobhebakhlaaSEv
set_option linter.unusedVariables false
set_option linter.unusedSimpArgs false
namespace Go.Proofs.Ytcfiobhebakhlaa.Pure
open Go.RowKit Go.Proofs.Ytcfiobhebakhlaa.PAll Go.Proofs.YtcfiobhebakhlaaW.PrintWords Go.Proofs.YtcfiobhebakhlaaW.PrintLast Go.Proofs.YtcfiobhebakhlaaW.PrintMore
theorem rdOf_nat {α : Type} (d : α) (l : List α) (i : Nat) (h : i < l.length) : rdOf d l (i : Int) = l[i] := by
  unfold rdOf; rw [Int.toNat_natCast, List.getD_eq_getElem?_getD, List.getElem?_eq_getElem h]; rfl
theorem rd_nat (l : List Int) (i : Nat) (h : i < l.length) : rd l (i : Int) = l[i] := by
  unfold rd; rw [Int.toNat_natCast, List.getD_eq_getElem?_getD, List.getElem?_eq_getElem h]; rfl
theorem ba_eq {a b : ByteArray} : a.toList = b.toList ↔ a = b := by
  constructor
  · intro h
    rw [Go.ByteArray.toList_eq, Go.ByteArray.toList_eq] at h
    cases a; cases b
    simp only [ByteArray.mk.injEq]
    exact Array.toList_inj.1 h
  · rintro rfl; rfl
theorem sameT_loop (l : List ByteArray) (hl : l.length ≤ 9223372036854775806) (d : Nat) : ∀ (i : Nat), i + d = l.length → Ev (fun k => tidelinelaw07_sameTexts.l0 k l l (i : Int)) true := by
  induction d with
  | zero =>
    intro i hd
    refine Ev.step (fun k => by rw [tidelinelaw07_sameTexts.l0]) ?_
    simp only [if_neg (show ¬ (i : Int) < (l.length : Int) by omega)]
    exact Ev.const rfl
  | succ d ih =>
    intro i hd
    refine Ev.step (fun k => by rw [tidelinelaw07_sameTexts.l0]) ?_
    simp only [if_pos (show (i : Int) < (l.length : Int) by omega), if_pos (show (0 : Int) ≤ (i : Int) by omega), if_true]
    rw [wrap_succ (by omega)]
    exact ih (i + 1) (by omega)
theorem sameT_self (l : List ByteArray) (hl : l.length ≤ 9223372036854775806) : Ev (fun k => tidelinelaw07_sameTexts.f k l l) true := by
  refine Ev.congr (fun k => by rw [tidelinelaw07_sameTexts.f, if_pos rfl]) ?_
  exact sameT_loop l hl l.length 0 (by omega)
end Go.Proofs.Ytcfiobhebakhlaa.Pure
