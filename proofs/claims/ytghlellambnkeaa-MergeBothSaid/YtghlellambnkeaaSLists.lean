import Derived.Test.YtghlellambnkeaaPAllx0
import Derived.Test.YtghlellambnkeaaSEv
set_option linter.unusedVariables false
set_option linter.unusedSimpArgs false
namespace Go.Proofs.Ytghlellambnkeaa.Pure
open Go.RowKit Go.Proofs.Ytghlellambnkeaa.PAll Go.Proofs.YtghlellambnkeaaW.PrintWords Go.Proofs.YtghlellambnkeaaW.PrintLast Go.Proofs.YtghlellambnkeaaW.PrintMore
theorem rdOf_nat {α : Type} (d : α) (l : List α) (i : Nat) (h : i < l.length) : rdOf d l (i : Int) = l[i] := by
  unfold rdOf; rw [Int.toNat_natCast, List.getD_eq_getElem?_getD, List.getElem?_eq_getElem h]; rfl
theorem rd_nat (l : List Int) (i : Nat) (h : i < l.length) : rd l (i : Int) = l[i] := by
  unfold rd; rw [Int.toNat_natCast, List.getD_eq_getElem?_getD, List.getElem?_eq_getElem h]; rfl
theorem ba_eq {a b : ByteArray} : a.toList = b.toList ↔ a = b := by
  constructor
  · intro h
    rw [Go.ByteArray.toList_eq, Go.ByteArray.toList_eq] at h
    cases a; cases b
    simp only [ByteArray.mk.injEq]
    exact Array.toList_inj.1 h
  · rintro rfl; rfl
end Go.Proofs.Ytghlellambnkeaa.Pure
