-- By wip/late.py (a program of this session) out of wip/words.
import Derived.Test.YthnjlbdkcpgcjaaDoorProg
import Derived.Test.YthnjlbdkcpgcjaaDoorWWords
import Derived.Test.YthnjlbdkcpgcjaaDoorWLast
import Derived.Test.YthnjlbdkcpgcjaaDoorWMore
import Derived.Test.YthnjlbdkcpgcjaaDoorSDig
import Derived.Test.YthnjlbdkcpgcjaaDoorSDigP
import Derived.Test.YthnjlbdkcpgcjaaDoorSGlobD
set_option linter.unusedVariables false
namespace Go.Proofs.YthnjlbdkcpgcjaaDoor.PAll
open Go.RowKit Go.Proofs.YthnjlbdkcpgcjaaDoor.Glob Go.Proofs.YthnjlbdkcpgcjaaDoor.Dig Go.Proofs.YthnjlbdkcpgcjaaDoorW.PrintWords
/-! Numbers as text, and texts as numbers: the contracts as the print wants them. -/
def nums_Digits.f (a0 : Int) : Option ByteArray := if a0 ≤ 9223372036854775807 then some ⟨(Lib.decDigits (max a0 0).toNat).toArray⟩ else none
theorem nums_Digits.calls (a0 : Int) (r : ByteArray) (w : World) (hG : GlobOK w) (h : nums_Digits.f a0 = some r) :
    Calls Tryd.prog 11 #[.int .i64 a0] w fun e w' => e = .returned (.string r) ∧ Below w.heap.size w w' := by
  unfold nums_Digits.f at h
  by_cases h1 : a0 ≤ 9223372036854775807
  · rw [if_pos h1] at h
    obtain rfl := Option.some.inj h
    exact digits_calls (max a0 0).toNat a0 (by omega) h1 w hG.1
  · rw [if_neg h1] at h; cases h
def tidelineref01_Digits.f (a0 : Int) : Option ByteArray := if a0 ≤ 9223372036854775807 then some ⟨(Lib.decDigits (max a0 0).toNat).toArray⟩ else none
theorem tidelineref01_Digits.calls (a0 : Int) (r : ByteArray) (w : World) (h : tidelineref01_Digits.f a0 = some r) :
    Calls Tryd.prog 14 #[.int .i64 a0] w fun e w' => e = .returned (.string r) ∧ Below w.heap.size w w' := by
  unfold tidelineref01_Digits.f at h
  by_cases h1 : a0 ≤ 9223372036854775807
  · rw [if_pos h1] at h
    obtain rfl := Option.some.inj h
    by_cases hn : a0 < 0
    · rw [show (max a0 0).toNat = 0 by omega]
      exact (rdigits_neg a0 hn w).mono fun e w' ⟨h1, q, h2⟩ => ⟨h1, h2 ▸ below_drewN (Below.refl _ _) q⟩
    · obtain ⟨m, rfl⟩ := Int.eq_ofNat_of_zero_le (show 0 ≤ a0 by omega)
      rw [show (max (m : Int) 0).toNat = m by omega]
      exact (rdigits m (by omega) w).mono fun e w' ⟨h1, q, h2⟩ => ⟨h1, h2 ▸ below_drewN (Below.refl _ _) q⟩
  · rw [if_neg h1] at h; cases h
def nums_Parse.f (a0 : ByteArray) (a1 : Int) : Option (Int × Int) := if a0.size ≤ 4294967296 then some (numP a0.data.toList a1) else none
theorem nums_Parse.calls (a0 : ByteArray) (a1 : Int) (r1 r2 : Int) (w : World) (hG : GlobOK w) (h : nums_Parse.f a0 a1 = some (r1, r2)) :
    Calls Tryd.prog 33 #[.string a0, .int .i64 a1] w fun e w' => e = .returned (.tuple #[.int .i64 r1, .int .i64 r2]) ∧ Below w.heap.size w w' := by
  unfold nums_Parse.f at h
  by_cases h1 : a0.size ≤ 4294967296
  · rw [if_pos h1] at h
    have h2 := Option.some.inj h
    have := parse_calls a0 a1 h1 w hG.1
    rwa [h2] at this
  · rw [if_neg h1] at h; cases h
end Go.Proofs.YthnjlbdkcpgcjaaDoor.PAll
