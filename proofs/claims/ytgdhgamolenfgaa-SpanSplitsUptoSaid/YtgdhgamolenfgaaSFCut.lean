import Derived.Test.YtgdhgamolenfgaaProg
import Derived.Test.YtgdhgamolenfgaaShelf
import Derived.Test.YtgdhgamolenfgaaSGlob
import Derived.Test.YtgdhgamolenfgaaWWords
namespace Go.Proofs.Ytgdhgamolenfgaa.Glob
theorem glob_of_shaped {w : World} (h : w.ShapedOpen Try.prog) : GlobOK w := by
  obtain ⟨m, hm⟩ := Try.laysM145.s1_3 w h
  exact ⟨m, hm⟩
end Go.Proofs.Ytgdhgamolenfgaa.Glob
namespace Go.Proofs.Ytgdhgamolenfgaa.PAll
open Go.RowKit Go.Proofs.Ytgdhgamolenfgaa.Glob Go.Proofs.YtgdhgamolenfgaaW.PrintWords
/-- What strings.Cut answers, of texts within the model's bound. -/
def strings_Cut.f (a0 a1 : ByteArray) : Option (ByteArray × ByteArray × Bool) :=
  if a0.size < 4294967281 then some (⟨(Lib.cut a0.data.toList a1.data.toList).1.toArray⟩, ⟨(Lib.cut a0.data.toList a1.data.toList).2.1.toArray⟩, (Lib.cut a0.data.toList a1.data.toList).2.2) else none
theorem strings_Cut.calls (a0 : ByteArray) (a1 : ByteArray) (r1 : ByteArray) (r2 : ByteArray) (r3 : Bool) (w : World) (hG : GlobOK w) (h : strings_Cut.f a0 a1 = some (r1, r2, r3)) :
    Calls Try.prog 37 #[.string a0, .string a1] w fun e w' => e = .returned (.tuple #[.string r1, .string r2, .bool r3]) ∧ Below w.heap.size w w' := by
  obtain ⟨m, hm⟩ := hG
  unfold strings_Cut.f at h
  by_cases hs : a0.size < 4294967281
  · rw [if_pos hs] at h
    simp only [Option.some.injEq, Prod.mk.injEq] at h
    obtain ⟨rfl, rfl, rfl⟩ := h
    refine (Try.strings_Cut a0 a1 m w hs hm).mono ?_
    rintro e w' ⟨rfl, n, rfl⟩
    exact ⟨rfl, pw_below_drewN (Below.refl _ _) n⟩
  · rw [if_neg hs] at h; cases h
end Go.Proofs.Ytgdhgamolenfgaa.PAll
