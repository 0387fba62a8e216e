-- By wip/late.py (a program of this session) out of wip/words.
import Derived.Test.YthalodnfecaccaaProg
import Derived.Test.YthalodnfecaccaaWWords
import Derived.Test.YthalodnfecaccaaWLast
import Derived.Test.YthalodnfecaccaaWMore
import Derived.Test.YthalodnfecaccaaSRdNew
import Derived.Test.YthalodnfecaccaaSWrNums
import Derived.Test.YthalodnfecaccaaSWrTwo
import Derived.RangeFuncBox
import Derived.Maps.AppendAt
import Derived.Deep.AppendSrc
import Derived.Deep.Upon
import Derived.Lib.Hide
import Derived.WalkKit
import Derived.OwnWalk
import Derived.Test.YthalodnfecaccaaSRdP
set_option linter.unusedVariables false
set_option linter.unusedSimpArgs false
namespace Go.Proofs.Ythalodnfecaccaa.Rd
open Go.RowKit Go.Proofs.YthalodnfecaccaaW.PrintWords Go.Proofs.Ythalodnfecaccaa.Pure Go.Proofs.Ythalodnfecaccaa.Wr
/-- 'in := []byte{}', and b appended. -/
theorem in_run (w : World) {A : Option Addr} {c : Nat} {l : List Int} (h : Kd.C (Kd.int .u8) w A l.length l) (hl : l.length ≤ 2147483647) :
    ∃ A' c' w1, (∀ ty, (Builtin.append_ #[49, 49] ty #[.slice (some ⟨w.heap.size, 0, none⟩) 0 0, .slice A l.length c]).run Try.prog (w.alloc (.cells #[] 5)) = .ok (.slice A' l.length c') w1) ∧ w1.ownsRow w.heap.size 5 1 (.slice A' l.length c') l.length (bv l) ∧ Below w.heap.size w w1 := by
  obtain ⟨i0, hi, hz0, hz1, hz2⟩ := infoB
  have hb0 : Below w.heap.size w (w.alloc (.cells #[] 5)) := below_alloc (Below.refl _ _) _
  have hown : (w.alloc (.cells #[] 5)).ownsRow w.heap.size 5 1 (.slice (some ⟨w.heap.size, 0, none⟩) 0 0) 0 [] := ⟨rfl, .inr ⟨w.heap.size, 0, #[], rfl, Nat.le_refl _, heap_alloc_new _ _, Nat.le_refl _, by decide, rfl, rfl⟩⟩
  obtain ⟨v', w1, hr, h1, h2, h3⟩ := run_append_own_src (P := Try.prog) (w.alloc (.cells #[] 5)) w.heap.size 49 49 49 5 i0 (.int .u8 0) 1 1 Try.underlying49 hi hz0 hz1 hz2 rfl (by decide) (.slice (some ⟨w.heap.size, 0, none⟩) 0 0) 0 [] hown (.slice A l.length c) l.length (bv l) (C_src (Kd.C_below h hb0)) (by simp only [maxLen]; omega) (by omega) hb0.size
  rw [Nat.zero_add, List.nil_append] at h1
  obtain ⟨A', c', rfl⟩ := own_shape h1
  refine ⟨A', c', w1, fun ty => hr, h1, hb0.trans ⟨h2.os, h2.tape, h2.output, h2.size, fun k hk => h2.block k (Nat.lt_of_lt_of_le hk hb0.size) ?_⟩⟩
  intro e
  have : w.heap.size = k := by simpa [Value.ownBlock] using e.symm
  omega
theorem own_CA {W : World} {base : Nat} {A : Option Addr} {c : Nat} {l : List Int} (h : W.ownsRow base 5 1 (.slice A l.length c) l.length (bv l)) (hl : l.length ≤ 9223372036854775807) : Kd.C (Kd.int .u8) W A l.length l := by
  obtain ⟨A', c', ev, _, hC⟩ := own_C h hl
  cases ev
  exact hC
theorem own_cap {W : World} {base : Nat} {A : Option Addr} {c : Nat} {l : List Int} (h : W.ownsRow base 5 1 (.slice A l.length c) l.length (bv l)) (hl : l.length ≤ 9223372036854775807) : l.length ≤ c := by
  obtain ⟨A', c', ev, hc, _⟩ := own_C h hl
  cases ev
  exact hc
theorem own_lt {W : World} {base : Nat} {v : Value} {n : Nat} {xs : List Value} (h : W.ownsRow base 5 1 v n xs) {g : Nat} (hg : v.ownBlock = some g) : g < W.heap.size := by
  obtain ⟨cells, hc⟩ := own_typed h g hg
  exact blk_lt hc
end Go.Proofs.Ythalodnfecaccaa.Rd
