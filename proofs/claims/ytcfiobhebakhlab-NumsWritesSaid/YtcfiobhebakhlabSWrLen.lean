-- By wip/late.py (a program of this session) out of wip/words.
import Derived.Test.YtcfiobhebakhlabProg
import Derived.Test.YtcfiobhebakhlabWWords
import Derived.Test.YtcfiobhebakhlabWLast
import Derived.Test.YtcfiobhebakhlabWMore
import Derived.Test.YtcfiobhebakhlabSWr
import Derived.Test.YtcfiobhebakhlabSWrNums
import Derived.RangeFuncBox
import Derived.Maps.AppendAt
import Derived.Deep.AppendSrc
import Derived.Deep.Upon
import Derived.Lib.AppendZeros
import Derived.BigQuiet
import Derived.Deep.QuietTactic
import Derived.Lib.Hide
import Derived.Tactics
import Derived.WalkKit
import Derived.OwnWalk
import Derived.Test.YtcfiobhebakhlabSNumsP
set_option linter.unusedVariables false
set_option linter.unusedSimpArgs false
namespace Go.Proofs.Ytcfiobhebakhlab.Wr
open Go.RowKit Go.Proofs.YtcfiobhebakhlabW.PrintWords Go.Proofs.Ytcfiobhebakhlab.Pure
theorem len_calls {n₀ B : Nat} {w : World} {v : Value} {l : List Int} (h : Wrt n₀ 60 w B v l) :
    Calls Try.prog 11 #[.pointer (some ⟨B, 0, none⟩)] w fun e w' => e = .returned (.int .i64 (l.length : Int)) ∧ w' = w := by
  obtain ⟨A, c, rfl, _⟩ := h.shape
  have hc := h.box.cell
  clear h
  go_enter Try.func11, Try.ntmps11
  go_wp2
  go_ret
  exact ⟨rfl, rfl⟩
theorem rlen_calls {n₀ B : Nat} {w : World} {v : Value} {l : List Int} (h : Wrt n₀ 38 w B v l) :
    Calls Try.prog 15 #[.pointer (some ⟨B, 0, none⟩)] w fun e w' => e = .returned (.int .i64 (l.length : Int)) ∧ w' = w := by
  obtain ⟨A, c, rfl, _⟩ := h.shape
  have hc := h.box.cell
  clear h
  go_enter Try.func15, Try.ntmps15
  go_wp2
  go_ret
  exact ⟨rfl, rfl⟩
end Go.Proofs.Ytcfiobhebakhlab.Wr
