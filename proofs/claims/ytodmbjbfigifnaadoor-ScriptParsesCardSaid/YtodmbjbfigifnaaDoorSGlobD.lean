-- By wip/late.py (a program of this session) out of wip/words.
import Derived.Test.YtodmbjbfigifnaaDoorProg
import Derived.Test.YtodmbjbfigifnaaDoorWWords
import Derived.Test.YtodmbjbfigifnaaDoorWLast
import Derived.Test.YtodmbjbfigifnaaDoorWMore
import Derived.Test.YtodmbjbfigifnaaDoorSTabs
set_option linter.unusedVariables false
namespace Go.Proofs.YtodmbjbfigifnaaDoor.Glob
open Go.RowKit Go.Proofs.YtodmbjbfigifnaaDoor.Dig
/-! What the library's functions ask of the package variables, at a door. -/
def GlobOK (w : World) : Prop := TabsOK w ∧ ∃ m, w.cell? ⟨0, 0, none⟩ = some (.int .i64 m)
theorem GlobOK.below {w W : World} (h : GlobOK w) (hb : Below w.heap.size w W) : GlobOK W := by
  obtain ⟨h1, m, hm⟩ := h
  have hlt := World.block_lt_of_cell? w _ hm
  exact ⟨h1.below hb, m, (hb.cell hlt).trans hm⟩
end Go.Proofs.YtodmbjbfigifnaaDoor.Glob
