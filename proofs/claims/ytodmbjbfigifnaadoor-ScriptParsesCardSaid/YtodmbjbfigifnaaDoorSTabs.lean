-- By wip/late.py (a program of this session) out of wip/words.
import Derived.Test.YtodmbjbfigifnaaDoorProg
import Derived.Test.YtodmbjbfigifnaaDoorWWords
import Derived.Test.YtodmbjbfigifnaaDoorWLast
import Derived.Test.YtodmbjbfigifnaaDoorWMore
import Derived.Lib.LaidTab
import Derived.Lib.ItoaNum
import Derived.WalkSmall
import Derived.WalkKit
set_option linter.unusedVariables false
namespace Go.Proofs.YtodmbjbfigifnaaDoor.Dig
open Go.RowKit Go.Lib
/-! The library's tables and variables, as start-up lays them. -/
/-- What start-up laid: the table of powers, and the variable ErrRange. -/
def TabsOK (w : World) : Prop := TabIs Tryd.prog w "internal/strconv.uint64pow10" .u64 pow10Tab ∧ ∃ ev, w.cell? ⟨5, 0, none⟩ = some ev ∧ (ev = .nilIface ∨ ∃ te pe, ev = .iface te pe)
theorem TabsOK.below {w W : World} (h : TabsOK w) (hb : Below w.heap.size w W) : TabsOK W := by
  obtain ⟨h1, ev, h2, h3⟩ := h
  refine ⟨?_, ev, (hb.cell (World.block_lt_of_cell? w _ h2)).trans h2, h3⟩
  have hg : Tryd.prog.globalNamed "internal/strconv.uint64pow10" = some 3 := by kernel_rfl
  have hlt : 3 < w.heap.size := by
    have h4 : w.var? Tryd.prog "internal/strconv.uint64pow10" = _ := h1
    unfold World.var? at h4
    rw [hg, Option.bind_some] at h4
    by_cases hl : 3 < w.heap.size
    · exact hl
    · rw [Array.getElem?_eq_none (by omega)] at h4; cases h4
  exact var?_below hb hg hlt h1
end Go.Proofs.YtodmbjbfigifnaaDoor.Dig
