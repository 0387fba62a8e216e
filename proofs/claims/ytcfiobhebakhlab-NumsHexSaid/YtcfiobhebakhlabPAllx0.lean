-- By wip/pr.py (a program of this session, over the kit's print): lines written by program. Not trusted: Lean checks them.
import Derived.Test.YtcfiobhebakhlabProg
import Derived.Below
import Derived.Deep.Draws
import Derived.Deep.AppendLies
import Derived.Maps.AppendAt
import Derived.OwnWalk
import Derived.Laws.BytesArg
import Derived.Laws.MakeOwn
import Derived.Laws.OwnMore
import Derived.Deep.OwnRows
import Derived.Tactics
import Derived.Lib.ConvBytes
import Derived.Laws.Slices
import Derived.WalkKit
import Derived.KernelRfl
import Derived.RowKit3
import Derived.Deep.LoopGhost
import Derived.Deep.QuietTactic
import Derived.BigQuiet
import Derived.WideLaws
import Derived.Deep.DeepCutAuto
import Derived.Deep.CutBlock
import Derived.Deep.RegionHeld3
import Derived.Laws.Rows
import Derived.Lib.AppendStr
import Derived.ArgAppend
import Derived.Laws.IdiomCopy
import Derived.OrdersHeld
import Derived.Laws.BitsLemmas
import Derived.RowKit
import Derived.Test.YtcfiobhebakhlabSStr
import Derived.Test.YtcfiobhebakhlabSMake
import Derived.Test.YtcfiobhebakhlabWWords
import Derived.Test.YtcfiobhebakhlabWLast
import Derived.Test.YtcfiobhebakhlabWTab
import Derived.Test.YtcfiobhebakhlabWFour
import Derived.Test.YtcfiobhebakhlabWQPut
import Derived.Test.YtcfiobhebakhlabWApart
import Derived.Test.YtcfiobhebakhlabWArr
import Derived.Test.YtcfiobhebakhlabWZeros
import Derived.Test.YtcfiobhebakhlabWFoot
import Derived.Test.YtcfiobhebakhlabWKept
import Derived.Test.YtcfiobhebakhlabWShare
import Derived.Test.YtcfiobhebakhlabWN
import Derived.Test.YtcfiobhebakhlabWFootNe
import Derived.Test.YtcfiobhebakhlabWAt
import Derived.Test.YtcfiobhebakhlabWEqStruct
import Derived.Test.YtcfiobhebakhlabWRepsOne
import Derived.Test.YtcfiobhebakhlabWInv
import Derived.Test.YtcfiobhebakhlabWInvWords
import Derived.Test.YtcfiobhebakhlabWGuard
import Derived.Test.YtcfiobhebakhlabWNEv
import Derived.Test.YtcfiobhebakhlabWMore
namespace Go.Proofs.Ytcfiobhebakhlab.PAll
open Go.RowKit Go.Proofs.YtcfiobhebakhlabW.PrintWords Go.Proofs.YtcfiobhebakhlabW.PrintLast Go.Proofs.YtcfiobhebakhlabW.PrintMore
attribute [local go_sem] max2_int min2_int max_two min_two max_three min_three max_four min_four   -- for this text's walks alone
set_option linter.unusedVariables false
set_option linter.unusedSimpArgs false



def errW : Option Int → Value
  | none => .nilIface
  | some c => .iface 0 (.int .i64 c)
theorem errW_none : errW none = .nilIface := rfl
theorem errW_some (c : Int) : errW (some c) = .iface 0 (.int .i64 c) := rfl

theorem info5 : (Try.prog.info? 5).map (fun i => (i.zero, i.size, i.bytes)) = some (some (.int .u8 0), 1, 1) := by kernel_rfl
-- the values' own types

end Go.Proofs.Ytcfiobhebakhlab.PAll
