-- By wip/pr.py (a program of this session, over the kit's print): lines written by program. Not trusted: Lean checks them.
import Derived.Test.YtdkkpngmplehfaaDoorProg
import Derived.Below
import Derived.Deep.Draws
import Derived.Deep.AppendLies
import Derived.Maps.AppendAt
import Derived.OwnWalk
import Derived.Laws.BytesArg
import Derived.Laws.MakeOwn
import Derived.Laws.OwnMore
import Derived.Deep.OwnRows
import Derived.Tactics
import Derived.Lib.ConvBytes
import Derived.Laws.Slices
import Derived.WalkKit
import Derived.KernelRfl
import Derived.RowKit3
import Derived.Deep.LoopGhost
import Derived.Deep.QuietTactic
import Derived.BigQuiet
import Derived.WideLaws
import Derived.Deep.DeepCutAuto
import Derived.Deep.CutBlock
import Derived.Deep.RegionHeld3
import Derived.Laws.Rows
import Derived.Lib.AppendStr
import Derived.ArgAppend
import Derived.Laws.IdiomCopy
import Derived.OrdersHeld
import Derived.Laws.BitsLemmas
import Derived.RowKit
import Derived.Test.YtdkkpngmplehfaaDoorSStr
import Derived.Test.YtdkkpngmplehfaaDoorSMake
import Derived.Test.YtdkkpngmplehfaaDoorSPeel
import Derived.Test.YtdkkpngmplehfaaDoorWWords
import Derived.Test.YtdkkpngmplehfaaDoorWLast
import Derived.Test.YtdkkpngmplehfaaDoorWTab
import Derived.Test.YtdkkpngmplehfaaDoorWFour
import Derived.Test.YtdkkpngmplehfaaDoorWQPut
import Derived.Test.YtdkkpngmplehfaaDoorWApart
import Derived.Test.YtdkkpngmplehfaaDoorWArr
import Derived.Test.YtdkkpngmplehfaaDoorWZeros
import Derived.Test.YtdkkpngmplehfaaDoorWFoot
import Derived.Test.YtdkkpngmplehfaaDoorWKept
import Derived.Test.YtdkkpngmplehfaaDoorWShare
import Derived.Test.YtdkkpngmplehfaaDoorWN
import Derived.Test.YtdkkpngmplehfaaDoorWFootNe
import Derived.Test.YtdkkpngmplehfaaDoorWAt
import Derived.Test.YtdkkpngmplehfaaDoorWEqStruct
import Derived.Test.YtdkkpngmplehfaaDoorWRepsOne
import Derived.Test.YtdkkpngmplehfaaDoorWInv
import Derived.Test.YtdkkpngmplehfaaDoorWInvWords
import Derived.Test.YtdkkpngmplehfaaDoorWGuard
import Derived.Test.YtdkkpngmplehfaaDoorWNEv
import Derived.Test.YtdkkpngmplehfaaDoorWMore
namespace Go.Proofs.YtdkkpngmplehfaaDoor.PAll
open Go.RowKit Go.Proofs.YtdkkpngmplehfaaDoorW.PrintWords Go.Proofs.YtdkkpngmplehfaaDoorW.PrintLast Go.Proofs.YtdkkpngmplehfaaDoorW.PrintMore
attribute [local go_sem] max2_int min2_int max_two min_two max_three min_three max_four min_four   -- for this text's walks alone
set_option linter.unusedVariables false
set_option linter.unusedSimpArgs false



def errW : Option Int → Value
  | none => .nilIface
  | some c => .iface 0 (.int .i64 c)
theorem errW_none : errW none = .nilIface := rfl
theorem errW_some (c : Int) : errW (some c) = .iface 0 (.int .i64 c) := rfl

-- the values' own types

end Go.Proofs.YtdkkpngmplehfaaDoor.PAll
