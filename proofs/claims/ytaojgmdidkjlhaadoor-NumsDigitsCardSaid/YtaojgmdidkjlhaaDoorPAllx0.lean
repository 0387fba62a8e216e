-- By wip/pr.py (a program of this session, over the kit's print): lines written by program. Not trusted: Lean checks them.
import Derived.Test.YtaojgmdidkjlhaaDoorProg
import Derived.Below
import Derived.Deep.Draws
import Derived.Deep.AppendLies
import Derived.Maps.AppendAt
import Derived.OwnWalk
import Derived.Laws.BytesArg
import Derived.Laws.MakeOwn
import Derived.Laws.OwnMore
import Derived.Deep.OwnRows
import Derived.Tactics
import Derived.Lib.ConvBytes
import Derived.Laws.Slices
import Derived.WalkKit
import Derived.KernelRfl
import Derived.RowKit3
import Derived.Deep.LoopGhost
import Derived.Deep.QuietTactic
import Derived.BigQuiet
import Derived.WideLaws
import Derived.Deep.DeepCutAuto
import Derived.Deep.CutBlock
import Derived.Deep.RegionHeld3
import Derived.Laws.Rows
import Derived.Lib.AppendStr
import Derived.ArgAppend
import Derived.Laws.IdiomCopy
import Derived.OrdersHeld
import Derived.Laws.BitsLemmas
import Derived.RowKit
import Derived.Test.YtaojgmdidkjlhaaDoorSStr
import Derived.Test.YtaojgmdidkjlhaaDoorSMake
import Derived.Test.YtaojgmdidkjlhaaDoorSPeel
import Derived.Test.YtaojgmdidkjlhaaDoorWWords
import Derived.Test.YtaojgmdidkjlhaaDoorWLast
import Derived.Test.YtaojgmdidkjlhaaDoorWTab
import Derived.Test.YtaojgmdidkjlhaaDoorWFour
import Derived.Test.YtaojgmdidkjlhaaDoorWQPut
import Derived.Test.YtaojgmdidkjlhaaDoorWApart
import Derived.Test.YtaojgmdidkjlhaaDoorWArr
import Derived.Test.YtaojgmdidkjlhaaDoorWZeros
import Derived.Test.YtaojgmdidkjlhaaDoorWFoot
import Derived.Test.YtaojgmdidkjlhaaDoorWKept
import Derived.Test.YtaojgmdidkjlhaaDoorWShare
import Derived.Test.YtaojgmdidkjlhaaDoorWN
import Derived.Test.YtaojgmdidkjlhaaDoorWFootNe
import Derived.Test.YtaojgmdidkjlhaaDoorWAt
import Derived.Test.YtaojgmdidkjlhaaDoorWEqStruct
import Derived.Test.YtaojgmdidkjlhaaDoorWRepsOne
import Derived.Test.YtaojgmdidkjlhaaDoorWInv
import Derived.Test.YtaojgmdidkjlhaaDoorWInvWords
import Derived.Test.YtaojgmdidkjlhaaDoorWGuard
import Derived.Test.YtaojgmdidkjlhaaDoorWNEv
import Derived.Test.YtaojgmdidkjlhaaDoorWMore
namespace Go.Proofs.YtaojgmdidkjlhaaDoor.PAll
open Go.RowKit Go.Proofs.YtaojgmdidkjlhaaDoorW.PrintWords Go.Proofs.YtaojgmdidkjlhaaDoorW.PrintLast Go.Proofs.YtaojgmdidkjlhaaDoorW.PrintMore
attribute [local go_sem] max2_int min2_int max_two min_two max_three min_three max_four min_four   -- for this text's walks alone
set_option linter.unusedVariables false
set_option linter.unusedSimpArgs false



def errW : Option Int → Value
  | none => .nilIface
  | some c => .iface 0 (.int .i64 c)
theorem errW_none : errW none = .nilIface := rfl
theorem errW_some (c : Int) : errW (some c) = .iface 0 (.int .i64 c) := rfl

-- the values' own types

end Go.Proofs.YtaojgmdidkjlhaaDoor.PAll
