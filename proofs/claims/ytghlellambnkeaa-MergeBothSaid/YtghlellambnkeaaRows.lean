/-
  No cell of these rows narrows 'for every input' (looked for: loops, veiled, ifaces, maps, wideKeys, modest, calm, conditions, laid).
  DERIVED. THE GIVEN ROWS OF THIS SEAT. 9 by the template 'for every input the law returns true; each argument reads behind the call as it read before'; 0 by the template 'total and deterministic' (their statements: YtghlellambnkeaaTotals.lean).
  GIVEN WITH THE SEED: the statements are not yours to turn. If you find one false, say at which input.
  Laid BY PROGRAM, IN A SANDBOX (cutbox-rows.mjs): the forced cells as the released guide's own fill.sh prints them over the translation 23a8469c42a67eaf… (all of the seat's roots in one cut). By AI agents, Wed Nov 11 2026. No macro, syntax, notation, axiom, sorry.
-/
import Derived.Test.YtghlellambnkeaaChecked
import GoSem.Claim
import GoSem.ClaimJoined
import GoSem.ClaimMapViews
import Derived.JoinedTies
import Derived.KernelRfl
namespace Go.Proofs.Ytghlellambnkeaa
/- THE CELL 'sum', in the pinned program and in every row, IS THE sha256 OF THE DUMP (.gsa) THAT YtghlellambnkeaaProg.lean LOADS. Nothing in Lean hashes anything: it is a label: what it is worth is what the hold of that sum in a sandbox is worth. -/
noncomputable def Try.pinned : Pinned := { name := "ytghlellambnkeaa", sum := "23a8469c42a67eaffd5bd9f1a640705632e261baa733ea1353edd6a0bcdca565", checked := Try.checked }
namespace Rows
def none {H : Type} : Left H := { results := [], args := [] }

/-- 'tidelinelaw09.MergeChecks': WHATEVER THE INPUT: true; the input reads as it did. -/
def mergeChecksSpec : ChangeSpec := { name := "mergeChecks", fn := fun _ => fun
  | [d] => { results := [.lit (.bool true)], args := [d] }
  | _ => none }
def mergeChecksRow : OpenClaim := { program := "ytghlellambnkeaa", sum := "23a8469c42a67eaffd5bd9f1a640705632e261baa733ea1353edd6a0bcdca565", func := "tideline/tidelinelaw09.MergeChecks", spec := "mergeChecks", apart := false }
def MergeChecksSaid : Prop := mergeChecksRow.holds Try.pinned (OpenSpec.ofChange mergeChecksSpec)

/-- ITS FALSE NEIGHBOUR: 'it returns false'. Refute it at one input. -/
def mergeChecksWrong : ChangeSpec := { name := "mergeChecks", fn := fun _ => fun
  | [d] => { results := [.lit (.bool false)], args := [d] }
  | _ => none }
def MergeChecksWrongFalsely : Prop := mergeChecksRow.holds Try.pinned (OpenSpec.ofChange mergeChecksWrong)

/-- 'tidelinelaw09.MergeIn': WHATEVER THE INPUT: true; the input reads as it did. -/
def mergeInSpec : ChangeSpec := { name := "mergeIn", fn := fun _ => fun
  | [d1, d2] => { results := [.lit (.bool true)], args := [d1, d2] }
  | _ => none }
def mergeInRow : OpenClaim := { program := "ytghlellambnkeaa", sum := "23a8469c42a67eaffd5bd9f1a640705632e261baa733ea1353edd6a0bcdca565", func := "tideline/tidelinelaw09.MergeIn", spec := "mergeIn", apart := false }
def MergeInSaid : Prop := mergeInRow.holds Try.pinned (OpenSpec.ofChange mergeInSpec)

/-- ITS FALSE NEIGHBOUR: 'it returns false'. Refute it at one input. -/
def mergeInWrong : ChangeSpec := { name := "mergeIn", fn := fun _ => fun
  | [d1, d2] => { results := [.lit (.bool false)], args := [d1, d2] }
  | _ => none }
def MergeInWrongFalsely : Prop := mergeInRow.holds Try.pinned (OpenSpec.ofChange mergeInWrong)

/-- 'tidelinelaw09.MergeBoth': WHATEVER THE INPUT: true; the input reads as it did. -/
def mergeBothSpec : ChangeSpec := { name := "mergeBoth", fn := fun _ => fun
  | [d1, d2, d3] => { results := [.lit (.bool true)], args := [d1, d2, d3] }
  | _ => none }
def mergeBothRow : OpenClaim := { program := "ytghlellambnkeaa", sum := "23a8469c42a67eaffd5bd9f1a640705632e261baa733ea1353edd6a0bcdca565", func := "tideline/tidelinelaw09.MergeBoth", spec := "mergeBoth", unfollowed := true, recurses := true, apart := false }
def MergeBothSaid : Prop := mergeBothRow.holds Try.pinned (OpenSpec.ofChange mergeBothSpec)

/-- ITS FALSE NEIGHBOUR: 'it returns false'. Refute it at one input. -/
def mergeBothWrong : ChangeSpec := { name := "mergeBoth", fn := fun _ => fun
  | [d1, d2, d3] => { results := [.lit (.bool false)], args := [d1, d2, d3] }
  | _ => none }
def MergeBothWrongFalsely : Prop := mergeBothRow.holds Try.pinned (OpenSpec.ofChange mergeBothWrong)

/-- 'tidelinelaw09.MergeSteps': WHATEVER THE INPUT: true; the input reads as it did. -/
def mergeStepsSpec : ChangeSpec := { name := "mergeSteps", fn := fun _ => fun
  | [d1, d2, d3] => { results := [.lit (.bool true)], args := [d1, d2, d3] }
  | _ => none }
def mergeStepsRow : OpenClaim := { program := "ytghlellambnkeaa", sum := "23a8469c42a67eaffd5bd9f1a640705632e261baa733ea1353edd6a0bcdca565", func := "tideline/tidelinelaw09.MergeSteps", spec := "mergeSteps", unfollowed := true, recurses := true, apart := false }
def MergeStepsSaid : Prop := mergeStepsRow.holds Try.pinned (OpenSpec.ofChange mergeStepsSpec)

/-- ITS FALSE NEIGHBOUR: 'it returns false'. Refute it at one input. -/
def mergeStepsWrong : ChangeSpec := { name := "mergeSteps", fn := fun _ => fun
  | [d1, d2, d3] => { results := [.lit (.bool false)], args := [d1, d2, d3] }
  | _ => none }
def MergeStepsWrongFalsely : Prop := mergeStepsRow.holds Try.pinned (OpenSpec.ofChange mergeStepsWrong)

/-- 'tidelinelaw09.MergeAbove': WHATEVER THE INPUT: true; the input reads as it did. -/
def mergeAboveSpec : ChangeSpec := { name := "mergeAbove", fn := fun _ => fun
  | [d1, d2, d3] => { results := [.lit (.bool true)], args := [d1, d2, d3] }
  | _ => none }
def mergeAboveRow : OpenClaim := { program := "ytghlellambnkeaa", sum := "23a8469c42a67eaffd5bd9f1a640705632e261baa733ea1353edd6a0bcdca565", func := "tideline/tidelinelaw09.MergeAbove", spec := "mergeAbove", unfollowed := true, recurses := true, apart := false }
def MergeAboveSaid : Prop := mergeAboveRow.holds Try.pinned (OpenSpec.ofChange mergeAboveSpec)

/-- ITS FALSE NEIGHBOUR: 'it returns false'. Refute it at one input. -/
def mergeAboveWrong : ChangeSpec := { name := "mergeAbove", fn := fun _ => fun
  | [d1, d2, d3] => { results := [.lit (.bool false)], args := [d1, d2, d3] }
  | _ => none }
def MergeAboveWrongFalsely : Prop := mergeAboveRow.holds Try.pinned (OpenSpec.ofChange mergeAboveWrong)

/-- 'tidelinelaw09.MergeNewest': WHATEVER THE INPUT: true; the input reads as it did. -/
def mergeNewestSpec : ChangeSpec := { name := "mergeNewest", fn := fun _ => fun
  | [d1, d2, d3] => { results := [.lit (.bool true)], args := [d1, d2, d3] }
  | _ => none }
def mergeNewestRow : OpenClaim := { program := "ytghlellambnkeaa", sum := "23a8469c42a67eaffd5bd9f1a640705632e261baa733ea1353edd6a0bcdca565", func := "tideline/tidelinelaw09.MergeNewest", spec := "mergeNewest", unfollowed := true, recurses := true, apart := false }
def MergeNewestSaid : Prop := mergeNewestRow.holds Try.pinned (OpenSpec.ofChange mergeNewestSpec)

/-- ITS FALSE NEIGHBOUR: 'it returns false'. Refute it at one input. -/
def mergeNewestWrong : ChangeSpec := { name := "mergeNewest", fn := fun _ => fun
  | [d1, d2, d3] => { results := [.lit (.bool false)], args := [d1, d2, d3] }
  | _ => none }
def MergeNewestWrongFalsely : Prop := mergeNewestRow.holds Try.pinned (OpenSpec.ofChange mergeNewestWrong)

/-- 'tidelinelaw09.MergeLacks': WHATEVER THE INPUT: true; the input reads as it did. -/
def mergeLacksSpec : ChangeSpec := { name := "mergeLacks", fn := fun _ => fun
  | [d1, d2] => { results := [.lit (.bool true)], args := [d1, d2] }
  | _ => none }
def mergeLacksRow : OpenClaim := { program := "ytghlellambnkeaa", sum := "23a8469c42a67eaffd5bd9f1a640705632e261baa733ea1353edd6a0bcdca565", func := "tideline/tidelinelaw09.MergeLacks", spec := "mergeLacks", unfollowed := true, recurses := true, apart := false }
def MergeLacksSaid : Prop := mergeLacksRow.holds Try.pinned (OpenSpec.ofChange mergeLacksSpec)

/-- ITS FALSE NEIGHBOUR: 'it returns false'. Refute it at one input. -/
def mergeLacksWrong : ChangeSpec := { name := "mergeLacks", fn := fun _ => fun
  | [d1, d2] => { results := [.lit (.bool false)], args := [d1, d2] }
  | _ => none }
def MergeLacksWrongFalsely : Prop := mergeLacksRow.holds Try.pinned (OpenSpec.ofChange mergeLacksWrong)

/-- 'tidelinelaw09.MergeRanges': WHATEVER THE INPUT: true; the input reads as it did. -/
def mergeRangesSpec : ChangeSpec := { name := "mergeRanges", fn := fun _ => fun
  | [d1, d2, d3] => { results := [.lit (.bool true)], args := [d1, d2, d3] }
  | _ => none }
def mergeRangesRow : OpenClaim := { program := "ytghlellambnkeaa", sum := "23a8469c42a67eaffd5bd9f1a640705632e261baa733ea1353edd6a0bcdca565", func := "tideline/tidelinelaw09.MergeRanges", spec := "mergeRanges", unfollowed := true, recurses := true, apart := false }
def MergeRangesSaid : Prop := mergeRangesRow.holds Try.pinned (OpenSpec.ofChange mergeRangesSpec)

/-- ITS FALSE NEIGHBOUR: 'it returns false'. Refute it at one input. -/
def mergeRangesWrong : ChangeSpec := { name := "mergeRanges", fn := fun _ => fun
  | [d1, d2, d3] => { results := [.lit (.bool false)], args := [d1, d2, d3] }
  | _ => none }
def MergeRangesWrongFalsely : Prop := mergeRangesRow.holds Try.pinned (OpenSpec.ofChange mergeRangesWrong)

/-- 'tidelinelaw09.MergeTells': WHATEVER THE INPUT: true; the input reads as it did. -/
def mergeTellsSpec : ChangeSpec := { name := "mergeTells", fn := fun _ => fun
  | [d1, d2] => { results := [.lit (.bool true)], args := [d1, d2] }
  | _ => none }
def mergeTellsRow : OpenClaim := { program := "ytghlellambnkeaa", sum := "23a8469c42a67eaffd5bd9f1a640705632e261baa733ea1353edd6a0bcdca565", func := "tideline/tidelinelaw09.MergeTells", spec := "mergeTells", unfollowed := true, recurses := true, apart := false }
def MergeTellsSaid : Prop := mergeTellsRow.holds Try.pinned (OpenSpec.ofChange mergeTellsSpec)

/-- ITS FALSE NEIGHBOUR: 'it returns false'. Refute it at one input. -/
def mergeTellsWrong : ChangeSpec := { name := "mergeTells", fn := fun _ => fun
  | [d1, d2] => { results := [.lit (.bool false)], args := [d1, d2] }
  | _ => none }
def MergeTellsWrongFalsely : Prop := mergeTellsRow.holds Try.pinned (OpenSpec.ofChange mergeTellsWrong)

/- THE SECOND FORM. 'bulk': how many values and letters a reading holds, each counted each time it is reached (what is shared counts as often as it is met; a slice's spare places count too). A statement '..UptoSaid' is the law's where the arguments, and the package variables that the reading takes, are together of bulk at most 1048576: NARROWER than '..Said'. Prove '..Said' where nothing that the law and all that it calls make is longer than what came in: it says more and counts as full. Else prove '..UptoSaid'. A law counts once. -/
mutual
def uptoBulk {H : Type} : DataW H → Nat
  | .lit (.string bytes) => bytes.length + 1
  | .lit _ => 1
  | .nil => 1
  | .ptr d => uptoBulk d + 1
  | .slice elems spare => uptoBulkAll elems + uptoBulkAll spare + 1
  | .agg parts => uptoBulkAll parts + 1
  | .iface _ d => uptoBulk d + 1
  | .map entries => uptoBulkEntries entries + 1
  | .held _ => 1
def uptoBulkAll {H : Type} : List (DataW H) → Nat
  | [] => 0
  | d :: r => uptoBulk d + uptoBulkAll r
def uptoBulkEntries {H : Type} : List (Lit × DataW H) → Nat
  | [] => 0
  | x :: r => uptoBulkEntry x + uptoBulkEntries r
def uptoBulkEntry {H : Type} : Lit × DataW H → Nat
  | (.string bytes, d) => bytes.length + uptoBulk d + 1
  | (_, d) => uptoBulk d + 1
 end
def uptoSmall : (H : Type) → List (DataW H) → Bool := fun _ ds => decide (uptoBulkAll ds ≤ 1048576)
def OpenSpec.upto (s : _root_.Go.ChangeSpec) : _root_.Go.OpenSpec := { _root_.Go.OpenSpec.ofChange s with cond := some uptoSmall }

/-- 'tidelinelaw09.MergeChecks', WHERE WHAT IT READS IS OF BULK AT MOST 1048576: true; the input reads as it did. -/
def mergeChecksUptoRow : OpenClaim := { program := "ytghlellambnkeaa", sum := "23a8469c42a67eaffd5bd9f1a640705632e261baa733ea1353edd6a0bcdca565", func := "tideline/tidelinelaw09.MergeChecks", spec := "mergeChecks", apart := false, narrowed := true }
def MergeChecksUptoSaid : Prop := mergeChecksUptoRow.holds Try.pinned (OpenSpec.upto mergeChecksSpec)

/-- 'tidelinelaw09.MergeIn', WHERE WHAT IT READS IS OF BULK AT MOST 1048576: true; the input reads as it did. -/
def mergeInUptoRow : OpenClaim := { program := "ytghlellambnkeaa", sum := "23a8469c42a67eaffd5bd9f1a640705632e261baa733ea1353edd6a0bcdca565", func := "tideline/tidelinelaw09.MergeIn", spec := "mergeIn", apart := false, narrowed := true }
def MergeInUptoSaid : Prop := mergeInUptoRow.holds Try.pinned (OpenSpec.upto mergeInSpec)

/-- 'tidelinelaw09.MergeBoth', WHERE WHAT IT READS IS OF BULK AT MOST 1048576: true; the input reads as it did. -/
def mergeBothUptoRow : OpenClaim := { program := "ytghlellambnkeaa", sum := "23a8469c42a67eaffd5bd9f1a640705632e261baa733ea1353edd6a0bcdca565", func := "tideline/tidelinelaw09.MergeBoth", spec := "mergeBoth", unfollowed := true, recurses := true, apart := false, narrowed := true }
def MergeBothUptoSaid : Prop := mergeBothUptoRow.holds Try.pinned (OpenSpec.upto mergeBothSpec)

/-- 'tidelinelaw09.MergeSteps', WHERE WHAT IT READS IS OF BULK AT MOST 1048576: true; the input reads as it did. -/
def mergeStepsUptoRow : OpenClaim := { program := "ytghlellambnkeaa", sum := "23a8469c42a67eaffd5bd9f1a640705632e261baa733ea1353edd6a0bcdca565", func := "tideline/tidelinelaw09.MergeSteps", spec := "mergeSteps", unfollowed := true, recurses := true, apart := false, narrowed := true }
def MergeStepsUptoSaid : Prop := mergeStepsUptoRow.holds Try.pinned (OpenSpec.upto mergeStepsSpec)

/-- 'tidelinelaw09.MergeAbove', WHERE WHAT IT READS IS OF BULK AT MOST 1048576: true; the input reads as it did. -/
def mergeAboveUptoRow : OpenClaim := { program := "ytghlellambnkeaa", sum := "23a8469c42a67eaffd5bd9f1a640705632e261baa733ea1353edd6a0bcdca565", func := "tideline/tidelinelaw09.MergeAbove", spec := "mergeAbove", unfollowed := true, recurses := true, apart := false, narrowed := true }
def MergeAboveUptoSaid : Prop := mergeAboveUptoRow.holds Try.pinned (OpenSpec.upto mergeAboveSpec)

/-- 'tidelinelaw09.MergeNewest', WHERE WHAT IT READS IS OF BULK AT MOST 1048576: true; the input reads as it did. -/
def mergeNewestUptoRow : OpenClaim := { program := "ytghlellambnkeaa", sum := "23a8469c42a67eaffd5bd9f1a640705632e261baa733ea1353edd6a0bcdca565", func := "tideline/tidelinelaw09.MergeNewest", spec := "mergeNewest", unfollowed := true, recurses := true, apart := false, narrowed := true }
def MergeNewestUptoSaid : Prop := mergeNewestUptoRow.holds Try.pinned (OpenSpec.upto mergeNewestSpec)

/-- 'tidelinelaw09.MergeLacks', WHERE WHAT IT READS IS OF BULK AT MOST 1048576: true; the input reads as it did. -/
def mergeLacksUptoRow : OpenClaim := { program := "ytghlellambnkeaa", sum := "23a8469c42a67eaffd5bd9f1a640705632e261baa733ea1353edd6a0bcdca565", func := "tideline/tidelinelaw09.MergeLacks", spec := "mergeLacks", unfollowed := true, recurses := true, apart := false, narrowed := true }
def MergeLacksUptoSaid : Prop := mergeLacksUptoRow.holds Try.pinned (OpenSpec.upto mergeLacksSpec)

/-- 'tidelinelaw09.MergeRanges', WHERE WHAT IT READS IS OF BULK AT MOST 1048576: true; the input reads as it did. -/
def mergeRangesUptoRow : OpenClaim := { program := "ytghlellambnkeaa", sum := "23a8469c42a67eaffd5bd9f1a640705632e261baa733ea1353edd6a0bcdca565", func := "tideline/tidelinelaw09.MergeRanges", spec := "mergeRanges", unfollowed := true, recurses := true, apart := false, narrowed := true }
def MergeRangesUptoSaid : Prop := mergeRangesUptoRow.holds Try.pinned (OpenSpec.upto mergeRangesSpec)

/-- 'tidelinelaw09.MergeTells', WHERE WHAT IT READS IS OF BULK AT MOST 1048576: true; the input reads as it did. -/
def mergeTellsUptoRow : OpenClaim := { program := "ytghlellambnkeaa", sum := "23a8469c42a67eaffd5bd9f1a640705632e261baa733ea1353edd6a0bcdca565", func := "tideline/tidelinelaw09.MergeTells", spec := "mergeTells", unfollowed := true, recurses := true, apart := false, narrowed := true }
def MergeTellsUptoSaid : Prop := mergeTellsUptoRow.holds Try.pinned (OpenSpec.upto mergeTellsSpec)

end Rows
end Go.Proofs.Ytghlellambnkeaa
