/-
  No cell of these rows narrows 'for every input' (looked for: loops, veiled, ifaces, maps, wideKeys, modest, calm, conditions, laid).
  DERIVED. THE GIVEN ROWS OF THIS SEAT. 7 by the template 'for every input the law returns true; each argument reads behind the call as it read before'; 0 by the template 'total and deterministic' (their statements: YtcfiobhebakhlaaTotals.lean).
  GIVEN WITH THE SEED: the statements are not yours to turn. If you find one false, say at which input.
  Laid BY PROGRAM, IN A SANDBOX (cutbox-rows.mjs): the forced cells as the released guide's own fill.sh prints them over the translation 40a783e994753612… (all of the seat's roots in one cut). By AI agents, Wed Nov 11 2026. No macro, syntax, notation, axiom, sorry.
-/
import Derived.Test.YtcfiobhebakhlaaChecked
import GoSem.Claim
import GoSem.ClaimJoined
import GoSem.ClaimMapViews
import Derived.JoinedTies
import Derived.KernelRfl
namespace Go.Proofs.Ytcfiobhebakhlaa
/- THE CELL 'sum', in the pinned program and in every row, IS THE sha256 OF THE DUMP (.gsa) THAT YtcfiobhebakhlaaProg.lean LOADS. Nothing in Lean hashes anything: it is a label: what it is worth is what the hold of that sum in a sandbox is worth. -/
noncomputable def Try.pinned : Pinned := { name := "ytcfiobhebakhlaa", sum := "40a783e994753612b1b97bf81410dee3f634cfa57bf881dc9e713e2d926e721d", checked := Try.checked }
namespace Rows
def none {H : Type} : Left H := { results := [], args := [] }

/-- 'tidelinelaw07.CutsStarts': WHATEVER THE INPUT: true; the input reads as it did. -/
def cutsStartsSpec : ChangeSpec := { name := "cutsStarts", fn := fun _ => fun
  | [d1, d2] => { results := [.lit (.bool true)], args := [d1, d2] }
  | _ => none }
def cutsStartsRow : OpenClaim := { program := "ytcfiobhebakhlaa", sum := "40a783e994753612b1b97bf81410dee3f634cfa57bf881dc9e713e2d926e721d", func := "tideline/tidelinelaw07.CutsStarts", spec := "cutsStarts", apart := false }
def CutsStartsSaid : Prop := cutsStartsRow.holds Try.pinned (OpenSpec.ofChange cutsStartsSpec)

/-- ITS FALSE NEIGHBOUR: 'it returns false'. Refute it at one input. -/
def cutsStartsWrong : ChangeSpec := { name := "cutsStarts", fn := fun _ => fun
  | [d1, d2] => { results := [.lit (.bool false)], args := [d1, d2] }
  | _ => none }
def CutsStartsWrongFalsely : Prop := cutsStartsRow.holds Try.pinned (OpenSpec.ofChange cutsStartsWrong)

/-- 'tidelinelaw07.CutsBounds': WHATEVER THE INPUT: true; the input reads as it did. -/
def cutsBoundsSpec : ChangeSpec := { name := "cutsBounds", fn := fun _ => fun
  | [d1, d2, d3] => { results := [.lit (.bool true)], args := [d1, d2, d3] }
  | _ => none }
def cutsBoundsRow : OpenClaim := { program := "ytcfiobhebakhlaa", sum := "40a783e994753612b1b97bf81410dee3f634cfa57bf881dc9e713e2d926e721d", func := "tideline/tidelinelaw07.CutsBounds", spec := "cutsBounds", apart := false }
def CutsBoundsSaid : Prop := cutsBoundsRow.holds Try.pinned (OpenSpec.ofChange cutsBoundsSpec)

/-- ITS FALSE NEIGHBOUR: 'it returns false'. Refute it at one input. -/
def cutsBoundsWrong : ChangeSpec := { name := "cutsBounds", fn := fun _ => fun
  | [d1, d2, d3] => { results := [.lit (.bool false)], args := [d1, d2, d3] }
  | _ => none }
def CutsBoundsWrongFalsely : Prop := cutsBoundsRow.holds Try.pinned (OpenSpec.ofChange cutsBoundsWrong)

/-- 'tidelinelaw07.CutsLeast': WHATEVER THE INPUT: true; the input reads as it did. -/
def cutsLeastSpec : ChangeSpec := { name := "cutsLeast", fn := fun _ => fun
  | [d1, d2, d3] => { results := [.lit (.bool true)], args := [d1, d2, d3] }
  | _ => none }
def cutsLeastRow : OpenClaim := { program := "ytcfiobhebakhlaa", sum := "40a783e994753612b1b97bf81410dee3f634cfa57bf881dc9e713e2d926e721d", func := "tideline/tidelinelaw07.CutsLeast", spec := "cutsLeast", apart := false }
def CutsLeastSaid : Prop := cutsLeastRow.holds Try.pinned (OpenSpec.ofChange cutsLeastSpec)

/-- ITS FALSE NEIGHBOUR: 'it returns false'. Refute it at one input. -/
def cutsLeastWrong : ChangeSpec := { name := "cutsLeast", fn := fun _ => fun
  | [d1, d2, d3] => { results := [.lit (.bool false)], args := [d1, d2, d3] }
  | _ => none }
def CutsLeastWrongFalsely : Prop := cutsLeastRow.holds Try.pinned (OpenSpec.ofChange cutsLeastWrong)

/-- 'tidelinelaw07.CutsBorders': WHATEVER THE INPUT: true; the input reads as it did. -/
def cutsBordersSpec : ChangeSpec := { name := "cutsBorders", fn := fun _ => fun
  | [d1, d2] => { results := [.lit (.bool true)], args := [d1, d2] }
  | _ => none }
def cutsBordersRow : OpenClaim := { program := "ytcfiobhebakhlaa", sum := "40a783e994753612b1b97bf81410dee3f634cfa57bf881dc9e713e2d926e721d", func := "tideline/tidelinelaw07.CutsBorders", spec := "cutsBorders", apart := false }
def CutsBordersSaid : Prop := cutsBordersRow.holds Try.pinned (OpenSpec.ofChange cutsBordersSpec)

/-- ITS FALSE NEIGHBOUR: 'it returns false'. Refute it at one input. -/
def cutsBordersWrong : ChangeSpec := { name := "cutsBorders", fn := fun _ => fun
  | [d1, d2] => { results := [.lit (.bool false)], args := [d1, d2] }
  | _ => none }
def CutsBordersWrongFalsely : Prop := cutsBordersRow.holds Try.pinned (OpenSpec.ofChange cutsBordersWrong)

/-- 'tidelinelaw07.CutsRanges': WHATEVER THE INPUT: true; the input reads as it did. -/
def cutsRangesSpec : ChangeSpec := { name := "cutsRanges", fn := fun _ => fun
  | [d1, d2, d3] => { results := [.lit (.bool true)], args := [d1, d2, d3] }
  | _ => none }
def cutsRangesRow : OpenClaim := { program := "ytcfiobhebakhlaa", sum := "40a783e994753612b1b97bf81410dee3f634cfa57bf881dc9e713e2d926e721d", func := "tideline/tidelinelaw07.CutsRanges", spec := "cutsRanges", apart := false }
def CutsRangesSaid : Prop := cutsRangesRow.holds Try.pinned (OpenSpec.ofChange cutsRangesSpec)

/-- ITS FALSE NEIGHBOUR: 'it returns false'. Refute it at one input. -/
def cutsRangesWrong : ChangeSpec := { name := "cutsRanges", fn := fun _ => fun
  | [d1, d2, d3] => { results := [.lit (.bool false)], args := [d1, d2, d3] }
  | _ => none }
def CutsRangesWrongFalsely : Prop := cutsRangesRow.holds Try.pinned (OpenSpec.ofChange cutsRangesWrong)

/-- 'tidelinelaw07.CutsDeep': WHATEVER THE INPUT: true; the input reads as it did. -/
def cutsDeepSpec : ChangeSpec := { name := "cutsDeep", fn := fun _ => fun
  | [d1, d2, d3] => { results := [.lit (.bool true)], args := [d1, d2, d3] }
  | _ => none }
def cutsDeepRow : OpenClaim := { program := "ytcfiobhebakhlaa", sum := "40a783e994753612b1b97bf81410dee3f634cfa57bf881dc9e713e2d926e721d", func := "tideline/tidelinelaw07.CutsDeep", spec := "cutsDeep", unfollowed := true, recurses := true, apart := false }
def CutsDeepSaid : Prop := cutsDeepRow.holds Try.pinned (OpenSpec.ofChange cutsDeepSpec)

/-- ITS FALSE NEIGHBOUR: 'it returns false'. Refute it at one input. -/
def cutsDeepWrong : ChangeSpec := { name := "cutsDeep", fn := fun _ => fun
  | [d1, d2, d3] => { results := [.lit (.bool false)], args := [d1, d2, d3] }
  | _ => none }
def CutsDeepWrongFalsely : Prop := cutsDeepRow.holds Try.pinned (OpenSpec.ofChange cutsDeepWrong)

/-- 'tidelinelaw07.CutsTile': WHATEVER THE INPUT: true; the input reads as it did. -/
def cutsTileSpec : ChangeSpec := { name := "cutsTile", fn := fun _ => fun
  | [d1, d2, d3] => { results := [.lit (.bool true)], args := [d1, d2, d3] }
  | _ => none }
def cutsTileRow : OpenClaim := { program := "ytcfiobhebakhlaa", sum := "40a783e994753612b1b97bf81410dee3f634cfa57bf881dc9e713e2d926e721d", func := "tideline/tidelinelaw07.CutsTile", spec := "cutsTile", unfollowed := true, recurses := true, apart := false }
def CutsTileSaid : Prop := cutsTileRow.holds Try.pinned (OpenSpec.ofChange cutsTileSpec)

/-- ITS FALSE NEIGHBOUR: 'it returns false'. Refute it at one input. -/
def cutsTileWrong : ChangeSpec := { name := "cutsTile", fn := fun _ => fun
  | [d1, d2, d3] => { results := [.lit (.bool false)], args := [d1, d2, d3] }
  | _ => none }
def CutsTileWrongFalsely : Prop := cutsTileRow.holds Try.pinned (OpenSpec.ofChange cutsTileWrong)

/- THE SECOND FORM. 'bulk': how many values and letters a reading holds, each counted each time it is reached (what is shared counts as often as it is met; a slice's spare places count too). A statement '..UptoSaid' is the law's where the arguments, and the package variables that the reading takes, are together of bulk at most 1048576: NARROWER than '..Said'. Prove '..Said' where nothing that the law and all that it calls make is longer than what came in: it says more and counts as full. Else prove '..UptoSaid'. A law counts once. -/
mutual
def uptoBulk {H : Type} : DataW H → Nat
  | .lit (.string bytes) => bytes.length + 1
  | .lit _ => 1
  | .nil => 1
  | .ptr d => uptoBulk d + 1
  | .slice elems spare => uptoBulkAll elems + uptoBulkAll spare + 1
  | .agg parts => uptoBulkAll parts + 1
  | .iface _ d => uptoBulk d + 1
  | .map entries => uptoBulkEntries entries + 1
  | .held _ => 1
def uptoBulkAll {H : Type} : List (DataW H) → Nat
  | [] => 0
  | d :: r => uptoBulk d + uptoBulkAll r
def uptoBulkEntries {H : Type} : List (Lit × DataW H) → Nat
  | [] => 0
  | x :: r => uptoBulkEntry x + uptoBulkEntries r
def uptoBulkEntry {H : Type} : Lit × DataW H → Nat
  | (.string bytes, d) => bytes.length + uptoBulk d + 1
  | (_, d) => uptoBulk d + 1
 end
def uptoSmall : (H : Type) → List (DataW H) → Bool := fun _ ds => decide (uptoBulkAll ds ≤ 1048576)
def OpenSpec.upto (s : _root_.Go.ChangeSpec) : _root_.Go.OpenSpec := { _root_.Go.OpenSpec.ofChange s with cond := some uptoSmall }

/-- 'tidelinelaw07.CutsStarts', WHERE WHAT IT READS IS OF BULK AT MOST 1048576: true; the input reads as it did. -/
def cutsStartsUptoRow : OpenClaim := { program := "ytcfiobhebakhlaa", sum := "40a783e994753612b1b97bf81410dee3f634cfa57bf881dc9e713e2d926e721d", func := "tideline/tidelinelaw07.CutsStarts", spec := "cutsStarts", apart := false, narrowed := true }
def CutsStartsUptoSaid : Prop := cutsStartsUptoRow.holds Try.pinned (OpenSpec.upto cutsStartsSpec)

/-- 'tidelinelaw07.CutsBounds', WHERE WHAT IT READS IS OF BULK AT MOST 1048576: true; the input reads as it did. -/
def cutsBoundsUptoRow : OpenClaim := { program := "ytcfiobhebakhlaa", sum := "40a783e994753612b1b97bf81410dee3f634cfa57bf881dc9e713e2d926e721d", func := "tideline/tidelinelaw07.CutsBounds", spec := "cutsBounds", apart := false, narrowed := true }
def CutsBoundsUptoSaid : Prop := cutsBoundsUptoRow.holds Try.pinned (OpenSpec.upto cutsBoundsSpec)

/-- 'tidelinelaw07.CutsLeast', WHERE WHAT IT READS IS OF BULK AT MOST 1048576: true; the input reads as it did. -/
def cutsLeastUptoRow : OpenClaim := { program := "ytcfiobhebakhlaa", sum := "40a783e994753612b1b97bf81410dee3f634cfa57bf881dc9e713e2d926e721d", func := "tideline/tidelinelaw07.CutsLeast", spec := "cutsLeast", apart := false, narrowed := true }
def CutsLeastUptoSaid : Prop := cutsLeastUptoRow.holds Try.pinned (OpenSpec.upto cutsLeastSpec)

/-- 'tidelinelaw07.CutsBorders', WHERE WHAT IT READS IS OF BULK AT MOST 1048576: true; the input reads as it did. -/
def cutsBordersUptoRow : OpenClaim := { program := "ytcfiobhebakhlaa", sum := "40a783e994753612b1b97bf81410dee3f634cfa57bf881dc9e713e2d926e721d", func := "tideline/tidelinelaw07.CutsBorders", spec := "cutsBorders", apart := false, narrowed := true }
def CutsBordersUptoSaid : Prop := cutsBordersUptoRow.holds Try.pinned (OpenSpec.upto cutsBordersSpec)

/-- 'tidelinelaw07.CutsRanges', WHERE WHAT IT READS IS OF BULK AT MOST 1048576: true; the input reads as it did. -/
def cutsRangesUptoRow : OpenClaim := { program := "ytcfiobhebakhlaa", sum := "40a783e994753612b1b97bf81410dee3f634cfa57bf881dc9e713e2d926e721d", func := "tideline/tidelinelaw07.CutsRanges", spec := "cutsRanges", apart := false, narrowed := true }
def CutsRangesUptoSaid : Prop := cutsRangesUptoRow.holds Try.pinned (OpenSpec.upto cutsRangesSpec)

/-- 'tidelinelaw07.CutsDeep', WHERE WHAT IT READS IS OF BULK AT MOST 1048576: true; the input reads as it did. -/
def cutsDeepUptoRow : OpenClaim := { program := "ytcfiobhebakhlaa", sum := "40a783e994753612b1b97bf81410dee3f634cfa57bf881dc9e713e2d926e721d", func := "tideline/tidelinelaw07.CutsDeep", spec := "cutsDeep", unfollowed := true, recurses := true, apart := false, narrowed := true }
def CutsDeepUptoSaid : Prop := cutsDeepUptoRow.holds Try.pinned (OpenSpec.upto cutsDeepSpec)

/-- 'tidelinelaw07.CutsTile', WHERE WHAT IT READS IS OF BULK AT MOST 1048576: true; the input reads as it did. -/
def cutsTileUptoRow : OpenClaim := { program := "ytcfiobhebakhlaa", sum := "40a783e994753612b1b97bf81410dee3f634cfa57bf881dc9e713e2d926e721d", func := "tideline/tidelinelaw07.CutsTile", spec := "cutsTile", unfollowed := true, recurses := true, apart := false, narrowed := true }
def CutsTileUptoSaid : Prop := cutsTileUptoRow.holds Try.pinned (OpenSpec.upto cutsTileSpec)

end Rows
end Go.Proofs.Ytcfiobhebakhlaa
