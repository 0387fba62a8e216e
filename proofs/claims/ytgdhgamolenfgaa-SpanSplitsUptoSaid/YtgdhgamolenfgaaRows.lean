/-
  No cell of these rows narrows 'for every input' (looked for: loops, veiled, ifaces, maps, wideKeys, modest, calm, conditions, laid).
  DERIVED. THE GIVEN ROWS OF THIS SEAT. 8 by the template 'for every input the law returns true; each argument reads behind the call as it read before'; 0 by the template 'total and deterministic' (their statements: YtgdhgamolenfgaaTotals.lean).
  GIVEN WITH THE SEED: the statements are not yours to turn. If you find one false, say at which input.
  Laid BY PROGRAM, IN A SANDBOX (cutbox-rows.mjs): the forced cells as the released guide's own fill.sh prints them over the translation e3aaf7ab1619f537… (all of the seat's roots in one cut). By AI agents, Wed Nov 11 2026. No macro, syntax, notation, axiom, sorry.
-/
import Derived.Test.YtgdhgamolenfgaaChecked
import GoSem.Claim
import GoSem.ClaimJoined
import GoSem.ClaimMapViews
import Derived.JoinedTies
import Derived.KernelRfl
namespace Go.Proofs.Ytgdhgamolenfgaa
/- THE CELL 'sum', in the pinned program and in every row, IS THE sha256 OF THE DUMP (.gsa) THAT YtgdhgamolenfgaaProg.lean LOADS. Nothing in Lean hashes anything: it is a label: what it is worth is what the hold of that sum in a sandbox is worth. -/
noncomputable def Try.pinned : Pinned := { name := "ytgdhgamolenfgaa", sum := "e3aaf7ab1619f53760e8db25f68263edb321f64d615de2f188b396159187a95e", checked := Try.checked }
namespace Rows
def none {H : Type} : Left H := { results := [], args := [] }

/-- 'tidelinelaw02.SpanChecks': WHATEVER THE INPUT: true; the input reads as it did. -/
def spanChecksSpec : ChangeSpec := { name := "spanChecks", fn := fun _ => fun
  | [d1, d2] => { results := [.lit (.bool true)], args := [d1, d2] }
  | _ => none }
def spanChecksRow : OpenClaim := { program := "ytgdhgamolenfgaa", sum := "e3aaf7ab1619f53760e8db25f68263edb321f64d615de2f188b396159187a95e", func := "tideline/tidelinelaw02.SpanChecks", spec := "spanChecks", inPlace := ["internal/bytealg.IndexByteString", "internal/bytealg.IndexString"], named := ["internal/bytealg.MaxLen"], apart := false }
def SpanChecksSaid : Prop := spanChecksRow.holds Try.pinned (OpenSpec.ofChange spanChecksSpec)

/-- ITS FALSE NEIGHBOUR: 'it returns false'. Refute it at one input. -/
def spanChecksWrong : ChangeSpec := { name := "spanChecks", fn := fun _ => fun
  | [d1, d2] => { results := [.lit (.bool false)], args := [d1, d2] }
  | _ => none }
def SpanChecksWrongFalsely : Prop := spanChecksRow.holds Try.pinned (OpenSpec.ofChange spanChecksWrong)

/-- 'tidelinelaw02.SpanSplits': WHATEVER THE INPUT: true; the input reads as it did. -/
def spanSplitsSpec : ChangeSpec := { name := "spanSplits", fn := fun _ => fun
  | [d1, d2] => { results := [.lit (.bool true)], args := [d1, d2] }
  | _ => none }
def spanSplitsRow : OpenClaim := { program := "ytgdhgamolenfgaa", sum := "e3aaf7ab1619f53760e8db25f68263edb321f64d615de2f188b396159187a95e", func := "tideline/tidelinelaw02.SpanSplits", spec := "spanSplits", inPlace := ["internal/bytealg.IndexByteString", "internal/bytealg.IndexString"], named := ["internal/bytealg.MaxLen"], apart := false }
def SpanSplitsSaid : Prop := spanSplitsRow.holds Try.pinned (OpenSpec.ofChange spanSplitsSpec)

/-- ITS FALSE NEIGHBOUR: 'it returns false'. Refute it at one input. -/
def spanSplitsWrong : ChangeSpec := { name := "spanSplits", fn := fun _ => fun
  | [d1, d2] => { results := [.lit (.bool false)], args := [d1, d2] }
  | _ => none }
def SpanSplitsWrongFalsely : Prop := spanSplitsRow.holds Try.pinned (OpenSpec.ofChange spanSplitsWrong)

/-- 'tidelinelaw02.SpanTexts': WHATEVER THE INPUT: true; the input reads as it did. -/
def spanTextsSpec : ChangeSpec := { name := "spanTexts", fn := fun _ => fun
  | [d] => { results := [.lit (.bool true)], args := [d] }
  | _ => none }
def spanTextsRow : OpenClaim := { program := "ytgdhgamolenfgaa", sum := "e3aaf7ab1619f53760e8db25f68263edb321f64d615de2f188b396159187a95e", func := "tideline/tidelinelaw02.SpanTexts", spec := "spanTexts", inPlace := ["internal/bytealg.IndexByteString", "internal/bytealg.IndexString"], named := ["internal/bytealg.MaxLen"], apart := false }
def SpanTextsSaid : Prop := spanTextsRow.holds Try.pinned (OpenSpec.ofChange spanTextsSpec)

/-- ITS FALSE NEIGHBOUR: 'it returns false'. Refute it at one input. -/
def spanTextsWrong : ChangeSpec := { name := "spanTexts", fn := fun _ => fun
  | [d] => { results := [.lit (.bool false)], args := [d] }
  | _ => none }
def SpanTextsWrongFalsely : Prop := spanTextsRow.holds Try.pinned (OpenSpec.ofChange spanTextsWrong)

/-- 'tidelinelaw02.SpanParses': WHATEVER THE INPUT: true; the input reads as it did. -/
def spanParsesSpec : ChangeSpec := { name := "spanParses", fn := fun _ => fun
  | [d] => { results := [.lit (.bool true)], args := [d] }
  | _ => none }
def spanParsesRow : OpenClaim := { program := "ytgdhgamolenfgaa", sum := "e3aaf7ab1619f53760e8db25f68263edb321f64d615de2f188b396159187a95e", func := "tideline/tidelinelaw02.SpanParses", spec := "spanParses", inPlace := ["internal/bytealg.IndexByteString", "internal/bytealg.IndexString"], named := ["internal/bytealg.MaxLen"], apart := false }
def SpanParsesSaid : Prop := spanParsesRow.holds Try.pinned (OpenSpec.ofChange spanParsesSpec)

/-- ITS FALSE NEIGHBOUR: 'it returns false'. Refute it at one input. -/
def spanParsesWrong : ChangeSpec := { name := "spanParses", fn := fun _ => fun
  | [d] => { results := [.lit (.bool false)], args := [d] }
  | _ => none }
def SpanParsesWrongFalsely : Prop := spanParsesRow.holds Try.pinned (OpenSpec.ofChange spanParsesWrong)

/-- 'tidelinelaw02.SpanPairs': WHATEVER THE INPUT: true; the input reads as it did. -/
def spanPairsSpec : ChangeSpec := { name := "spanPairs", fn := fun _ => fun
  | [d1, d2] => { results := [.lit (.bool true)], args := [d1, d2] }
  | _ => none }
def spanPairsRow : OpenClaim := { program := "ytgdhgamolenfgaa", sum := "e3aaf7ab1619f53760e8db25f68263edb321f64d615de2f188b396159187a95e", func := "tideline/tidelinelaw02.SpanPairs", spec := "spanPairs", inPlace := ["internal/bytealg.IndexByteString", "internal/bytealg.IndexString"], named := ["internal/bytealg.MaxLen"], apart := false }
def SpanPairsSaid : Prop := spanPairsRow.holds Try.pinned (OpenSpec.ofChange spanPairsSpec)

/-- ITS FALSE NEIGHBOUR: 'it returns false'. Refute it at one input. -/
def spanPairsWrong : ChangeSpec := { name := "spanPairs", fn := fun _ => fun
  | [d1, d2] => { results := [.lit (.bool false)], args := [d1, d2] }
  | _ => none }
def SpanPairsWrongFalsely : Prop := spanPairsRow.holds Try.pinned (OpenSpec.ofChange spanPairsWrong)

/-- 'tidelinelaw02.SpanKeys': WHATEVER THE INPUT: true; the input reads as it did. -/
def spanKeysSpec : ChangeSpec := { name := "spanKeys", fn := fun _ => fun
  | [d1, d2, d3] => { results := [.lit (.bool true)], args := [d1, d2, d3] }
  | _ => none }
def spanKeysRow : OpenClaim := { program := "ytgdhgamolenfgaa", sum := "e3aaf7ab1619f53760e8db25f68263edb321f64d615de2f188b396159187a95e", func := "tideline/tidelinelaw02.SpanKeys", spec := "spanKeys", inPlace := ["internal/bytealg.IndexByteString", "internal/bytealg.IndexString"], named := ["internal/bytealg.MaxLen"], apart := false }
def SpanKeysSaid : Prop := spanKeysRow.holds Try.pinned (OpenSpec.ofChange spanKeysSpec)

/-- ITS FALSE NEIGHBOUR: 'it returns false'. Refute it at one input. -/
def spanKeysWrong : ChangeSpec := { name := "spanKeys", fn := fun _ => fun
  | [d1, d2, d3] => { results := [.lit (.bool false)], args := [d1, d2, d3] }
  | _ => none }
def SpanKeysWrongFalsely : Prop := spanKeysRow.holds Try.pinned (OpenSpec.ofChange spanKeysWrong)

/-- 'tidelinelaw02.SpanMeets': WHATEVER THE INPUT: true; the input reads as it did. -/
def spanMeetsSpec : ChangeSpec := { name := "spanMeets", fn := fun _ => fun
  | [d1, d2, d3] => { results := [.lit (.bool true)], args := [d1, d2, d3] }
  | _ => none }
def spanMeetsRow : OpenClaim := { program := "ytgdhgamolenfgaa", sum := "e3aaf7ab1619f53760e8db25f68263edb321f64d615de2f188b396159187a95e", func := "tideline/tidelinelaw02.SpanMeets", spec := "spanMeets", inPlace := ["internal/bytealg.IndexByteString", "internal/bytealg.IndexString"], named := ["internal/bytealg.MaxLen"], apart := false }
def SpanMeetsSaid : Prop := spanMeetsRow.holds Try.pinned (OpenSpec.ofChange spanMeetsSpec)

/-- ITS FALSE NEIGHBOUR: 'it returns false'. Refute it at one input. -/
def spanMeetsWrong : ChangeSpec := { name := "spanMeets", fn := fun _ => fun
  | [d1, d2, d3] => { results := [.lit (.bool false)], args := [d1, d2, d3] }
  | _ => none }
def SpanMeetsWrongFalsely : Prop := spanMeetsRow.holds Try.pinned (OpenSpec.ofChange spanMeetsWrong)

/-- 'tidelinelaw02.SpanTiles': WHATEVER THE INPUT: true; the input reads as it did. -/
def spanTilesSpec : ChangeSpec := { name := "spanTiles", fn := fun _ => fun
  | [d1, d2] => { results := [.lit (.bool true)], args := [d1, d2] }
  | _ => none }
def spanTilesRow : OpenClaim := { program := "ytgdhgamolenfgaa", sum := "e3aaf7ab1619f53760e8db25f68263edb321f64d615de2f188b396159187a95e", func := "tideline/tidelinelaw02.SpanTiles", spec := "spanTiles", inPlace := ["internal/bytealg.IndexByteString", "internal/bytealg.IndexString"], unfollowed := true, recurses := true, named := ["internal/bytealg.MaxLen"], apart := false }
def SpanTilesSaid : Prop := spanTilesRow.holds Try.pinned (OpenSpec.ofChange spanTilesSpec)

/-- ITS FALSE NEIGHBOUR: 'it returns false'. Refute it at one input. -/
def spanTilesWrong : ChangeSpec := { name := "spanTiles", fn := fun _ => fun
  | [d1, d2] => { results := [.lit (.bool false)], args := [d1, d2] }
  | _ => none }
def SpanTilesWrongFalsely : Prop := spanTilesRow.holds Try.pinned (OpenSpec.ofChange spanTilesWrong)

/- THE SECOND FORM. 'bulk': how many values and letters a reading holds, each counted each time it is reached (what is shared counts as often as it is met; a slice's spare places count too). A statement '..UptoSaid' is the law's where the arguments, and the package variables that the reading takes, are together of bulk at most 1048576: NARROWER than '..Said'. Prove '..Said' where nothing that the law and all that it calls make is longer than what came in: it says more and counts as full. Else prove '..UptoSaid'. A law counts once. -/
mutual
def uptoBulk {H : Type} : DataW H → Nat
  | .lit (.string bytes) => bytes.length + 1
  | .lit _ => 1
  | .nil => 1
  | .ptr d => uptoBulk d + 1
  | .slice elems spare => uptoBulkAll elems + uptoBulkAll spare + 1
  | .agg parts => uptoBulkAll parts + 1
  | .iface _ d => uptoBulk d + 1
  | .map entries => uptoBulkEntries entries + 1
  | .held _ => 1
def uptoBulkAll {H : Type} : List (DataW H) → Nat
  | [] => 0
  | d :: r => uptoBulk d + uptoBulkAll r
def uptoBulkEntries {H : Type} : List (Lit × DataW H) → Nat
  | [] => 0
  | x :: r => uptoBulkEntry x + uptoBulkEntries r
def uptoBulkEntry {H : Type} : Lit × DataW H → Nat
  | (.string bytes, d) => bytes.length + uptoBulk d + 1
  | (_, d) => uptoBulk d + 1
 end
def uptoSmall : (H : Type) → List (DataW H) → Bool := fun _ ds => decide (uptoBulkAll ds ≤ 1048576)
def OpenSpec.upto (s : _root_.Go.ChangeSpec) : _root_.Go.OpenSpec := { _root_.Go.OpenSpec.ofChange s with cond := some uptoSmall }

/-- 'tidelinelaw02.SpanChecks', WHERE WHAT IT READS IS OF BULK AT MOST 1048576: true; the input reads as it did. -/
def spanChecksUptoRow : OpenClaim := { program := "ytgdhgamolenfgaa", sum := "e3aaf7ab1619f53760e8db25f68263edb321f64d615de2f188b396159187a95e", func := "tideline/tidelinelaw02.SpanChecks", spec := "spanChecks", inPlace := ["internal/bytealg.IndexByteString", "internal/bytealg.IndexString"], named := ["internal/bytealg.MaxLen"], apart := false, narrowed := true }
def SpanChecksUptoSaid : Prop := spanChecksUptoRow.holds Try.pinned (OpenSpec.upto spanChecksSpec)

/-- 'tidelinelaw02.SpanSplits', WHERE WHAT IT READS IS OF BULK AT MOST 1048576: true; the input reads as it did. -/
def spanSplitsUptoRow : OpenClaim := { program := "ytgdhgamolenfgaa", sum := "e3aaf7ab1619f53760e8db25f68263edb321f64d615de2f188b396159187a95e", func := "tideline/tidelinelaw02.SpanSplits", spec := "spanSplits", inPlace := ["internal/bytealg.IndexByteString", "internal/bytealg.IndexString"], named := ["internal/bytealg.MaxLen"], apart := false, narrowed := true }
def SpanSplitsUptoSaid : Prop := spanSplitsUptoRow.holds Try.pinned (OpenSpec.upto spanSplitsSpec)

/-- 'tidelinelaw02.SpanTexts', WHERE WHAT IT READS IS OF BULK AT MOST 1048576: true; the input reads as it did. -/
def spanTextsUptoRow : OpenClaim := { program := "ytgdhgamolenfgaa", sum := "e3aaf7ab1619f53760e8db25f68263edb321f64d615de2f188b396159187a95e", func := "tideline/tidelinelaw02.SpanTexts", spec := "spanTexts", inPlace := ["internal/bytealg.IndexByteString", "internal/bytealg.IndexString"], named := ["internal/bytealg.MaxLen"], apart := false, narrowed := true }
def SpanTextsUptoSaid : Prop := spanTextsUptoRow.holds Try.pinned (OpenSpec.upto spanTextsSpec)

/-- 'tidelinelaw02.SpanParses', WHERE WHAT IT READS IS OF BULK AT MOST 1048576: true; the input reads as it did. -/
def spanParsesUptoRow : OpenClaim := { program := "ytgdhgamolenfgaa", sum := "e3aaf7ab1619f53760e8db25f68263edb321f64d615de2f188b396159187a95e", func := "tideline/tidelinelaw02.SpanParses", spec := "spanParses", inPlace := ["internal/bytealg.IndexByteString", "internal/bytealg.IndexString"], named := ["internal/bytealg.MaxLen"], apart := false, narrowed := true }
def SpanParsesUptoSaid : Prop := spanParsesUptoRow.holds Try.pinned (OpenSpec.upto spanParsesSpec)

/-- 'tidelinelaw02.SpanPairs', WHERE WHAT IT READS IS OF BULK AT MOST 1048576: true; the input reads as it did. -/
def spanPairsUptoRow : OpenClaim := { program := "ytgdhgamolenfgaa", sum := "e3aaf7ab1619f53760e8db25f68263edb321f64d615de2f188b396159187a95e", func := "tideline/tidelinelaw02.SpanPairs", spec := "spanPairs", inPlace := ["internal/bytealg.IndexByteString", "internal/bytealg.IndexString"], named := ["internal/bytealg.MaxLen"], apart := false, narrowed := true }
def SpanPairsUptoSaid : Prop := spanPairsUptoRow.holds Try.pinned (OpenSpec.upto spanPairsSpec)

/-- 'tidelinelaw02.SpanKeys', WHERE WHAT IT READS IS OF BULK AT MOST 1048576: true; the input reads as it did. -/
def spanKeysUptoRow : OpenClaim := { program := "ytgdhgamolenfgaa", sum := "e3aaf7ab1619f53760e8db25f68263edb321f64d615de2f188b396159187a95e", func := "tideline/tidelinelaw02.SpanKeys", spec := "spanKeys", inPlace := ["internal/bytealg.IndexByteString", "internal/bytealg.IndexString"], named := ["internal/bytealg.MaxLen"], apart := false, narrowed := true }
def SpanKeysUptoSaid : Prop := spanKeysUptoRow.holds Try.pinned (OpenSpec.upto spanKeysSpec)

/-- 'tidelinelaw02.SpanMeets', WHERE WHAT IT READS IS OF BULK AT MOST 1048576: true; the input reads as it did. -/
def spanMeetsUptoRow : OpenClaim := { program := "ytgdhgamolenfgaa", sum := "e3aaf7ab1619f53760e8db25f68263edb321f64d615de2f188b396159187a95e", func := "tideline/tidelinelaw02.SpanMeets", spec := "spanMeets", inPlace := ["internal/bytealg.IndexByteString", "internal/bytealg.IndexString"], named := ["internal/bytealg.MaxLen"], apart := false, narrowed := true }
def SpanMeetsUptoSaid : Prop := spanMeetsUptoRow.holds Try.pinned (OpenSpec.upto spanMeetsSpec)

/-- 'tidelinelaw02.SpanTiles', WHERE WHAT IT READS IS OF BULK AT MOST 1048576: true; the input reads as it did. -/
def spanTilesUptoRow : OpenClaim := { program := "ytgdhgamolenfgaa", sum := "e3aaf7ab1619f53760e8db25f68263edb321f64d615de2f188b396159187a95e", func := "tideline/tidelinelaw02.SpanTiles", spec := "spanTiles", inPlace := ["internal/bytealg.IndexByteString", "internal/bytealg.IndexString"], unfollowed := true, recurses := true, named := ["internal/bytealg.MaxLen"], apart := false, narrowed := true }
def SpanTilesUptoSaid : Prop := spanTilesUptoRow.holds Try.pinned (OpenSpec.upto spanTilesSpec)

end Rows
end Go.Proofs.Ytgdhgamolenfgaa
