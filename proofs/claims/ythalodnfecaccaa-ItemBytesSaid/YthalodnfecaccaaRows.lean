/-
  No cell of these rows narrows 'for every input' (looked for: loops, veiled, ifaces, maps, wideKeys, modest, calm, conditions, laid).
  DERIVED. THE GIVEN ROWS OF THIS SEAT. 8 by the template 'for every input the law returns true; each argument reads behind the call as it read before'; 0 by the template 'total and deterministic' (their statements: YthalodnfecaccaaTotals.lean).
  GIVEN WITH THE SEED: the statements are not yours to turn. If you find one false, say at which input.
  Laid BY PROGRAM, IN A SANDBOX (cutbox-rows.mjs): the forced cells as the released guide's own fill.sh prints them over the translation 753516b563086c74… (all of the seat's roots in one cut). By AI agents, Wed Nov 11 2026. No macro, syntax, notation, axiom, sorry.
-/
import Derived.Test.YthalodnfecaccaaChecked
import GoSem.Claim
import GoSem.ClaimJoined
import GoSem.ClaimMapViews
import Derived.JoinedTies
import Derived.KernelRfl
namespace Go.Proofs.Ythalodnfecaccaa
/- THE CELL 'sum', in the pinned program and in every row, IS THE sha256 OF THE DUMP (.gsa) THAT YthalodnfecaccaaProg.lean LOADS. Nothing in Lean hashes anything: it is a label: what it is worth is what the hold of that sum in a sandbox is worth. -/
noncomputable def Try.pinned : Pinned := { name := "ythalodnfecaccaa", sum := "753516b563086c7469f723771646f98a7a11d3f97020317452d608b5913e1d63", checked := Try.checked }
namespace Rows
def none {H : Type} : Left H := { results := [], args := [] }

/-- 'tidelinelaw03.ItemChecks': WHATEVER THE INPUT: true; the input reads as it did. -/
def itemChecksSpec : ChangeSpec := { name := "itemChecks", fn := fun _ => fun
  | [d] => { results := [.lit (.bool true)], args := [d] }
  | _ => none }
def itemChecksRow : OpenClaim := { program := "ythalodnfecaccaa", sum := "753516b563086c7469f723771646f98a7a11d3f97020317452d608b5913e1d63", func := "tideline/tidelinelaw03.ItemChecks", spec := "itemChecks", apart := false }
def ItemChecksSaid : Prop := itemChecksRow.holds Try.pinned (OpenSpec.ofChange itemChecksSpec)

/-- ITS FALSE NEIGHBOUR: 'it returns false'. Refute it at one input. -/
def itemChecksWrong : ChangeSpec := { name := "itemChecks", fn := fun _ => fun
  | [d] => { results := [.lit (.bool false)], args := [d] }
  | _ => none }
def ItemChecksWrongFalsely : Prop := itemChecksRow.holds Try.pinned (OpenSpec.ofChange itemChecksWrong)

/-- 'tidelinelaw03.ItemOrder': WHATEVER THE INPUT: true; the input reads as it did. -/
def itemOrderSpec : ChangeSpec := { name := "itemOrder", fn := fun _ => fun
  | [d1, d2, d3] => { results := [.lit (.bool true)], args := [d1, d2, d3] }
  | _ => none }
def itemOrderRow : OpenClaim := { program := "ythalodnfecaccaa", sum := "753516b563086c7469f723771646f98a7a11d3f97020317452d608b5913e1d63", func := "tideline/tidelinelaw03.ItemOrder", spec := "itemOrder", apart := false }
def ItemOrderSaid : Prop := itemOrderRow.holds Try.pinned (OpenSpec.ofChange itemOrderSpec)

/-- ITS FALSE NEIGHBOUR: 'it returns false'. Refute it at one input. -/
def itemOrderWrong : ChangeSpec := { name := "itemOrder", fn := fun _ => fun
  | [d1, d2, d3] => { results := [.lit (.bool false)], args := [d1, d2, d3] }
  | _ => none }
def ItemOrderWrongFalsely : Prop := itemOrderRow.holds Try.pinned (OpenSpec.ofChange itemOrderWrong)

/-- 'tidelinelaw03.ItemBest': WHATEVER THE INPUT: true; the input reads as it did. -/
def itemBestSpec : ChangeSpec := { name := "itemBest", fn := fun _ => fun
  | [d1, d2, d3] => { results := [.lit (.bool true)], args := [d1, d2, d3] }
  | _ => none }
def itemBestRow : OpenClaim := { program := "ythalodnfecaccaa", sum := "753516b563086c7469f723771646f98a7a11d3f97020317452d608b5913e1d63", func := "tideline/tidelinelaw03.ItemBest", spec := "itemBest", apart := false }
def ItemBestSaid : Prop := itemBestRow.holds Try.pinned (OpenSpec.ofChange itemBestSpec)

/-- ITS FALSE NEIGHBOUR: 'it returns false'. Refute it at one input. -/
def itemBestWrong : ChangeSpec := { name := "itemBest", fn := fun _ => fun
  | [d1, d2, d3] => { results := [.lit (.bool false)], args := [d1, d2, d3] }
  | _ => none }
def ItemBestWrongFalsely : Prop := itemBestRow.holds Try.pinned (OpenSpec.ofChange itemBestWrong)

/-- 'tidelinelaw03.ItemRises': WHATEVER THE INPUT: true; the input reads as it did. -/
def itemRisesSpec : ChangeSpec := { name := "itemRises", fn := fun _ => fun
  | [d1, d2] => { results := [.lit (.bool true)], args := [d1, d2] }
  | _ => none }
def itemRisesRow : OpenClaim := { program := "ythalodnfecaccaa", sum := "753516b563086c7469f723771646f98a7a11d3f97020317452d608b5913e1d63", func := "tideline/tidelinelaw03.ItemRises", spec := "itemRises", apart := false }
def ItemRisesSaid : Prop := itemRisesRow.holds Try.pinned (OpenSpec.ofChange itemRisesSpec)

/-- ITS FALSE NEIGHBOUR: 'it returns false'. Refute it at one input. -/
def itemRisesWrong : ChangeSpec := { name := "itemRises", fn := fun _ => fun
  | [d1, d2] => { results := [.lit (.bool false)], args := [d1, d2] }
  | _ => none }
def ItemRisesWrongFalsely : Prop := itemRisesRow.holds Try.pinned (OpenSpec.ofChange itemRisesWrong)

/-- 'tidelinelaw03.ItemNext': WHATEVER THE INPUT: true; the input reads as it did. -/
def itemNextSpec : ChangeSpec := { name := "itemNext", fn := fun _ => fun
  | [d1, d2, d3] => { results := [.lit (.bool true)], args := [d1, d2, d3] }
  | _ => none }
def itemNextRow : OpenClaim := { program := "ythalodnfecaccaa", sum := "753516b563086c7469f723771646f98a7a11d3f97020317452d608b5913e1d63", func := "tideline/tidelinelaw03.ItemNext", spec := "itemNext", apart := false }
def ItemNextSaid : Prop := itemNextRow.holds Try.pinned (OpenSpec.ofChange itemNextSpec)

/-- ITS FALSE NEIGHBOUR: 'it returns false'. Refute it at one input. -/
def itemNextWrong : ChangeSpec := { name := "itemNext", fn := fun _ => fun
  | [d1, d2, d3] => { results := [.lit (.bool false)], args := [d1, d2, d3] }
  | _ => none }
def ItemNextWrongFalsely : Prop := itemNextRow.holds Try.pinned (OpenSpec.ofChange itemNextWrong)

/-- 'tidelinelaw03.ItemLays': WHATEVER THE INPUT: true; the input reads as it did. -/
def itemLaysSpec : ChangeSpec := { name := "itemLays", fn := fun _ => fun
  | [d1, d2] => { results := [.lit (.bool true)], args := [d1, d2] }
  | _ => none }
def itemLaysRow : OpenClaim := { program := "ythalodnfecaccaa", sum := "753516b563086c7469f723771646f98a7a11d3f97020317452d608b5913e1d63", func := "tideline/tidelinelaw03.ItemLays", spec := "itemLays", apart := false }
def ItemLaysSaid : Prop := itemLaysRow.holds Try.pinned (OpenSpec.ofChange itemLaysSpec)

/-- ITS FALSE NEIGHBOUR: 'it returns false'. Refute it at one input. -/
def itemLaysWrong : ChangeSpec := { name := "itemLays", fn := fun _ => fun
  | [d1, d2] => { results := [.lit (.bool false)], args := [d1, d2] }
  | _ => none }
def ItemLaysWrongFalsely : Prop := itemLaysRow.holds Try.pinned (OpenSpec.ofChange itemLaysWrong)

/-- 'tidelinelaw03.ItemReads': WHATEVER THE INPUT: true; the input reads as it did. -/
def itemReadsSpec : ChangeSpec := { name := "itemReads", fn := fun _ => fun
  | [d1, d2] => { results := [.lit (.bool true)], args := [d1, d2] }
  | _ => none }
def itemReadsRow : OpenClaim := { program := "ythalodnfecaccaa", sum := "753516b563086c7469f723771646f98a7a11d3f97020317452d608b5913e1d63", func := "tideline/tidelinelaw03.ItemReads", spec := "itemReads", apart := false }
def ItemReadsSaid : Prop := itemReadsRow.holds Try.pinned (OpenSpec.ofChange itemReadsSpec)

/-- ITS FALSE NEIGHBOUR: 'it returns false'. Refute it at one input. -/
def itemReadsWrong : ChangeSpec := { name := "itemReads", fn := fun _ => fun
  | [d1, d2] => { results := [.lit (.bool false)], args := [d1, d2] }
  | _ => none }
def ItemReadsWrongFalsely : Prop := itemReadsRow.holds Try.pinned (OpenSpec.ofChange itemReadsWrong)

/-- 'tidelinelaw03.ItemBytes': WHATEVER THE INPUT: true; the input reads as it did. -/
def itemBytesSpec : ChangeSpec := { name := "itemBytes", fn := fun _ => fun
  | [d1, d2] => { results := [.lit (.bool true)], args := [d1, d2] }
  | _ => none }
def itemBytesRow : OpenClaim := { program := "ythalodnfecaccaa", sum := "753516b563086c7469f723771646f98a7a11d3f97020317452d608b5913e1d63", func := "tideline/tidelinelaw03.ItemBytes", spec := "itemBytes", apart := false }
def ItemBytesSaid : Prop := itemBytesRow.holds Try.pinned (OpenSpec.ofChange itemBytesSpec)

/-- ITS FALSE NEIGHBOUR: 'it returns false'. Refute it at one input. -/
def itemBytesWrong : ChangeSpec := { name := "itemBytes", fn := fun _ => fun
  | [d1, d2] => { results := [.lit (.bool false)], args := [d1, d2] }
  | _ => none }
def ItemBytesWrongFalsely : Prop := itemBytesRow.holds Try.pinned (OpenSpec.ofChange itemBytesWrong)

/- THE SECOND FORM. 'bulk': how many values and letters a reading holds, each counted each time it is reached (what is shared counts as often as it is met; a slice's spare places count too). A statement '..UptoSaid' is the law's where the arguments, and the package variables that the reading takes, are together of bulk at most 1048576: NARROWER than '..Said'. Prove '..Said' where nothing that the law and all that it calls make is longer than what came in: it says more and counts as full. Else prove '..UptoSaid'. A law counts once. -/
mutual
def uptoBulk {H : Type} : DataW H → Nat
  | .lit (.string bytes) => bytes.length + 1
  | .lit _ => 1
  | .nil => 1
  | .ptr d => uptoBulk d + 1
  | .slice elems spare => uptoBulkAll elems + uptoBulkAll spare + 1
  | .agg parts => uptoBulkAll parts + 1
  | .iface _ d => uptoBulk d + 1
  | .map entries => uptoBulkEntries entries + 1
  | .held _ => 1
def uptoBulkAll {H : Type} : List (DataW H) → Nat
  | [] => 0
  | d :: r => uptoBulk d + uptoBulkAll r
def uptoBulkEntries {H : Type} : List (Lit × DataW H) → Nat
  | [] => 0
  | x :: r => uptoBulkEntry x + uptoBulkEntries r
def uptoBulkEntry {H : Type} : Lit × DataW H → Nat
  | (.string bytes, d) => bytes.length + uptoBulk d + 1
  | (_, d) => uptoBulk d + 1
 end
def uptoSmall : (H : Type) → List (DataW H) → Bool := fun _ ds => decide (uptoBulkAll ds ≤ 1048576)
def OpenSpec.upto (s : _root_.Go.ChangeSpec) : _root_.Go.OpenSpec := { _root_.Go.OpenSpec.ofChange s with cond := some uptoSmall }

/-- 'tidelinelaw03.ItemChecks', WHERE WHAT IT READS IS OF BULK AT MOST 1048576: true; the input reads as it did. -/
def itemChecksUptoRow : OpenClaim := { program := "ythalodnfecaccaa", sum := "753516b563086c7469f723771646f98a7a11d3f97020317452d608b5913e1d63", func := "tideline/tidelinelaw03.ItemChecks", spec := "itemChecks", apart := false, narrowed := true }
def ItemChecksUptoSaid : Prop := itemChecksUptoRow.holds Try.pinned (OpenSpec.upto itemChecksSpec)

/-- 'tidelinelaw03.ItemOrder', WHERE WHAT IT READS IS OF BULK AT MOST 1048576: true; the input reads as it did. -/
def itemOrderUptoRow : OpenClaim := { program := "ythalodnfecaccaa", sum := "753516b563086c7469f723771646f98a7a11d3f97020317452d608b5913e1d63", func := "tideline/tidelinelaw03.ItemOrder", spec := "itemOrder", apart := false, narrowed := true }
def ItemOrderUptoSaid : Prop := itemOrderUptoRow.holds Try.pinned (OpenSpec.upto itemOrderSpec)

/-- 'tidelinelaw03.ItemBest', WHERE WHAT IT READS IS OF BULK AT MOST 1048576: true; the input reads as it did. -/
def itemBestUptoRow : OpenClaim := { program := "ythalodnfecaccaa", sum := "753516b563086c7469f723771646f98a7a11d3f97020317452d608b5913e1d63", func := "tideline/tidelinelaw03.ItemBest", spec := "itemBest", apart := false, narrowed := true }
def ItemBestUptoSaid : Prop := itemBestUptoRow.holds Try.pinned (OpenSpec.upto itemBestSpec)

/-- 'tidelinelaw03.ItemRises', WHERE WHAT IT READS IS OF BULK AT MOST 1048576: true; the input reads as it did. -/
def itemRisesUptoRow : OpenClaim := { program := "ythalodnfecaccaa", sum := "753516b563086c7469f723771646f98a7a11d3f97020317452d608b5913e1d63", func := "tideline/tidelinelaw03.ItemRises", spec := "itemRises", apart := false, narrowed := true }
def ItemRisesUptoSaid : Prop := itemRisesUptoRow.holds Try.pinned (OpenSpec.upto itemRisesSpec)

/-- 'tidelinelaw03.ItemNext', WHERE WHAT IT READS IS OF BULK AT MOST 1048576: true; the input reads as it did. -/
def itemNextUptoRow : OpenClaim := { program := "ythalodnfecaccaa", sum := "753516b563086c7469f723771646f98a7a11d3f97020317452d608b5913e1d63", func := "tideline/tidelinelaw03.ItemNext", spec := "itemNext", apart := false, narrowed := true }
def ItemNextUptoSaid : Prop := itemNextUptoRow.holds Try.pinned (OpenSpec.upto itemNextSpec)

/-- 'tidelinelaw03.ItemLays', WHERE WHAT IT READS IS OF BULK AT MOST 1048576: true; the input reads as it did. -/
def itemLaysUptoRow : OpenClaim := { program := "ythalodnfecaccaa", sum := "753516b563086c7469f723771646f98a7a11d3f97020317452d608b5913e1d63", func := "tideline/tidelinelaw03.ItemLays", spec := "itemLays", apart := false, narrowed := true }
def ItemLaysUptoSaid : Prop := itemLaysUptoRow.holds Try.pinned (OpenSpec.upto itemLaysSpec)

/-- 'tidelinelaw03.ItemReads', WHERE WHAT IT READS IS OF BULK AT MOST 1048576: true; the input reads as it did. -/
def itemReadsUptoRow : OpenClaim := { program := "ythalodnfecaccaa", sum := "753516b563086c7469f723771646f98a7a11d3f97020317452d608b5913e1d63", func := "tideline/tidelinelaw03.ItemReads", spec := "itemReads", apart := false, narrowed := true }
def ItemReadsUptoSaid : Prop := itemReadsUptoRow.holds Try.pinned (OpenSpec.upto itemReadsSpec)

/-- 'tidelinelaw03.ItemBytes', WHERE WHAT IT READS IS OF BULK AT MOST 1048576: true; the input reads as it did. -/
def itemBytesUptoRow : OpenClaim := { program := "ythalodnfecaccaa", sum := "753516b563086c7469f723771646f98a7a11d3f97020317452d608b5913e1d63", func := "tideline/tidelinelaw03.ItemBytes", spec := "itemBytes", apart := false, narrowed := true }
def ItemBytesUptoSaid : Prop := itemBytesUptoRow.holds Try.pinned (OpenSpec.upto itemBytesSpec)

end Rows
end Go.Proofs.Ythalodnfecaccaa
