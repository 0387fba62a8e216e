/-
  DERIVED. GIVEN WITH THE SEED: THE CARDS: each row of YthnjlbdkcpgcjaaDoorRows.lean that lists a variable, with what it lists TIED to the program's text (the seventh form; the later family's looks); each row that meets fmt, with fmt's text TOLD by the authors' own Lean function (tested against real Go, not proved from fmt's source: count such statements apart). THE CARD IS WHAT COUNTS. Prove the row's statement (the work); the ties are given (YthnjlbdkcpgcjaaDoorTie.lean); close each card by the builder's one call (the guide's Derived/Test/ToyasCard.lean, 'card_holds'). Laid BY PROGRAM, IN A SANDBOX (cutbox-door.mjs). By AI agents, Wed Nov 11 2026. No macro, syntax, notation, axiom, sorry.
-/
import Derived.Test.YthnjlbdkcpgcjaaDoorRows
import GoSem.ClaimSeven
namespace Go.Proofs.YthnjlbdkcpgcjaaDoor
namespace Rows

/-- THE TIED CARD OF 'tidelinelaw03.ItemText'. -/
def itemTextCard : Claim7 := { stood := { row := itemTextRow, standIns := [], harness := (true, "76ad33ea8f793968cbc1ae20c8dd132c0a085da372938e41b894946e060b7edd"), looks := true }, kinds := [], alts := [], laidByText := true, laidKinds := [.data, .data, .data, .data, .sentinel, .sentinel, .pinned], laidTests := true, laidLooks := .later }
def ItemTextCardSaid : Prop := Claim7.holds Tryd.pinned (.plain (OpenSpec.ofChange itemTextSpec)) itemTextCard

/-- THE SECOND FORM's CARD OF 'tidelinelaw03.ItemText'. -/
def itemTextUptoCard : Claim7 := { stood := { row := itemTextUptoRow, standIns := [], harness := (true, "76ad33ea8f793968cbc1ae20c8dd132c0a085da372938e41b894946e060b7edd"), looks := true }, kinds := [], alts := [], laidByText := true, laidKinds := [.data, .data, .data, .data, .sentinel, .sentinel, .pinned], laidTests := true, laidLooks := .later }
def ItemTextUptoCardSaid : Prop := Claim7.holds Tryd.pinned (.plain (OpenSpec.upto itemTextSpec)) itemTextUptoCard
end Rows
end Go.Proofs.YthnjlbdkcpgcjaaDoor
