/-
  DERIVED. GIVEN WITH THE SEED: THE CARDS: each row of YtaojgmdidkjlhaaDoorRows.lean that lists a variable, with what it lists TIED to the program's text (the seventh form; the later family's looks); each row that meets fmt, with fmt's text TOLD by the authors' own Lean function (tested against real Go, not proved from fmt's source: count such statements apart). THE CARD IS WHAT COUNTS. Prove the row's statement (the work); the ties are given (YtaojgmdidkjlhaaDoorTie.lean); close each card by the builder's one call (the guide's Derived/Test/ToyasCard.lean, 'card_holds'). Laid BY PROGRAM, IN A SANDBOX (cutbox-door.mjs). By AI agents, Wed Nov 11 2026. No macro, syntax, notation, axiom, sorry.
-/
import Derived.Test.YtaojgmdidkjlhaaDoorRows
import GoSem.ClaimSeven
namespace Go.Proofs.YtaojgmdidkjlhaaDoor
namespace Rows

/-- THE TIED CARD OF 'tidelinelaw01.NumsDigits'. -/
def numsDigitsCard : Claim7 := { stood := { row := numsDigitsRow, standIns := [], harness := (true, "41d9fd4a57ae1d3e50a44807ca43c6c39796d7279b725013a10445944ea7a274"), looks := true }, kinds := [], alts := [], laidByText := true, laidKinds := [.data, .data, .data, .sentinel, .sentinel], laidTests := true, laidLooks := .later }
def NumsDigitsCardSaid : Prop := Claim7.holds Tryd.pinned (.plain (OpenSpec.ofChange numsDigitsSpec)) numsDigitsCard

/-- THE SECOND FORM's CARD OF 'tidelinelaw01.NumsDigits'. -/
def numsDigitsUptoCard : Claim7 := { stood := { row := numsDigitsUptoRow, standIns := [], harness := (true, "41d9fd4a57ae1d3e50a44807ca43c6c39796d7279b725013a10445944ea7a274"), looks := true }, kinds := [], alts := [], laidByText := true, laidKinds := [.data, .data, .data, .sentinel, .sentinel], laidTests := true, laidLooks := .later }
def NumsDigitsUptoCardSaid : Prop := Claim7.holds Tryd.pinned (.plain (OpenSpec.upto numsDigitsSpec)) numsDigitsUptoCard
end Rows
end Go.Proofs.YtaojgmdidkjlhaaDoor
