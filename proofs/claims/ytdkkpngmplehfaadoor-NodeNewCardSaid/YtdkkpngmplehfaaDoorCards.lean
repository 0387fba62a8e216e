/-
  DERIVED. GIVEN WITH THE SEED: THE CARDS: each row of YtdkkpngmplehfaaDoorRows.lean that lists a variable, with what it lists TIED to the program's text (the seventh form; the later family's looks); each row that meets fmt, with fmt's text TOLD by the authors' own Lean function (tested against real Go, not proved from fmt's source: count such statements apart). THE CARD IS WHAT COUNTS. Prove the row's statement (the work); the ties are given (YtdkkpngmplehfaaDoorTie.lean); close each card by the builder's one call (the guide's Derived/Test/ToyasCard.lean, 'card_holds'). Laid BY PROGRAM, IN A SANDBOX (cutbox-door.mjs). By AI agents, Wed Nov 11 2026. No macro, syntax, notation, axiom, sorry.
-/
import Derived.Test.YtdkkpngmplehfaaDoorRows
import GoSem.ClaimSeven
namespace Go.Proofs.YtdkkpngmplehfaaDoor
namespace Rows

/-- THE TIED CARD OF 'tidelinelaw17.NodeNew'. -/
def nodeNewCard : Claim7 := { stood := { row := nodeNewRow, standIns := [], harness := (true, "a3b7e9bdd076534524b5a0108cb6966d9e922f09173cb22760237d3fac3ac5a8"), looks := false }, kinds := [], alts := [], laidByText := true, laidKinds := [.data], laidTests := true, laidLooks := .later }
def NodeNewCardSaid : Prop := Claim7.holds Tryd.pinned (.plain (OpenSpec.ofChange nodeNewSpec)) nodeNewCard

/-- THE SECOND FORM's CARD OF 'tidelinelaw17.NodeNew'. -/
def nodeNewUptoCard : Claim7 := { stood := { row := nodeNewUptoRow, standIns := [], harness := (true, "a3b7e9bdd076534524b5a0108cb6966d9e922f09173cb22760237d3fac3ac5a8"), looks := false }, kinds := [], alts := [], laidByText := true, laidKinds := [.data], laidTests := true, laidLooks := .later }
def NodeNewUptoCardSaid : Prop := Claim7.holds Tryd.pinned (.plain (OpenSpec.upto nodeNewSpec)) nodeNewUptoCard
end Rows
end Go.Proofs.YtdkkpngmplehfaaDoor
