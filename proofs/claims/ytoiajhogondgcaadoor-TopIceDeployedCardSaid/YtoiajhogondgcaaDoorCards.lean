/-
  DERIVED. GIVEN WITH THE SEED: THE CARDS: each row of YtoiajhogondgcaaDoorRows.lean that lists a variable, with what it lists TIED to the program's text (the seventh form; the later family's looks); each row that meets fmt, with fmt's text TOLD by the authors' own Lean function (tested against real Go, not proved from fmt's source: count such statements apart). THE CARD IS WHAT COUNTS. Prove the row's statement (the work); the ties are given (YtoiajhogondgcaaDoorTie.lean); close each card by the builder's one call (the guide's Derived/Test/ToyasCard.lean, 'card_holds'). Laid BY PROGRAM, IN A SANDBOX (cutbox-door.mjs). By AI agents, Wed Nov 11 2026. No macro, syntax, notation, axiom, sorry.
-/
import Derived.Test.YtoiajhogondgcaaDoorRows
import GoSem.ClaimSeven
namespace Go.Proofs.YtoiajhogondgcaaDoor
namespace Rows

/-- THE TIED CARD OF 'cherenkovtop.TopIceDeployed'. -/
def topIceDeployedCard : Claim7 := { stood := { row := topIceDeployedRow, standIns := [], harness := (true, "1b3bfb734ae73aebcb64c90ca60c3678b6143be581e5448dcd3fdaf840bbf22f"), looks := false }, kinds := [], alts := [], laidByText := true, laidKinds := [.data], laidTests := true, laidLooks := .later }
def TopIceDeployedCardSaid : Prop := Claim7.holds Tryd.pinned (.plain (OpenSpec.ofChange topIceDeployedSpec)) topIceDeployedCard

/-- THE SECOND FORM's CARD OF 'cherenkovtop.TopIceDeployed'. -/
def topIceDeployedUptoCard : Claim7 := { stood := { row := topIceDeployedUptoRow, standIns := [], harness := (true, "1b3bfb734ae73aebcb64c90ca60c3678b6143be581e5448dcd3fdaf840bbf22f"), looks := false }, kinds := [], alts := [], laidByText := true, laidKinds := [.data], laidTests := true, laidLooks := .later }
def TopIceDeployedUptoCardSaid : Prop := Claim7.holds Tryd.pinned (.plain (OpenSpec.upto topIceDeployedSpec)) topIceDeployedUptoCard
end Rows
end Go.Proofs.YtoiajhogondgcaaDoor
