/-
  DERIVED. GIVEN WITH THE SEED: THE CARDS: each row of YtngjhppgojfceaaDoorRows.lean that lists a variable, with what it lists TIED to the program's text (the seventh form; the later family's looks); each row that meets fmt, with fmt's text TOLD by the authors' own Lean function (tested against real Go, not proved from fmt's source: count such statements apart). THE CARD IS WHAT COUNTS. Prove the row's statement (the work); the ties are given (YtngjhppgojfceaaDoorTie.lean); close each card by the builder's one call (the guide's Derived/Test/ToyasCard.lean, 'card_holds'). Laid BY PROGRAM, IN A SANDBOX (cutbox-door.mjs). By AI agents, Wed Nov 11 2026. No macro, syntax, notation, axiom, sorry.
-/
import Derived.Test.YtngjhppgojfceaaDoorRows
import GoSem.ClaimSeven
namespace Go.Proofs.YtngjhppgojfceaaDoor
namespace Rows

/-- THE TIED CARD OF 'cherenkovtop.TopPulseTimes'. -/
def topPulseTimesCard : Claim7 := { stood := { row := topPulseTimesRow, standIns := [], harness := (true, "2b1e97c5659daa7178f24dde5e5569e1e2745ab0ef8c8645214b887c3e1a635d"), looks := false }, kinds := [], alts := [], laidByText := true, laidKinds := [.data, .data], laidTests := true, laidLooks := .later }
def TopPulseTimesCardSaid : Prop := Claim7.holds Tryd.pinned (.plain (OpenSpec.ofChange topPulseTimesSpec)) topPulseTimesCard

/-- THE TIED CARD OF 'cherenkovtop.TopIceDeployed'. -/
def topIceDeployedCard : Claim7 := { stood := { row := topIceDeployedRow, standIns := [], harness := (true, "2b1e97c5659daa7178f24dde5e5569e1e2745ab0ef8c8645214b887c3e1a635d"), looks := false }, kinds := [], alts := [], laidByText := true, laidKinds := [.data], laidTests := true, laidLooks := .later }
def TopIceDeployedCardSaid : Prop := Claim7.holds Tryd.pinned (.plain (OpenSpec.ofChange topIceDeployedSpec)) topIceDeployedCard

/-- THE SECOND FORM's CARD OF 'cherenkovtop.TopPulseTimes'. -/
def topPulseTimesUptoCard : Claim7 := { stood := { row := topPulseTimesUptoRow, standIns := [], harness := (true, "2b1e97c5659daa7178f24dde5e5569e1e2745ab0ef8c8645214b887c3e1a635d"), looks := false }, kinds := [], alts := [], laidByText := true, laidKinds := [.data, .data], laidTests := true, laidLooks := .later }
def TopPulseTimesUptoCardSaid : Prop := Claim7.holds Tryd.pinned (.plain (OpenSpec.upto topPulseTimesSpec)) topPulseTimesUptoCard

/-- THE SECOND FORM's CARD OF 'cherenkovtop.TopIceDeployed'. -/
def topIceDeployedUptoCard : Claim7 := { stood := { row := topIceDeployedUptoRow, standIns := [], harness := (true, "2b1e97c5659daa7178f24dde5e5569e1e2745ab0ef8c8645214b887c3e1a635d"), looks := false }, kinds := [], alts := [], laidByText := true, laidKinds := [.data], laidTests := true, laidLooks := .later }
def TopIceDeployedUptoCardSaid : Prop := Claim7.holds Tryd.pinned (.plain (OpenSpec.upto topIceDeployedSpec)) topIceDeployedUptoCard
end Rows
end Go.Proofs.YtngjhppgojfceaaDoor
