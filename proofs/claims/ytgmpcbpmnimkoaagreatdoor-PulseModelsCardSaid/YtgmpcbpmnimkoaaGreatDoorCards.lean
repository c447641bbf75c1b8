/-
  DERIVED. GIVEN WITH THE SEED: THE CARDS: each row of YtgmpcbpmnimkoaaGreatDoorRows.lean that lists a variable, with what it lists TIED to the program's text (the seventh form; the later family's looks); each row that meets fmt, with fmt's text TOLD by the authors' own Lean function (tested against real Go, not proved from fmt's source: count such statements apart). THE CARD IS WHAT COUNTS. Prove the row's statement (the work); the ties are given (YtgmpcbpmnimkoaaGreatDoorTie.lean); close each card by the builder's one call (the guide's Derived/Test/ToyasCard.lean, 'card_holds'). Laid BY PROGRAM, IN A SANDBOX (cutbox-door.mjs). By AI agents, Wed Nov 11 2026. No macro, syntax, notation, axiom, sorry.
-/
import Derived.Test.YtgmpcbpmnimkoaaGreatDoorRows
import GoSem.ClaimSeven
namespace Go.Proofs.YtgmpcbpmnimkoaaGreatDoor
namespace Rows

/-- THE TIED CARD OF 'cherenkovlaw02.PulseKept'. -/
def pulseKeptCard : Claim7 := { stood := { row := pulseKeptRow, standIns := [], harness := (true, "a2a30def8333a3c14a9fa190f273314cd21d0062dcfe07b12211b33c64f65d81"), looks := true }, kinds := [], alts := [], laidByText := true, laidKinds := [.data, .data, .data], laidTests := true, laidLooks := .later }
def PulseKeptCardSaid : Prop := Claim7.holds Tryz.pinned (.plain (OpenSpec.ofChange pulseKeptSpec)) pulseKeptCard

/-- THE TIED CARD OF 'cherenkovlaw02.PulseModels'. -/
def pulseModelsCard : Claim7 := { stood := { row := pulseModelsRow, standIns := [], harness := (true, "a2a30def8333a3c14a9fa190f273314cd21d0062dcfe07b12211b33c64f65d81"), looks := true }, kinds := [], alts := [], laidByText := true, laidKinds := [.data, .data, .data], laidTests := true, laidLooks := .later }
def PulseModelsCardSaid : Prop := Claim7.holds Tryz.pinned (.plain (OpenSpec.ofChange pulseModelsSpec)) pulseModelsCard

/-- THE TIED CARD OF 'cherenkovlaw02.PulseBest'. -/
def pulseBestCard : Claim7 := { stood := { row := pulseBestRow, standIns := [], harness := (true, "a2a30def8333a3c14a9fa190f273314cd21d0062dcfe07b12211b33c64f65d81"), looks := true }, kinds := [], alts := [], laidByText := true, laidKinds := [.data, .data, .data], laidTests := true, laidLooks := .later }
def PulseBestCardSaid : Prop := Claim7.holds Tryz.pinned (.plain (OpenSpec.ofChange pulseBestSpec)) pulseBestCard

/-- THE TIED CARD OF 'cherenkovlaw02.PulseProofs'. -/
def pulseProofsCard : Claim7 := { stood := { row := pulseProofsRow, standIns := [], harness := (true, "a2a30def8333a3c14a9fa190f273314cd21d0062dcfe07b12211b33c64f65d81"), looks := true }, kinds := [], alts := [], laidByText := true, laidKinds := [.data, .data, .data], laidTests := true, laidLooks := .later }
def PulseProofsCardSaid : Prop := Claim7.holds Tryz.pinned (.plain (OpenSpec.ofChange pulseProofsSpec)) pulseProofsCard

/-- THE TIED CARD OF 'cherenkovlaw08.WatchStrings'. -/
def watchStringsCard : Claim7 := { stood := { row := watchStringsRow, standIns := [], harness := (true, "a2a30def8333a3c14a9fa190f273314cd21d0062dcfe07b12211b33c64f65d81"), looks := true }, kinds := [], alts := [], laidByText := true, laidKinds := [.data, .data, .data, .data, .sentinel, .sentinel, .pinned], laidTests := true, laidLooks := .later }
def WatchStringsCardSaid : Prop := Claim7.holds Tryz.pinned (.plain (OpenSpec.ofChange watchStringsSpec)) watchStringsCard

/-- THE TIED CARD OF 'cherenkovlaw02.PulseStrings'. -/
def pulseStringsCard : Claim7 := { stood := { row := pulseStringsRow, standIns := [], harness := (true, "a2a30def8333a3c14a9fa190f273314cd21d0062dcfe07b12211b33c64f65d81"), looks := true }, kinds := [], alts := [], laidByText := true, laidKinds := [.data, .data, .data, .data, .sentinel, .sentinel, .pinned], laidTests := true, laidLooks := .later }
def PulseStringsCardSaid : Prop := Claim7.holds Tryz.pinned (.plain (OpenSpec.ofChange pulseStringsSpec)) pulseStringsCard

/-- THE TIED CARD OF 'cherenkovtop.TopWatchNeverMissed'. -/
def topWatchNeverMissedCard : Claim7 := { stood := { row := topWatchNeverMissedRow, standIns := [], harness := (true, "a2a30def8333a3c14a9fa190f273314cd21d0062dcfe07b12211b33c64f65d81"), looks := true }, kinds := [], alts := [], laidByText := true, laidKinds := [.data, .data, .data, .data, .sentinel, .sentinel, .pinned], laidTests := true, laidLooks := .later }
def TopWatchNeverMissedCardSaid : Prop := Claim7.holds Tryz.pinned (.plain (OpenSpec.ofChange topWatchNeverMissedSpec)) topWatchNeverMissedCard

/-- THE TIED CARD OF 'cherenkovtop.TopPulseBest'. -/
def topPulseBestCard : Claim7 := { stood := { row := topPulseBestRow, standIns := [], harness := (true, "a2a30def8333a3c14a9fa190f273314cd21d0062dcfe07b12211b33c64f65d81"), looks := true }, kinds := [], alts := [], laidByText := true, laidKinds := [.data, .data, .data, .data, .sentinel, .sentinel, .pinned], laidTests := true, laidLooks := .later }
def TopPulseBestCardSaid : Prop := Claim7.holds Tryz.pinned (.plain (OpenSpec.ofChange topPulseBestSpec)) topPulseBestCard

/-- THE SECOND FORM's CARD OF 'cherenkovlaw02.PulseKept'. -/
def pulseKeptUptoCard : Claim7 := { stood := { row := pulseKeptUptoRow, standIns := [], harness := (true, "a2a30def8333a3c14a9fa190f273314cd21d0062dcfe07b12211b33c64f65d81"), looks := true }, kinds := [], alts := [], laidByText := true, laidKinds := [.data, .data, .data], laidTests := true, laidLooks := .later }
def PulseKeptUptoCardSaid : Prop := Claim7.holds Tryz.pinned (.plain (OpenSpec.upto pulseKeptSpec)) pulseKeptUptoCard

/-- THE SECOND FORM's CARD OF 'cherenkovlaw02.PulseModels'. -/
def pulseModelsUptoCard : Claim7 := { stood := { row := pulseModelsUptoRow, standIns := [], harness := (true, "a2a30def8333a3c14a9fa190f273314cd21d0062dcfe07b12211b33c64f65d81"), looks := true }, kinds := [], alts := [], laidByText := true, laidKinds := [.data, .data, .data], laidTests := true, laidLooks := .later }
def PulseModelsUptoCardSaid : Prop := Claim7.holds Tryz.pinned (.plain (OpenSpec.upto pulseModelsSpec)) pulseModelsUptoCard

/-- THE SECOND FORM's CARD OF 'cherenkovlaw02.PulseBest'. -/
def pulseBestUptoCard : Claim7 := { stood := { row := pulseBestUptoRow, standIns := [], harness := (true, "a2a30def8333a3c14a9fa190f273314cd21d0062dcfe07b12211b33c64f65d81"), looks := true }, kinds := [], alts := [], laidByText := true, laidKinds := [.data, .data, .data], laidTests := true, laidLooks := .later }
def PulseBestUptoCardSaid : Prop := Claim7.holds Tryz.pinned (.plain (OpenSpec.upto pulseBestSpec)) pulseBestUptoCard

/-- THE SECOND FORM's CARD OF 'cherenkovlaw02.PulseProofs'. -/
def pulseProofsUptoCard : Claim7 := { stood := { row := pulseProofsUptoRow, standIns := [], harness := (true, "a2a30def8333a3c14a9fa190f273314cd21d0062dcfe07b12211b33c64f65d81"), looks := true }, kinds := [], alts := [], laidByText := true, laidKinds := [.data, .data, .data], laidTests := true, laidLooks := .later }
def PulseProofsUptoCardSaid : Prop := Claim7.holds Tryz.pinned (.plain (OpenSpec.upto pulseProofsSpec)) pulseProofsUptoCard

/-- THE SECOND FORM's CARD OF 'cherenkovlaw08.WatchStrings'. -/
def watchStringsUptoCard : Claim7 := { stood := { row := watchStringsUptoRow, standIns := [], harness := (true, "a2a30def8333a3c14a9fa190f273314cd21d0062dcfe07b12211b33c64f65d81"), looks := true }, kinds := [], alts := [], laidByText := true, laidKinds := [.data, .data, .data, .data, .sentinel, .sentinel, .pinned], laidTests := true, laidLooks := .later }
def WatchStringsUptoCardSaid : Prop := Claim7.holds Tryz.pinned (.plain (OpenSpec.upto watchStringsSpec)) watchStringsUptoCard

/-- THE SECOND FORM's CARD OF 'cherenkovlaw02.PulseStrings'. -/
def pulseStringsUptoCard : Claim7 := { stood := { row := pulseStringsUptoRow, standIns := [], harness := (true, "a2a30def8333a3c14a9fa190f273314cd21d0062dcfe07b12211b33c64f65d81"), looks := true }, kinds := [], alts := [], laidByText := true, laidKinds := [.data, .data, .data, .data, .sentinel, .sentinel, .pinned], laidTests := true, laidLooks := .later }
def PulseStringsUptoCardSaid : Prop := Claim7.holds Tryz.pinned (.plain (OpenSpec.upto pulseStringsSpec)) pulseStringsUptoCard

/-- THE SECOND FORM's CARD OF 'cherenkovtop.TopWatchNeverMissed'. -/
def topWatchNeverMissedUptoCard : Claim7 := { stood := { row := topWatchNeverMissedUptoRow, standIns := [], harness := (true, "a2a30def8333a3c14a9fa190f273314cd21d0062dcfe07b12211b33c64f65d81"), looks := true }, kinds := [], alts := [], laidByText := true, laidKinds := [.data, .data, .data, .data, .sentinel, .sentinel, .pinned], laidTests := true, laidLooks := .later }
def TopWatchNeverMissedUptoCardSaid : Prop := Claim7.holds Tryz.pinned (.plain (OpenSpec.upto topWatchNeverMissedSpec)) topWatchNeverMissedUptoCard

/-- THE SECOND FORM's CARD OF 'cherenkovtop.TopPulseBest'. -/
def topPulseBestUptoCard : Claim7 := { stood := { row := topPulseBestUptoRow, standIns := [], harness := (true, "a2a30def8333a3c14a9fa190f273314cd21d0062dcfe07b12211b33c64f65d81"), looks := true }, kinds := [], alts := [], laidByText := true, laidKinds := [.data, .data, .data, .data, .sentinel, .sentinel, .pinned], laidTests := true, laidLooks := .later }
def TopPulseBestUptoCardSaid : Prop := Claim7.holds Tryz.pinned (.plain (OpenSpec.upto topPulseBestSpec)) topPulseBestUptoCard
end Rows
end Go.Proofs.YtgmpcbpmnimkoaaGreatDoor
