/-
  DERIVED. GIVEN WITH THE SEED: THE CARDS: each row of YtpaklfjlbocfcaaGreatDoorRows.lean that lists a variable, with what it lists TIED to the program's text (the seventh form; the later family's looks); each row that meets fmt, with fmt's text TOLD by the authors' own Lean function (tested against real Go, not proved from fmt's source: count such statements apart). THE CARD IS WHAT COUNTS. Prove the row's statement (the work); the ties are given (YtpaklfjlbocfcaaGreatDoorTie.lean); close each card by the builder's one call (the guide's Derived/Test/ToyasCard.lean, 'card_holds'). Laid BY PROGRAM, IN A SANDBOX (cutbox-door.mjs). By AI agents, Wed Nov 11 2026. No macro, syntax, notation, axiom, sorry.
-/
import Derived.Test.YtpaklfjlbocfcaaGreatDoorRows
import GoSem.ClaimSeven
namespace Go.Proofs.YtpaklfjlbocfcaaGreatDoor
namespace Rows

/-- THE TIED CARD OF 'cherenkovlaw08.WatchStrings'. -/
def watchStringsCard : Claim7 := { stood := { row := watchStringsRow, standIns := [], harness := (true, "cecc3c02b45d53b0cd9491959b3e713b911f53828a6c98611427f1232126189f"), looks := true }, kinds := [], alts := [], laidByText := true, laidKinds := [.data, .data, .data, .data, .sentinel, .sentinel, .pinned], laidTests := true, laidLooks := .later }
def WatchStringsCardSaid : Prop := Claim7.holds Tryz.pinned (.plain (OpenSpec.ofChange watchStringsSpec)) watchStringsCard

/-- THE TIED CARD OF 'cherenkovlaw02.PulseStrings'. -/
def pulseStringsCard : Claim7 := { stood := { row := pulseStringsRow, standIns := [], harness := (true, "cecc3c02b45d53b0cd9491959b3e713b911f53828a6c98611427f1232126189f"), looks := true }, kinds := [], alts := [], laidByText := true, laidKinds := [.data, .data, .data, .data, .sentinel, .sentinel, .pinned], laidTests := true, laidLooks := .later }
def PulseStringsCardSaid : Prop := Claim7.holds Tryz.pinned (.plain (OpenSpec.ofChange pulseStringsSpec)) pulseStringsCard

/-- THE TIED CARD OF 'cherenkovtop.TopWatchNeverMissed'. -/
def topWatchNeverMissedCard : Claim7 := { stood := { row := topWatchNeverMissedRow, standIns := [], harness := (true, "cecc3c02b45d53b0cd9491959b3e713b911f53828a6c98611427f1232126189f"), looks := true }, kinds := [], alts := [], laidByText := true, laidKinds := [.data, .data, .data, .data, .sentinel, .sentinel, .pinned], laidTests := true, laidLooks := .later }
def TopWatchNeverMissedCardSaid : Prop := Claim7.holds Tryz.pinned (.plain (OpenSpec.ofChange topWatchNeverMissedSpec)) topWatchNeverMissedCard

/-- THE TIED CARD OF 'cherenkovtop.TopPulseBest'. -/
def topPulseBestCard : Claim7 := { stood := { row := topPulseBestRow, standIns := [], harness := (true, "cecc3c02b45d53b0cd9491959b3e713b911f53828a6c98611427f1232126189f"), looks := true }, kinds := [], alts := [], laidByText := true, laidKinds := [.data, .data, .data, .data, .sentinel, .sentinel, .pinned], laidTests := true, laidLooks := .later }
def TopPulseBestCardSaid : Prop := Claim7.holds Tryz.pinned (.plain (OpenSpec.ofChange topPulseBestSpec)) topPulseBestCard

/-- THE SECOND FORM's CARD OF 'cherenkovlaw08.WatchStrings'. -/
def watchStringsUptoCard : Claim7 := { stood := { row := watchStringsUptoRow, standIns := [], harness := (true, "cecc3c02b45d53b0cd9491959b3e713b911f53828a6c98611427f1232126189f"), looks := true }, kinds := [], alts := [], laidByText := true, laidKinds := [.data, .data, .data, .data, .sentinel, .sentinel, .pinned], laidTests := true, laidLooks := .later }
def WatchStringsUptoCardSaid : Prop := Claim7.holds Tryz.pinned (.plain (OpenSpec.upto watchStringsSpec)) watchStringsUptoCard

/-- THE SECOND FORM's CARD OF 'cherenkovlaw02.PulseStrings'. -/
def pulseStringsUptoCard : Claim7 := { stood := { row := pulseStringsUptoRow, standIns := [], harness := (true, "cecc3c02b45d53b0cd9491959b3e713b911f53828a6c98611427f1232126189f"), looks := true }, kinds := [], alts := [], laidByText := true, laidKinds := [.data, .data, .data, .data, .sentinel, .sentinel, .pinned], laidTests := true, laidLooks := .later }
def PulseStringsUptoCardSaid : Prop := Claim7.holds Tryz.pinned (.plain (OpenSpec.upto pulseStringsSpec)) pulseStringsUptoCard

/-- THE SECOND FORM's CARD OF 'cherenkovtop.TopWatchNeverMissed'. -/
def topWatchNeverMissedUptoCard : Claim7 := { stood := { row := topWatchNeverMissedUptoRow, standIns := [], harness := (true, "cecc3c02b45d53b0cd9491959b3e713b911f53828a6c98611427f1232126189f"), looks := true }, kinds := [], alts := [], laidByText := true, laidKinds := [.data, .data, .data, .data, .sentinel, .sentinel, .pinned], laidTests := true, laidLooks := .later }
def TopWatchNeverMissedUptoCardSaid : Prop := Claim7.holds Tryz.pinned (.plain (OpenSpec.upto topWatchNeverMissedSpec)) topWatchNeverMissedUptoCard

/-- THE SECOND FORM's CARD OF 'cherenkovtop.TopPulseBest'. -/
def topPulseBestUptoCard : Claim7 := { stood := { row := topPulseBestUptoRow, standIns := [], harness := (true, "cecc3c02b45d53b0cd9491959b3e713b911f53828a6c98611427f1232126189f"), looks := true }, kinds := [], alts := [], laidByText := true, laidKinds := [.data, .data, .data, .data, .sentinel, .sentinel, .pinned], laidTests := true, laidLooks := .later }
def TopPulseBestUptoCardSaid : Prop := Claim7.holds Tryz.pinned (.plain (OpenSpec.upto topPulseBestSpec)) topPulseBestUptoCard
end Rows
end Go.Proofs.YtpaklfjlbocfcaaGreatDoor
