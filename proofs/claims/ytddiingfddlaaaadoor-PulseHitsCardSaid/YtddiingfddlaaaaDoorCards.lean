/-
  DERIVED. GIVEN WITH THE SEED: THE CARDS: each row of YtddiingfddlaaaaDoorRows.lean that lists a variable, with what it lists TIED to the program's text (the seventh form; the later family's looks); each row that meets fmt, with fmt's text TOLD by the authors' own Lean function (tested against real Go, not proved from fmt's source: count such statements apart). THE CARD IS WHAT COUNTS. Prove the row's statement (the work); the ties are given (YtddiingfddlaaaaDoorTie.lean); close each card by the builder's one call (the guide's Derived/Test/ToyasCard.lean, 'card_holds'). Laid BY PROGRAM, IN A SANDBOX (cutbox-door.mjs). By AI agents, Wed Nov 11 2026. No macro, syntax, notation, axiom, sorry.
-/
import Derived.Test.YtddiingfddlaaaaDoorRows
import GoSem.ClaimSeven
namespace Go.Proofs.YtddiingfddlaaaaDoor
namespace Rows

/-- THE TIED CARD OF 'cherenkovlaw02.PulseDead'. -/
def pulseDeadCard : Claim7 := { stood := { row := pulseDeadRow, standIns := [], harness := (true, "e7570183d18a0dc2652d89fb2009be1f5e20e6d3bdd0755af9b099719e9371f4"), looks := false }, kinds := [], alts := [], laidByText := true, laidKinds := [.data, .data, .data], laidTests := true, laidLooks := .later }
def PulseDeadCardSaid : Prop := Claim7.holds Tryd.pinned (.plain (OpenSpec.ofChange pulseDeadSpec)) pulseDeadCard

/-- THE TIED CARD OF 'cherenkovlaw02.PulseGains'. -/
def pulseGainsCard : Claim7 := { stood := { row := pulseGainsRow, standIns := [], harness := (true, "e7570183d18a0dc2652d89fb2009be1f5e20e6d3bdd0755af9b099719e9371f4"), looks := false }, kinds := [], alts := [], laidByText := true, laidKinds := [.data, .data, .data], laidTests := true, laidLooks := .later }
def PulseGainsCardSaid : Prop := Claim7.holds Tryd.pinned (.plain (OpenSpec.ofChange pulseGainsSpec)) pulseGainsCard

/-- THE TIED CARD OF 'cherenkovlaw02.PulseUndone'. -/
def pulseUndoneCard : Claim7 := { stood := { row := pulseUndoneRow, standIns := [], harness := (true, "e7570183d18a0dc2652d89fb2009be1f5e20e6d3bdd0755af9b099719e9371f4"), looks := false }, kinds := [], alts := [], laidByText := true, laidKinds := [.data, .data, .data], laidTests := true, laidLooks := .later }
def PulseUndoneCardSaid : Prop := Claim7.holds Tryd.pinned (.plain (OpenSpec.ofChange pulseUndoneSpec)) pulseUndoneCard

/-- THE TIED CARD OF 'cherenkovlaw02.PulseWaves'. -/
def pulseWavesCard : Claim7 := { stood := { row := pulseWavesRow, standIns := [], harness := (true, "e7570183d18a0dc2652d89fb2009be1f5e20e6d3bdd0755af9b099719e9371f4"), looks := false }, kinds := [], alts := [], laidByText := true, laidKinds := [.data, .data, .data], laidTests := true, laidLooks := .later }
def PulseWavesCardSaid : Prop := Claim7.holds Tryd.pinned (.plain (OpenSpec.ofChange pulseWavesSpec)) pulseWavesCard

/-- THE TIED CARD OF 'cherenkovlaw02.PulseTimes'. -/
def pulseTimesCard : Claim7 := { stood := { row := pulseTimesRow, standIns := [], harness := (true, "e7570183d18a0dc2652d89fb2009be1f5e20e6d3bdd0755af9b099719e9371f4"), looks := false }, kinds := [], alts := [], laidByText := true, laidKinds := [.data, .data, .data], laidTests := true, laidLooks := .later }
def PulseTimesCardSaid : Prop := Claim7.holds Tryd.pinned (.plain (OpenSpec.ofChange pulseTimesSpec)) pulseTimesCard

/-- THE TIED CARD OF 'cherenkovlaw02.PulseCharges'. -/
def pulseChargesCard : Claim7 := { stood := { row := pulseChargesRow, standIns := [], harness := (true, "e7570183d18a0dc2652d89fb2009be1f5e20e6d3bdd0755af9b099719e9371f4"), looks := false }, kinds := [], alts := [], laidByText := true, laidKinds := [.data, .data, .data], laidTests := true, laidLooks := .later }
def PulseChargesCardSaid : Prop := Claim7.holds Tryd.pinned (.plain (OpenSpec.ofChange pulseChargesSpec)) pulseChargesCard

/-- THE TIED CARD OF 'cherenkovlaw02.PulseHits'. -/
def pulseHitsCard : Claim7 := { stood := { row := pulseHitsRow, standIns := [], harness := (true, "e7570183d18a0dc2652d89fb2009be1f5e20e6d3bdd0755af9b099719e9371f4"), looks := false }, kinds := [], alts := [], laidByText := true, laidKinds := [.data, .data, .data], laidTests := true, laidLooks := .later }
def PulseHitsCardSaid : Prop := Claim7.holds Tryd.pinned (.plain (OpenSpec.ofChange pulseHitsSpec)) pulseHitsCard

/-- THE TIED CARD OF 'cherenkovlaw02.PulseJoined'. -/
def pulseJoinedCard : Claim7 := { stood := { row := pulseJoinedRow, standIns := [], harness := (true, "e7570183d18a0dc2652d89fb2009be1f5e20e6d3bdd0755af9b099719e9371f4"), looks := false }, kinds := [], alts := [], laidByText := true, laidKinds := [.data, .data, .data], laidTests := true, laidLooks := .later }
def PulseJoinedCardSaid : Prop := Claim7.holds Tryd.pinned (.plain (OpenSpec.ofChange pulseJoinedSpec)) pulseJoinedCard

/-- THE SECOND FORM's CARD OF 'cherenkovlaw02.PulseDead'. -/
def pulseDeadUptoCard : Claim7 := { stood := { row := pulseDeadUptoRow, standIns := [], harness := (true, "e7570183d18a0dc2652d89fb2009be1f5e20e6d3bdd0755af9b099719e9371f4"), looks := false }, kinds := [], alts := [], laidByText := true, laidKinds := [.data, .data, .data], laidTests := true, laidLooks := .later }
def PulseDeadUptoCardSaid : Prop := Claim7.holds Tryd.pinned (.plain (OpenSpec.upto pulseDeadSpec)) pulseDeadUptoCard

/-- THE SECOND FORM's CARD OF 'cherenkovlaw02.PulseGains'. -/
def pulseGainsUptoCard : Claim7 := { stood := { row := pulseGainsUptoRow, standIns := [], harness := (true, "e7570183d18a0dc2652d89fb2009be1f5e20e6d3bdd0755af9b099719e9371f4"), looks := false }, kinds := [], alts := [], laidByText := true, laidKinds := [.data, .data, .data], laidTests := true, laidLooks := .later }
def PulseGainsUptoCardSaid : Prop := Claim7.holds Tryd.pinned (.plain (OpenSpec.upto pulseGainsSpec)) pulseGainsUptoCard

/-- THE SECOND FORM's CARD OF 'cherenkovlaw02.PulseUndone'. -/
def pulseUndoneUptoCard : Claim7 := { stood := { row := pulseUndoneUptoRow, standIns := [], harness := (true, "e7570183d18a0dc2652d89fb2009be1f5e20e6d3bdd0755af9b099719e9371f4"), looks := false }, kinds := [], alts := [], laidByText := true, laidKinds := [.data, .data, .data], laidTests := true, laidLooks := .later }
def PulseUndoneUptoCardSaid : Prop := Claim7.holds Tryd.pinned (.plain (OpenSpec.upto pulseUndoneSpec)) pulseUndoneUptoCard

/-- THE SECOND FORM's CARD OF 'cherenkovlaw02.PulseWaves'. -/
def pulseWavesUptoCard : Claim7 := { stood := { row := pulseWavesUptoRow, standIns := [], harness := (true, "e7570183d18a0dc2652d89fb2009be1f5e20e6d3bdd0755af9b099719e9371f4"), looks := false }, kinds := [], alts := [], laidByText := true, laidKinds := [.data, .data, .data], laidTests := true, laidLooks := .later }
def PulseWavesUptoCardSaid : Prop := Claim7.holds Tryd.pinned (.plain (OpenSpec.upto pulseWavesSpec)) pulseWavesUptoCard

/-- THE SECOND FORM's CARD OF 'cherenkovlaw02.PulseTimes'. -/
def pulseTimesUptoCard : Claim7 := { stood := { row := pulseTimesUptoRow, standIns := [], harness := (true, "e7570183d18a0dc2652d89fb2009be1f5e20e6d3bdd0755af9b099719e9371f4"), looks := false }, kinds := [], alts := [], laidByText := true, laidKinds := [.data, .data, .data], laidTests := true, laidLooks := .later }
def PulseTimesUptoCardSaid : Prop := Claim7.holds Tryd.pinned (.plain (OpenSpec.upto pulseTimesSpec)) pulseTimesUptoCard

/-- THE SECOND FORM's CARD OF 'cherenkovlaw02.PulseCharges'. -/
def pulseChargesUptoCard : Claim7 := { stood := { row := pulseChargesUptoRow, standIns := [], harness := (true, "e7570183d18a0dc2652d89fb2009be1f5e20e6d3bdd0755af9b099719e9371f4"), looks := false }, kinds := [], alts := [], laidByText := true, laidKinds := [.data, .data, .data], laidTests := true, laidLooks := .later }
def PulseChargesUptoCardSaid : Prop := Claim7.holds Tryd.pinned (.plain (OpenSpec.upto pulseChargesSpec)) pulseChargesUptoCard

/-- THE SECOND FORM's CARD OF 'cherenkovlaw02.PulseHits'. -/
def pulseHitsUptoCard : Claim7 := { stood := { row := pulseHitsUptoRow, standIns := [], harness := (true, "e7570183d18a0dc2652d89fb2009be1f5e20e6d3bdd0755af9b099719e9371f4"), looks := false }, kinds := [], alts := [], laidByText := true, laidKinds := [.data, .data, .data], laidTests := true, laidLooks := .later }
def PulseHitsUptoCardSaid : Prop := Claim7.holds Tryd.pinned (.plain (OpenSpec.upto pulseHitsSpec)) pulseHitsUptoCard

/-- THE SECOND FORM's CARD OF 'cherenkovlaw02.PulseJoined'. -/
def pulseJoinedUptoCard : Claim7 := { stood := { row := pulseJoinedUptoRow, standIns := [], harness := (true, "e7570183d18a0dc2652d89fb2009be1f5e20e6d3bdd0755af9b099719e9371f4"), looks := false }, kinds := [], alts := [], laidByText := true, laidKinds := [.data, .data, .data], laidTests := true, laidLooks := .later }
def PulseJoinedUptoCardSaid : Prop := Claim7.holds Tryd.pinned (.plain (OpenSpec.upto pulseJoinedSpec)) pulseJoinedUptoCard
end Rows
end Go.Proofs.YtddiingfddlaaaaDoor
