/-
  No cell of these rows narrows 'for every input' (looked for: loops, veiled, ifaces, maps, wideKeys, modest, calm, conditions, laid).
  DERIVED. THE GIVEN ROWS OF THIS SEAT. 11 by the template 'for every input the law returns true; each argument reads behind the call as it read before'; 0 by the template 'total and deterministic' (their statements: YtaebfjepacnmhaaTotals.lean).
  GIVEN WITH THE SEED: the statements are not yours to turn. If you find one false, say at which input.
  Laid BY PROGRAM, IN A SANDBOX (cutbox-rows.mjs): the forced cells as the released guide's own fill.sh prints them over the translation d932b4a389afd689… (all of the seat's roots in one cut). By AI agents, Wed Nov 11 2026. No macro, syntax, notation, axiom, sorry.
-/
import Derived.Test.YtaebfjepacnmhaaChecked
import GoSem.Claim
import GoSem.ClaimJoined
import GoSem.ClaimMapViews
import Derived.JoinedTies
import Derived.KernelRfl
namespace Go.Proofs.Ytaebfjepacnmhaa
/- THE CELL 'sum', in the pinned program and in every row, IS THE sha256 OF THE DUMP (.gsa) THAT YtaebfjepacnmhaaProg.lean LOADS. Nothing in Lean hashes anything: it is a label: what it is worth is what the hold of that sum in a sandbox is worth. -/
noncomputable def Try.pinned : Pinned := { name := "ytaebfjepacnmhaa", sum := "d932b4a389afd689698c0463761687e321a95d748bdd1bcfa3a5853783697b84", checked := Try.checked }
namespace Rows
def none {H : Type} : Left H := { results := [], args := [] }

/-- 'cherenkovlaw08.WatchCounted': WHATEVER THE INPUT: true; the input reads as it did. -/
def watchCountedSpec : ChangeSpec := { name := "watchCounted", fn := fun _ => fun
  | [d1, d2, d3] => { results := [.lit (.bool true)], args := [d1, d2, d3] }
  | _ => none }
def watchCountedRow : OpenClaim := { program := "ytaebfjepacnmhaa", sum := "d932b4a389afd689698c0463761687e321a95d748bdd1bcfa3a5853783697b84", func := "cherenkov/cherenkovlaw08.WatchCounted", spec := "watchCounted", unfollowed := true, recurses := true, apart := false }
def WatchCountedSaid : Prop := watchCountedRow.holds Try.pinned (OpenSpec.ofChange watchCountedSpec)

/-- ITS FALSE NEIGHBOUR: 'it returns false'. Refute it at one input. -/
def watchCountedWrong : ChangeSpec := { name := "watchCounted", fn := fun _ => fun
  | [d1, d2, d3] => { results := [.lit (.bool false)], args := [d1, d2, d3] }
  | _ => none }
def WatchCountedWrongFalsely : Prop := watchCountedRow.holds Try.pinned (OpenSpec.ofChange watchCountedWrong)

/-- 'cherenkovlaw08.WatchDead': WHATEVER THE INPUT: true; the input reads as it did. -/
def watchDeadSpec : ChangeSpec := { name := "watchDead", fn := fun _ => fun
  | [d] => { results := [.lit (.bool true)], args := [d] }
  | _ => none }
def watchDeadRow : OpenClaim := { program := "ytaebfjepacnmhaa", sum := "d932b4a389afd689698c0463761687e321a95d748bdd1bcfa3a5853783697b84", func := "cherenkov/cherenkovlaw08.WatchDead", spec := "watchDead", unfollowed := true, recurses := true, apart := false }
def WatchDeadSaid : Prop := watchDeadRow.holds Try.pinned (OpenSpec.ofChange watchDeadSpec)

/-- ITS FALSE NEIGHBOUR: 'it returns false'. Refute it at one input. -/
def watchDeadWrong : ChangeSpec := { name := "watchDead", fn := fun _ => fun
  | [d] => { results := [.lit (.bool false)], args := [d] }
  | _ => none }
def WatchDeadWrongFalsely : Prop := watchDeadRow.holds Try.pinned (OpenSpec.ofChange watchDeadWrong)

/-- 'cherenkovlaw08.WatchOneRise': WHATEVER THE INPUT: true; the input reads as it did. -/
def watchOneRiseSpec : ChangeSpec := { name := "watchOneRise", fn := fun _ => fun
  | [d1, d2, d3] => { results := [.lit (.bool true)], args := [d1, d2, d3] }
  | _ => none }
def watchOneRiseRow : OpenClaim := { program := "ytaebfjepacnmhaa", sum := "d932b4a389afd689698c0463761687e321a95d748bdd1bcfa3a5853783697b84", func := "cherenkov/cherenkovlaw08.WatchOneRise", spec := "watchOneRise", unfollowed := true, recurses := true, apart := false }
def WatchOneRiseSaid : Prop := watchOneRiseRow.holds Try.pinned (OpenSpec.ofChange watchOneRiseSpec)

/-- ITS FALSE NEIGHBOUR: 'it returns false'. Refute it at one input. -/
def watchOneRiseWrong : ChangeSpec := { name := "watchOneRise", fn := fun _ => fun
  | [d1, d2, d3] => { results := [.lit (.bool false)], args := [d1, d2, d3] }
  | _ => none }
def WatchOneRiseWrongFalsely : Prop := watchOneRiseRow.holds Try.pinned (OpenSpec.ofChange watchOneRiseWrong)

/-- 'cherenkovlaw08.WatchRings': WHATEVER THE INPUT: true; the input reads as it did. -/
def watchRingsSpec : ChangeSpec := { name := "watchRings", fn := fun _ => fun
  | [d1, d2, d3] => { results := [.lit (.bool true)], args := [d1, d2, d3] }
  | _ => none }
def watchRingsRow : OpenClaim := { program := "ytaebfjepacnmhaa", sum := "d932b4a389afd689698c0463761687e321a95d748bdd1bcfa3a5853783697b84", func := "cherenkov/cherenkovlaw08.WatchRings", spec := "watchRings", unfollowed := true, recurses := true, apart := false }
def WatchRingsSaid : Prop := watchRingsRow.holds Try.pinned (OpenSpec.ofChange watchRingsSpec)

/-- ITS FALSE NEIGHBOUR: 'it returns false'. Refute it at one input. -/
def watchRingsWrong : ChangeSpec := { name := "watchRings", fn := fun _ => fun
  | [d1, d2, d3] => { results := [.lit (.bool false)], args := [d1, d2, d3] }
  | _ => none }
def WatchRingsWrongFalsely : Prop := watchRingsRow.holds Try.pinned (OpenSpec.ofChange watchRingsWrong)

/-- 'cherenkovlaw08.WatchNothingLost': WHATEVER THE INPUT: true; the input reads as it did. -/
def watchNothingLostSpec : ChangeSpec := { name := "watchNothingLost", fn := fun _ => fun
  | [d1, d2, d3] => { results := [.lit (.bool true)], args := [d1, d2, d3] }
  | _ => none }
def watchNothingLostRow : OpenClaim := { program := "ytaebfjepacnmhaa", sum := "d932b4a389afd689698c0463761687e321a95d748bdd1bcfa3a5853783697b84", func := "cherenkov/cherenkovlaw08.WatchNothingLost", spec := "watchNothingLost", unfollowed := true, recurses := true, apart := false }
def WatchNothingLostSaid : Prop := watchNothingLostRow.holds Try.pinned (OpenSpec.ofChange watchNothingLostSpec)

/-- ITS FALSE NEIGHBOUR: 'it returns false'. Refute it at one input. -/
def watchNothingLostWrong : ChangeSpec := { name := "watchNothingLost", fn := fun _ => fun
  | [d1, d2, d3] => { results := [.lit (.bool false)], args := [d1, d2, d3] }
  | _ => none }
def WatchNothingLostWrongFalsely : Prop := watchNothingLostRow.holds Try.pinned (OpenSpec.ofChange watchNothingLostWrong)

/-- 'cherenkovlaw08.WatchSkies': WHATEVER THE INPUT: true; the input reads as it did. -/
def watchSkiesSpec : ChangeSpec := { name := "watchSkies", fn := fun _ => fun
  | [d1, d2, d3] => { results := [.lit (.bool true)], args := [d1, d2, d3] }
  | _ => none }
def watchSkiesRow : OpenClaim := { program := "ytaebfjepacnmhaa", sum := "d932b4a389afd689698c0463761687e321a95d748bdd1bcfa3a5853783697b84", func := "cherenkov/cherenkovlaw08.WatchSkies", spec := "watchSkies", unfollowed := true, recurses := true, apart := false }
def WatchSkiesSaid : Prop := watchSkiesRow.holds Try.pinned (OpenSpec.ofChange watchSkiesSpec)

/-- ITS FALSE NEIGHBOUR: 'it returns false'. Refute it at one input. -/
def watchSkiesWrong : ChangeSpec := { name := "watchSkies", fn := fun _ => fun
  | [d1, d2, d3] => { results := [.lit (.bool false)], args := [d1, d2, d3] }
  | _ => none }
def WatchSkiesWrongFalsely : Prop := watchSkiesRow.holds Try.pinned (OpenSpec.ofChange watchSkiesWrong)

/-- 'cherenkovlaw08.WatchRises': WHATEVER THE INPUT: true; the input reads as it did. -/
def watchRisesSpec : ChangeSpec := { name := "watchRises", fn := fun _ => fun
  | [d1, d2] => { results := [.lit (.bool true)], args := [d1, d2] }
  | _ => none }
def watchRisesRow : OpenClaim := { program := "ytaebfjepacnmhaa", sum := "d932b4a389afd689698c0463761687e321a95d748bdd1bcfa3a5853783697b84", func := "cherenkov/cherenkovlaw08.WatchRises", spec := "watchRises", unfollowed := true, recurses := true, apart := false }
def WatchRisesSaid : Prop := watchRisesRow.holds Try.pinned (OpenSpec.ofChange watchRisesSpec)

/-- ITS FALSE NEIGHBOUR: 'it returns false'. Refute it at one input. -/
def watchRisesWrong : ChangeSpec := { name := "watchRises", fn := fun _ => fun
  | [d1, d2] => { results := [.lit (.bool false)], args := [d1, d2] }
  | _ => none }
def WatchRisesWrongFalsely : Prop := watchRisesRow.holds Try.pinned (OpenSpec.ofChange watchRisesWrong)

/-- 'cherenkovlaw08.WatchNeverMissed': WHATEVER THE INPUT: true; the input reads as it did. -/
def watchNeverMissedSpec : ChangeSpec := { name := "watchNeverMissed", fn := fun _ => fun
  | [d1, d2, d3] => { results := [.lit (.bool true)], args := [d1, d2, d3] }
  | _ => none }
def watchNeverMissedRow : OpenClaim := { program := "ytaebfjepacnmhaa", sum := "d932b4a389afd689698c0463761687e321a95d748bdd1bcfa3a5853783697b84", func := "cherenkov/cherenkovlaw08.WatchNeverMissed", spec := "watchNeverMissed", unfollowed := true, recurses := true, apart := false }
def WatchNeverMissedSaid : Prop := watchNeverMissedRow.holds Try.pinned (OpenSpec.ofChange watchNeverMissedSpec)

/-- ITS FALSE NEIGHBOUR: 'it returns false'. Refute it at one input. -/
def watchNeverMissedWrong : ChangeSpec := { name := "watchNeverMissed", fn := fun _ => fun
  | [d1, d2, d3] => { results := [.lit (.bool false)], args := [d1, d2, d3] }
  | _ => none }
def WatchNeverMissedWrongFalsely : Prop := watchNeverMissedRow.holds Try.pinned (OpenSpec.ofChange watchNeverMissedWrong)

/-- 'cherenkovtop.TopWatchFalseAlarms': WHATEVER THE INPUT: true; the input reads as it did. -/
def topWatchFalseAlarmsSpec : ChangeSpec := { name := "topWatchFalseAlarms", fn := fun _ => fun
  | [d1, d2, d3] => { results := [.lit (.bool true)], args := [d1, d2, d3] }
  | _ => none }
def topWatchFalseAlarmsRow : OpenClaim := { program := "ytaebfjepacnmhaa", sum := "d932b4a389afd689698c0463761687e321a95d748bdd1bcfa3a5853783697b84", func := "cherenkov/cherenkovtop.TopWatchFalseAlarms", spec := "topWatchFalseAlarms", unfollowed := true, recurses := true, apart := false }
def TopWatchFalseAlarmsSaid : Prop := topWatchFalseAlarmsRow.holds Try.pinned (OpenSpec.ofChange topWatchFalseAlarmsSpec)

/-- ITS FALSE NEIGHBOUR: 'it returns false'. Refute it at one input. -/
def topWatchFalseAlarmsWrong : ChangeSpec := { name := "topWatchFalseAlarms", fn := fun _ => fun
  | [d1, d2, d3] => { results := [.lit (.bool false)], args := [d1, d2, d3] }
  | _ => none }
def TopWatchFalseAlarmsWrongFalsely : Prop := topWatchFalseAlarmsRow.holds Try.pinned (OpenSpec.ofChange topWatchFalseAlarmsWrong)

/-- 'cherenkovlaw08.WatchAlarms': WHATEVER THE INPUT: true; the input reads as it did. -/
def watchAlarmsSpec : ChangeSpec := { name := "watchAlarms", fn := fun _ => fun
  | [d1, d2, d3] => { results := [.lit (.bool true)], args := [d1, d2, d3] }
  | _ => none }
def watchAlarmsRow : OpenClaim := { program := "ytaebfjepacnmhaa", sum := "d932b4a389afd689698c0463761687e321a95d748bdd1bcfa3a5853783697b84", func := "cherenkov/cherenkovlaw08.WatchAlarms", spec := "watchAlarms", unfollowed := true, recurses := true, apart := false }
def WatchAlarmsSaid : Prop := watchAlarmsRow.holds Try.pinned (OpenSpec.ofChange watchAlarmsSpec)

/-- ITS FALSE NEIGHBOUR: 'it returns false'. Refute it at one input. -/
def watchAlarmsWrong : ChangeSpec := { name := "watchAlarms", fn := fun _ => fun
  | [d1, d2, d3] => { results := [.lit (.bool false)], args := [d1, d2, d3] }
  | _ => none }
def WatchAlarmsWrongFalsely : Prop := watchAlarmsRow.holds Try.pinned (OpenSpec.ofChange watchAlarmsWrong)

/-- 'cherenkovlaw08.WatchBestLine': WHATEVER THE INPUT: true; the input reads as it did. -/
def watchBestLineSpec : ChangeSpec := { name := "watchBestLine", fn := fun _ => fun
  | [d1, d2, d3] => { results := [.lit (.bool true)], args := [d1, d2, d3] }
  | _ => none }
def watchBestLineRow : OpenClaim := { program := "ytaebfjepacnmhaa", sum := "d932b4a389afd689698c0463761687e321a95d748bdd1bcfa3a5853783697b84", func := "cherenkov/cherenkovlaw08.WatchBestLine", spec := "watchBestLine", inPlace := ["math/bits.Add64", "math/bits.Sub64"], unfollowed := true, recurses := true, named := ["math/bits.divideError", "math/bits.overflowError"], apart := false }
def WatchBestLineSaid : Prop := watchBestLineRow.holds Try.pinned (OpenSpec.ofChange watchBestLineSpec)

/-- ITS FALSE NEIGHBOUR: 'it returns false'. Refute it at one input. -/
def watchBestLineWrong : ChangeSpec := { name := "watchBestLine", fn := fun _ => fun
  | [d1, d2, d3] => { results := [.lit (.bool false)], args := [d1, d2, d3] }
  | _ => none }
def WatchBestLineWrongFalsely : Prop := watchBestLineRow.holds Try.pinned (OpenSpec.ofChange watchBestLineWrong)

/- THE SECOND FORM. 'bulk': how many values and letters a reading holds, each counted each time it is reached (what is shared counts as often as it is met; a slice's spare places count too). A statement '..UptoSaid' is the law's where the arguments, and the package variables that the reading takes, are together of bulk at most 1048576: NARROWER than '..Said'. Prove '..Said' where nothing that the law and all that it calls make is longer than what came in: it says more and counts as full. Else prove '..UptoSaid'. A law counts once. -/
mutual
def uptoBulk {H : Type} : DataW H → Nat
  | .lit (.string bytes) => bytes.length + 1
  | .lit _ => 1
  | .nil => 1
  | .ptr d => uptoBulk d + 1
  | .slice elems spare => uptoBulkAll elems + uptoBulkAll spare + 1
  | .agg parts => uptoBulkAll parts + 1
  | .iface _ d => uptoBulk d + 1
  | .map entries => uptoBulkEntries entries + 1
  | .held _ => 1
def uptoBulkAll {H : Type} : List (DataW H) → Nat
  | [] => 0
  | d :: r => uptoBulk d + uptoBulkAll r
def uptoBulkEntries {H : Type} : List (Lit × DataW H) → Nat
  | [] => 0
  | x :: r => uptoBulkEntry x + uptoBulkEntries r
def uptoBulkEntry {H : Type} : Lit × DataW H → Nat
  | (.string bytes, d) => bytes.length + uptoBulk d + 1
  | (_, d) => uptoBulk d + 1
 end
def uptoSmall : (H : Type) → List (DataW H) → Bool := fun _ ds => decide (uptoBulkAll ds ≤ 1048576)
def OpenSpec.upto (s : _root_.Go.ChangeSpec) : _root_.Go.OpenSpec := { _root_.Go.OpenSpec.ofChange s with cond := some uptoSmall }

/-- 'cherenkovlaw08.WatchCounted', WHERE WHAT IT READS IS OF BULK AT MOST 1048576: true; the input reads as it did. -/
def watchCountedUptoRow : OpenClaim := { program := "ytaebfjepacnmhaa", sum := "d932b4a389afd689698c0463761687e321a95d748bdd1bcfa3a5853783697b84", func := "cherenkov/cherenkovlaw08.WatchCounted", spec := "watchCounted", unfollowed := true, recurses := true, apart := false, narrowed := true }
def WatchCountedUptoSaid : Prop := watchCountedUptoRow.holds Try.pinned (OpenSpec.upto watchCountedSpec)

/-- 'cherenkovlaw08.WatchDead', WHERE WHAT IT READS IS OF BULK AT MOST 1048576: true; the input reads as it did. -/
def watchDeadUptoRow : OpenClaim := { program := "ytaebfjepacnmhaa", sum := "d932b4a389afd689698c0463761687e321a95d748bdd1bcfa3a5853783697b84", func := "cherenkov/cherenkovlaw08.WatchDead", spec := "watchDead", unfollowed := true, recurses := true, apart := false, narrowed := true }
def WatchDeadUptoSaid : Prop := watchDeadUptoRow.holds Try.pinned (OpenSpec.upto watchDeadSpec)

/-- 'cherenkovlaw08.WatchOneRise', WHERE WHAT IT READS IS OF BULK AT MOST 1048576: true; the input reads as it did. -/
def watchOneRiseUptoRow : OpenClaim := { program := "ytaebfjepacnmhaa", sum := "d932b4a389afd689698c0463761687e321a95d748bdd1bcfa3a5853783697b84", func := "cherenkov/cherenkovlaw08.WatchOneRise", spec := "watchOneRise", unfollowed := true, recurses := true, apart := false, narrowed := true }
def WatchOneRiseUptoSaid : Prop := watchOneRiseUptoRow.holds Try.pinned (OpenSpec.upto watchOneRiseSpec)

/-- 'cherenkovlaw08.WatchRings', WHERE WHAT IT READS IS OF BULK AT MOST 1048576: true; the input reads as it did. -/
def watchRingsUptoRow : OpenClaim := { program := "ytaebfjepacnmhaa", sum := "d932b4a389afd689698c0463761687e321a95d748bdd1bcfa3a5853783697b84", func := "cherenkov/cherenkovlaw08.WatchRings", spec := "watchRings", unfollowed := true, recurses := true, apart := false, narrowed := true }
def WatchRingsUptoSaid : Prop := watchRingsUptoRow.holds Try.pinned (OpenSpec.upto watchRingsSpec)

/-- 'cherenkovlaw08.WatchNothingLost', WHERE WHAT IT READS IS OF BULK AT MOST 1048576: true; the input reads as it did. -/
def watchNothingLostUptoRow : OpenClaim := { program := "ytaebfjepacnmhaa", sum := "d932b4a389afd689698c0463761687e321a95d748bdd1bcfa3a5853783697b84", func := "cherenkov/cherenkovlaw08.WatchNothingLost", spec := "watchNothingLost", unfollowed := true, recurses := true, apart := false, narrowed := true }
def WatchNothingLostUptoSaid : Prop := watchNothingLostUptoRow.holds Try.pinned (OpenSpec.upto watchNothingLostSpec)

/-- 'cherenkovlaw08.WatchSkies', WHERE WHAT IT READS IS OF BULK AT MOST 1048576: true; the input reads as it did. -/
def watchSkiesUptoRow : OpenClaim := { program := "ytaebfjepacnmhaa", sum := "d932b4a389afd689698c0463761687e321a95d748bdd1bcfa3a5853783697b84", func := "cherenkov/cherenkovlaw08.WatchSkies", spec := "watchSkies", unfollowed := true, recurses := true, apart := false, narrowed := true }
def WatchSkiesUptoSaid : Prop := watchSkiesUptoRow.holds Try.pinned (OpenSpec.upto watchSkiesSpec)

/-- 'cherenkovlaw08.WatchRises', WHERE WHAT IT READS IS OF BULK AT MOST 1048576: true; the input reads as it did. -/
def watchRisesUptoRow : OpenClaim := { program := "ytaebfjepacnmhaa", sum := "d932b4a389afd689698c0463761687e321a95d748bdd1bcfa3a5853783697b84", func := "cherenkov/cherenkovlaw08.WatchRises", spec := "watchRises", unfollowed := true, recurses := true, apart := false, narrowed := true }
def WatchRisesUptoSaid : Prop := watchRisesUptoRow.holds Try.pinned (OpenSpec.upto watchRisesSpec)

/-- 'cherenkovlaw08.WatchNeverMissed', WHERE WHAT IT READS IS OF BULK AT MOST 1048576: true; the input reads as it did. -/
def watchNeverMissedUptoRow : OpenClaim := { program := "ytaebfjepacnmhaa", sum := "d932b4a389afd689698c0463761687e321a95d748bdd1bcfa3a5853783697b84", func := "cherenkov/cherenkovlaw08.WatchNeverMissed", spec := "watchNeverMissed", unfollowed := true, recurses := true, apart := false, narrowed := true }
def WatchNeverMissedUptoSaid : Prop := watchNeverMissedUptoRow.holds Try.pinned (OpenSpec.upto watchNeverMissedSpec)

/-- 'cherenkovtop.TopWatchFalseAlarms', WHERE WHAT IT READS IS OF BULK AT MOST 1048576: true; the input reads as it did. -/
def topWatchFalseAlarmsUptoRow : OpenClaim := { program := "ytaebfjepacnmhaa", sum := "d932b4a389afd689698c0463761687e321a95d748bdd1bcfa3a5853783697b84", func := "cherenkov/cherenkovtop.TopWatchFalseAlarms", spec := "topWatchFalseAlarms", unfollowed := true, recurses := true, apart := false, narrowed := true }
def TopWatchFalseAlarmsUptoSaid : Prop := topWatchFalseAlarmsUptoRow.holds Try.pinned (OpenSpec.upto topWatchFalseAlarmsSpec)

/-- 'cherenkovlaw08.WatchAlarms', WHERE WHAT IT READS IS OF BULK AT MOST 1048576: true; the input reads as it did. -/
def watchAlarmsUptoRow : OpenClaim := { program := "ytaebfjepacnmhaa", sum := "d932b4a389afd689698c0463761687e321a95d748bdd1bcfa3a5853783697b84", func := "cherenkov/cherenkovlaw08.WatchAlarms", spec := "watchAlarms", unfollowed := true, recurses := true, apart := false, narrowed := true }
def WatchAlarmsUptoSaid : Prop := watchAlarmsUptoRow.holds Try.pinned (OpenSpec.upto watchAlarmsSpec)

/-- 'cherenkovlaw08.WatchBestLine', WHERE WHAT IT READS IS OF BULK AT MOST 1048576: true; the input reads as it did. -/
def watchBestLineUptoRow : OpenClaim := { program := "ytaebfjepacnmhaa", sum := "d932b4a389afd689698c0463761687e321a95d748bdd1bcfa3a5853783697b84", func := "cherenkov/cherenkovlaw08.WatchBestLine", spec := "watchBestLine", inPlace := ["math/bits.Add64", "math/bits.Sub64"], unfollowed := true, recurses := true, named := ["math/bits.divideError", "math/bits.overflowError"], apart := false, narrowed := true }
def WatchBestLineUptoSaid : Prop := watchBestLineUptoRow.holds Try.pinned (OpenSpec.upto watchBestLineSpec)

end Rows
end Go.Proofs.Ytaebfjepacnmhaa
