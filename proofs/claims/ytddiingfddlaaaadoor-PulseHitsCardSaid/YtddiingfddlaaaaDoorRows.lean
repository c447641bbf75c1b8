/-
  NARROWER THAN 'FOR EVERY INPUT', by the rows' own cells (each row's printed sentence says how): PulseDead: laid · PulseGains: laid · PulseUndone: laid · PulseWaves: laid · PulseTimes: laid · PulseCharges: laid · PulseHits: laid · PulseJoined: laid.
  DERIVED. THE GIVEN ROWS OF THIS SEAT. 8 by the template 'for every input the law returns true; each argument reads behind the call as it read before'; 0 by the template 'total and deterministic' (their statements: YtddiingfddlaaaaDoorTotals.lean).
  GIVEN WITH THE SEED: the statements are not yours to turn. If you find one false, say at which input.
  Laid BY PROGRAM, IN A SANDBOX (cutbox-rows.mjs): the forced cells as the released guide's own fill.sh prints them over the translation 7a8e9e1d77d8a4bd… (all of the seat's roots in one cut). By AI agents, Wed Nov 11 2026. No macro, syntax, notation, axiom, sorry.
-/
import Derived.Test.YtddiingfddlaaaaDoorChecked
import GoSem.Claim
import GoSem.ClaimJoined
import GoSem.ClaimMapViews
import Derived.JoinedTies
import Derived.KernelRfl
namespace Go.Proofs.YtddiingfddlaaaaDoor
/- THE CELL 'sum', in the pinned program and in every row, IS THE sha256 OF THE DUMP (.gsa) THAT YtddiingfddlaaaaDoorProg.lean LOADS. Nothing in Lean hashes anything: it is a label: what it is worth is what the hold of that sum in a sandbox is worth. -/
noncomputable def Tryd.pinned : Pinned := { name := "ytddiingfddlaaaadoor", sum := "7a8e9e1d77d8a4bd0193b5bd71be174780d876f7ae7ecba993c4be6de9772028", checked := Tryd.checked }
namespace Rows
def none {H : Type} : Left H := { results := [], args := [] }

/- WHAT THE LISTED PACKAGE-LEVEL VARIABLES READ AS WHEN THE CALL BEGINS. Each datum BY PROGRAM (the guide's laid-datum.mjs) off the statement by which the dump's own 'gosem.cut.vars' lays the variable. In a bare row this is a premise. The card (YtddiingfddlaaaaDoorCards.lean) ties it to the program's text. -/
def laid_math_bits_deBruijn32tab {H : Type} : DataW H := .agg [.lit (.int .u8 0), .lit (.int .u8 1), .lit (.int .u8 28), .lit (.int .u8 2), .lit (.int .u8 29), .lit (.int .u8 14), .lit (.int .u8 24), .lit (.int .u8 3), .lit (.int .u8 30), .lit (.int .u8 22), .lit (.int .u8 20), .lit (.int .u8 15), .lit (.int .u8 25), .lit (.int .u8 17), .lit (.int .u8 4), .lit (.int .u8 8), .lit (.int .u8 31), .lit (.int .u8 27), .lit (.int .u8 13), .lit (.int .u8 23), .lit (.int .u8 21), .lit (.int .u8 19), .lit (.int .u8 16), .lit (.int .u8 7), .lit (.int .u8 26), .lit (.int .u8 12), .lit (.int .u8 18), .lit (.int .u8 6), .lit (.int .u8 11), .lit (.int .u8 5), .lit (.int .u8 10), .lit (.int .u8 9)]
def laid_math_bits_deBruijn64tab {H : Type} : DataW H := .agg [.lit (.int .u8 0), .lit (.int .u8 1), .lit (.int .u8 56), .lit (.int .u8 2), .lit (.int .u8 57), .lit (.int .u8 49), .lit (.int .u8 28), .lit (.int .u8 3), .lit (.int .u8 61), .lit (.int .u8 58), .lit (.int .u8 42), .lit (.int .u8 50), .lit (.int .u8 38), .lit (.int .u8 29), .lit (.int .u8 17), .lit (.int .u8 4), .lit (.int .u8 62), .lit (.int .u8 47), .lit (.int .u8 59), .lit (.int .u8 36), .lit (.int .u8 45), .lit (.int .u8 43), .lit (.int .u8 51), .lit (.int .u8 22), .lit (.int .u8 53), .lit (.int .u8 39), .lit (.int .u8 33), .lit (.int .u8 30), .lit (.int .u8 24), .lit (.int .u8 18), .lit (.int .u8 12), .lit (.int .u8 5), .lit (.int .u8 63), .lit (.int .u8 55), .lit (.int .u8 48), .lit (.int .u8 27), .lit (.int .u8 60), .lit (.int .u8 41), .lit (.int .u8 37), .lit (.int .u8 16), .lit (.int .u8 46), .lit (.int .u8 35), .lit (.int .u8 44), .lit (.int .u8 21), .lit (.int .u8 52), .lit (.int .u8 32), .lit (.int .u8 23), .lit (.int .u8 11), .lit (.int .u8 54), .lit (.int .u8 26), .lit (.int .u8 40), .lit (.int .u8 15), .lit (.int .u8 34), .lit (.int .u8 20), .lit (.int .u8 31), .lit (.int .u8 10), .lit (.int .u8 25), .lit (.int .u8 14), .lit (.int .u8 19), .lit (.int .u8 9), .lit (.int .u8 13), .lit (.int .u8 8), .lit (.int .u8 7), .lit (.int .u8 6)]
def laid_internal_strconv_uint64pow10 {H : Type} : DataW H := .agg [.lit (.int .u64 1), .lit (.int .u64 10), .lit (.int .u64 100), .lit (.int .u64 1000), .lit (.int .u64 10000), .lit (.int .u64 100000), .lit (.int .u64 1000000), .lit (.int .u64 10000000), .lit (.int .u64 100000000), .lit (.int .u64 1000000000), .lit (.int .u64 10000000000), .lit (.int .u64 100000000000), .lit (.int .u64 1000000000000), .lit (.int .u64 10000000000000), .lit (.int .u64 100000000000000), .lit (.int .u64 1000000000000000), .lit (.int .u64 10000000000000000), .lit (.int .u64 100000000000000000), .lit (.int .u64 1000000000000000000), .lit (.int .u64 10000000000000000000)]

/-- 'cherenkovlaw02.PulseDead': WHATEVER THE INPUT: true; the input reads as it did. -/
def pulseDeadSpec : ChangeSpec := { name := "pulseDead", fn := fun _ => fun
  | [d1, d2, d3] => { results := [.lit (.bool true)], args := [d1, d2, d3] }
  | _ => none }
def pulseDeadRow : OpenClaim := { program := "ytddiingfddlaaaadoor", sum := "7a8e9e1d77d8a4bd0193b5bd71be174780d876f7ae7ecba993c4be6de9772028", func := "cherenkov/cherenkovlaw02.PulseDead", spec := "pulseDead", inPlace := ["math/bits.Add64", "math/bits.Sub64"], unfollowed := true, recurses := true, named := ["math/bits.deBruijn32tab", "math/bits.deBruijn64tab", "math/bits.divideError", "math/bits.overflowError", "internal/strconv.uint64pow10"], apart := false, laid := [("math/bits.deBruijn32tab", laid_math_bits_deBruijn32tab), ("math/bits.deBruijn64tab", laid_math_bits_deBruijn64tab), ("internal/strconv.uint64pow10", laid_internal_strconv_uint64pow10)] }
def PulseDeadSaid : Prop := pulseDeadRow.holds Tryd.pinned (OpenSpec.ofChange pulseDeadSpec)

/-- ITS FALSE NEIGHBOUR: 'it returns false'. Refute it at one input. -/
def pulseDeadWrong : ChangeSpec := { name := "pulseDead", fn := fun _ => fun
  | [d1, d2, d3] => { results := [.lit (.bool false)], args := [d1, d2, d3] }
  | _ => none }
def PulseDeadWrongFalsely : Prop := pulseDeadRow.holds Tryd.pinned (OpenSpec.ofChange pulseDeadWrong)

/-- 'cherenkovlaw02.PulseGains': WHATEVER THE INPUT: true; the input reads as it did. -/
def pulseGainsSpec : ChangeSpec := { name := "pulseGains", fn := fun _ => fun
  | [d1, d2] => { results := [.lit (.bool true)], args := [d1, d2] }
  | _ => none }
def pulseGainsRow : OpenClaim := { program := "ytddiingfddlaaaadoor", sum := "7a8e9e1d77d8a4bd0193b5bd71be174780d876f7ae7ecba993c4be6de9772028", func := "cherenkov/cherenkovlaw02.PulseGains", spec := "pulseGains", inPlace := ["math/bits.Add64", "math/bits.Sub64"], unfollowed := true, recurses := true, named := ["math/bits.deBruijn32tab", "math/bits.deBruijn64tab", "math/bits.divideError", "math/bits.overflowError", "internal/strconv.uint64pow10"], apart := false, laid := [("math/bits.deBruijn32tab", laid_math_bits_deBruijn32tab), ("math/bits.deBruijn64tab", laid_math_bits_deBruijn64tab), ("internal/strconv.uint64pow10", laid_internal_strconv_uint64pow10)] }
def PulseGainsSaid : Prop := pulseGainsRow.holds Tryd.pinned (OpenSpec.ofChange pulseGainsSpec)

/-- ITS FALSE NEIGHBOUR: 'it returns false'. Refute it at one input. -/
def pulseGainsWrong : ChangeSpec := { name := "pulseGains", fn := fun _ => fun
  | [d1, d2] => { results := [.lit (.bool false)], args := [d1, d2] }
  | _ => none }
def PulseGainsWrongFalsely : Prop := pulseGainsRow.holds Tryd.pinned (OpenSpec.ofChange pulseGainsWrong)

/-- 'cherenkovlaw02.PulseUndone': WHATEVER THE INPUT: true; the input reads as it did. -/
def pulseUndoneSpec : ChangeSpec := { name := "pulseUndone", fn := fun _ => fun
  | [d1, d2] => { results := [.lit (.bool true)], args := [d1, d2] }
  | _ => none }
def pulseUndoneRow : OpenClaim := { program := "ytddiingfddlaaaadoor", sum := "7a8e9e1d77d8a4bd0193b5bd71be174780d876f7ae7ecba993c4be6de9772028", func := "cherenkov/cherenkovlaw02.PulseUndone", spec := "pulseUndone", inPlace := ["math/bits.Add64", "math/bits.Sub64"], unfollowed := true, recurses := true, named := ["math/bits.deBruijn32tab", "math/bits.deBruijn64tab", "math/bits.divideError", "math/bits.overflowError", "internal/strconv.uint64pow10"], apart := false, laid := [("math/bits.deBruijn32tab", laid_math_bits_deBruijn32tab), ("math/bits.deBruijn64tab", laid_math_bits_deBruijn64tab), ("internal/strconv.uint64pow10", laid_internal_strconv_uint64pow10)] }
def PulseUndoneSaid : Prop := pulseUndoneRow.holds Tryd.pinned (OpenSpec.ofChange pulseUndoneSpec)

/-- ITS FALSE NEIGHBOUR: 'it returns false'. Refute it at one input. -/
def pulseUndoneWrong : ChangeSpec := { name := "pulseUndone", fn := fun _ => fun
  | [d1, d2] => { results := [.lit (.bool false)], args := [d1, d2] }
  | _ => none }
def PulseUndoneWrongFalsely : Prop := pulseUndoneRow.holds Tryd.pinned (OpenSpec.ofChange pulseUndoneWrong)

/-- 'cherenkovlaw02.PulseWaves': WHATEVER THE INPUT: true; the input reads as it did. -/
def pulseWavesSpec : ChangeSpec := { name := "pulseWaves", fn := fun _ => fun
  | [d1, d2, d3] => { results := [.lit (.bool true)], args := [d1, d2, d3] }
  | _ => none }
def pulseWavesRow : OpenClaim := { program := "ytddiingfddlaaaadoor", sum := "7a8e9e1d77d8a4bd0193b5bd71be174780d876f7ae7ecba993c4be6de9772028", func := "cherenkov/cherenkovlaw02.PulseWaves", spec := "pulseWaves", inPlace := ["math/bits.Add64", "math/bits.Sub64"], unfollowed := true, recurses := true, named := ["math/bits.deBruijn32tab", "math/bits.deBruijn64tab", "math/bits.divideError", "math/bits.overflowError", "internal/strconv.uint64pow10"], apart := false, laid := [("math/bits.deBruijn32tab", laid_math_bits_deBruijn32tab), ("math/bits.deBruijn64tab", laid_math_bits_deBruijn64tab), ("internal/strconv.uint64pow10", laid_internal_strconv_uint64pow10)] }
def PulseWavesSaid : Prop := pulseWavesRow.holds Tryd.pinned (OpenSpec.ofChange pulseWavesSpec)

/-- ITS FALSE NEIGHBOUR: 'it returns false'. Refute it at one input. -/
def pulseWavesWrong : ChangeSpec := { name := "pulseWaves", fn := fun _ => fun
  | [d1, d2, d3] => { results := [.lit (.bool false)], args := [d1, d2, d3] }
  | _ => none }
def PulseWavesWrongFalsely : Prop := pulseWavesRow.holds Tryd.pinned (OpenSpec.ofChange pulseWavesWrong)

/-- 'cherenkovlaw02.PulseTimes': WHATEVER THE INPUT: true; the input reads as it did. -/
def pulseTimesSpec : ChangeSpec := { name := "pulseTimes", fn := fun _ => fun
  | [d1, d2, d3] => { results := [.lit (.bool true)], args := [d1, d2, d3] }
  | _ => none }
def pulseTimesRow : OpenClaim := { program := "ytddiingfddlaaaadoor", sum := "7a8e9e1d77d8a4bd0193b5bd71be174780d876f7ae7ecba993c4be6de9772028", func := "cherenkov/cherenkovlaw02.PulseTimes", spec := "pulseTimes", inPlace := ["math/bits.Add64", "math/bits.Sub64"], unfollowed := true, recurses := true, named := ["math/bits.deBruijn32tab", "math/bits.deBruijn64tab", "math/bits.divideError", "math/bits.overflowError", "internal/strconv.uint64pow10"], apart := false, laid := [("math/bits.deBruijn32tab", laid_math_bits_deBruijn32tab), ("math/bits.deBruijn64tab", laid_math_bits_deBruijn64tab), ("internal/strconv.uint64pow10", laid_internal_strconv_uint64pow10)] }
def PulseTimesSaid : Prop := pulseTimesRow.holds Tryd.pinned (OpenSpec.ofChange pulseTimesSpec)

/-- ITS FALSE NEIGHBOUR: 'it returns false'. Refute it at one input. -/
def pulseTimesWrong : ChangeSpec := { name := "pulseTimes", fn := fun _ => fun
  | [d1, d2, d3] => { results := [.lit (.bool false)], args := [d1, d2, d3] }
  | _ => none }
def PulseTimesWrongFalsely : Prop := pulseTimesRow.holds Tryd.pinned (OpenSpec.ofChange pulseTimesWrong)

/-- 'cherenkovlaw02.PulseCharges': WHATEVER THE INPUT: true; the input reads as it did. -/
def pulseChargesSpec : ChangeSpec := { name := "pulseCharges", fn := fun _ => fun
  | [d1, d2] => { results := [.lit (.bool true)], args := [d1, d2] }
  | _ => none }
def pulseChargesRow : OpenClaim := { program := "ytddiingfddlaaaadoor", sum := "7a8e9e1d77d8a4bd0193b5bd71be174780d876f7ae7ecba993c4be6de9772028", func := "cherenkov/cherenkovlaw02.PulseCharges", spec := "pulseCharges", inPlace := ["math/bits.Add64", "math/bits.Sub64"], unfollowed := true, recurses := true, named := ["math/bits.deBruijn32tab", "math/bits.deBruijn64tab", "math/bits.divideError", "math/bits.overflowError", "internal/strconv.uint64pow10"], apart := false, laid := [("math/bits.deBruijn32tab", laid_math_bits_deBruijn32tab), ("math/bits.deBruijn64tab", laid_math_bits_deBruijn64tab), ("internal/strconv.uint64pow10", laid_internal_strconv_uint64pow10)] }
def PulseChargesSaid : Prop := pulseChargesRow.holds Tryd.pinned (OpenSpec.ofChange pulseChargesSpec)

/-- ITS FALSE NEIGHBOUR: 'it returns false'. Refute it at one input. -/
def pulseChargesWrong : ChangeSpec := { name := "pulseCharges", fn := fun _ => fun
  | [d1, d2] => { results := [.lit (.bool false)], args := [d1, d2] }
  | _ => none }
def PulseChargesWrongFalsely : Prop := pulseChargesRow.holds Tryd.pinned (OpenSpec.ofChange pulseChargesWrong)

/-- 'cherenkovlaw02.PulseHits': WHATEVER THE INPUT: true; the input reads as it did. -/
def pulseHitsSpec : ChangeSpec := { name := "pulseHits", fn := fun _ => fun
  | [d1, d2] => { results := [.lit (.bool true)], args := [d1, d2] }
  | _ => none }
def pulseHitsRow : OpenClaim := { program := "ytddiingfddlaaaadoor", sum := "7a8e9e1d77d8a4bd0193b5bd71be174780d876f7ae7ecba993c4be6de9772028", func := "cherenkov/cherenkovlaw02.PulseHits", spec := "pulseHits", inPlace := ["math/bits.Add64", "math/bits.Sub64"], unfollowed := true, recurses := true, named := ["math/bits.deBruijn32tab", "math/bits.deBruijn64tab", "math/bits.divideError", "math/bits.overflowError", "internal/strconv.uint64pow10"], apart := false, laid := [("math/bits.deBruijn32tab", laid_math_bits_deBruijn32tab), ("math/bits.deBruijn64tab", laid_math_bits_deBruijn64tab), ("internal/strconv.uint64pow10", laid_internal_strconv_uint64pow10)] }
def PulseHitsSaid : Prop := pulseHitsRow.holds Tryd.pinned (OpenSpec.ofChange pulseHitsSpec)

/-- ITS FALSE NEIGHBOUR: 'it returns false'. Refute it at one input. -/
def pulseHitsWrong : ChangeSpec := { name := "pulseHits", fn := fun _ => fun
  | [d1, d2] => { results := [.lit (.bool false)], args := [d1, d2] }
  | _ => none }
def PulseHitsWrongFalsely : Prop := pulseHitsRow.holds Tryd.pinned (OpenSpec.ofChange pulseHitsWrong)

/-- 'cherenkovlaw02.PulseJoined': WHATEVER THE INPUT: true; the input reads as it did. -/
def pulseJoinedSpec : ChangeSpec := { name := "pulseJoined", fn := fun _ => fun
  | [d1, d2, d3] => { results := [.lit (.bool true)], args := [d1, d2, d3] }
  | _ => none }
def pulseJoinedRow : OpenClaim := { program := "ytddiingfddlaaaadoor", sum := "7a8e9e1d77d8a4bd0193b5bd71be174780d876f7ae7ecba993c4be6de9772028", func := "cherenkov/cherenkovlaw02.PulseJoined", spec := "pulseJoined", inPlace := ["math/bits.Add64", "math/bits.Sub64"], unfollowed := true, recurses := true, named := ["math/bits.deBruijn32tab", "math/bits.deBruijn64tab", "math/bits.divideError", "math/bits.overflowError", "internal/strconv.uint64pow10"], apart := false, laid := [("math/bits.deBruijn32tab", laid_math_bits_deBruijn32tab), ("math/bits.deBruijn64tab", laid_math_bits_deBruijn64tab), ("internal/strconv.uint64pow10", laid_internal_strconv_uint64pow10)] }
def PulseJoinedSaid : Prop := pulseJoinedRow.holds Tryd.pinned (OpenSpec.ofChange pulseJoinedSpec)

/-- ITS FALSE NEIGHBOUR: 'it returns false'. Refute it at one input. -/
def pulseJoinedWrong : ChangeSpec := { name := "pulseJoined", fn := fun _ => fun
  | [d1, d2, d3] => { results := [.lit (.bool false)], args := [d1, d2, d3] }
  | _ => none }
def PulseJoinedWrongFalsely : Prop := pulseJoinedRow.holds Tryd.pinned (OpenSpec.ofChange pulseJoinedWrong)

/- THE SECOND FORM. 'bulk': how many values and letters a reading holds, each counted each time it is reached (what is shared counts as often as it is met; a slice's spare places count too). A statement '..UptoSaid' is the law's where the arguments, and the package variables that the reading takes, are together of bulk at most 1048576: NARROWER than '..Said'. Prove '..Said' where nothing that the law and all that it calls make is longer than what came in: it says more and counts as full. Else prove '..UptoSaid'. A law counts once. -/
mutual
def uptoBulk {H : Type} : DataW H → Nat
  | .lit (.string bytes) => bytes.length + 1
  | .lit _ => 1
  | .nil => 1
  | .ptr d => uptoBulk d + 1
  | .slice elems spare => uptoBulkAll elems + uptoBulkAll spare + 1
  | .agg parts => uptoBulkAll parts + 1
  | .iface _ d => uptoBulk d + 1
  | .map entries => uptoBulkEntries entries + 1
  | .held _ => 1
def uptoBulkAll {H : Type} : List (DataW H) → Nat
  | [] => 0
  | d :: r => uptoBulk d + uptoBulkAll r
def uptoBulkEntries {H : Type} : List (Lit × DataW H) → Nat
  | [] => 0
  | x :: r => uptoBulkEntry x + uptoBulkEntries r
def uptoBulkEntry {H : Type} : Lit × DataW H → Nat
  | (.string bytes, d) => bytes.length + uptoBulk d + 1
  | (_, d) => uptoBulk d + 1
 end
def uptoSmall : (H : Type) → List (DataW H) → Bool := fun _ ds => decide (uptoBulkAll ds ≤ 1048576)
def OpenSpec.upto (s : _root_.Go.ChangeSpec) : _root_.Go.OpenSpec := { _root_.Go.OpenSpec.ofChange s with cond := some uptoSmall }

/-- 'cherenkovlaw02.PulseDead', WHERE WHAT IT READS IS OF BULK AT MOST 1048576: true; the input reads as it did. -/
def pulseDeadUptoRow : OpenClaim := { program := "ytddiingfddlaaaadoor", sum := "7a8e9e1d77d8a4bd0193b5bd71be174780d876f7ae7ecba993c4be6de9772028", func := "cherenkov/cherenkovlaw02.PulseDead", spec := "pulseDead", inPlace := ["math/bits.Add64", "math/bits.Sub64"], unfollowed := true, recurses := true, named := ["math/bits.deBruijn32tab", "math/bits.deBruijn64tab", "math/bits.divideError", "math/bits.overflowError", "internal/strconv.uint64pow10"], apart := false, laid := [("math/bits.deBruijn32tab", laid_math_bits_deBruijn32tab), ("math/bits.deBruijn64tab", laid_math_bits_deBruijn64tab), ("internal/strconv.uint64pow10", laid_internal_strconv_uint64pow10)], narrowed := true }
def PulseDeadUptoSaid : Prop := pulseDeadUptoRow.holds Tryd.pinned (OpenSpec.upto pulseDeadSpec)

/-- 'cherenkovlaw02.PulseGains', WHERE WHAT IT READS IS OF BULK AT MOST 1048576: true; the input reads as it did. -/
def pulseGainsUptoRow : OpenClaim := { program := "ytddiingfddlaaaadoor", sum := "7a8e9e1d77d8a4bd0193b5bd71be174780d876f7ae7ecba993c4be6de9772028", func := "cherenkov/cherenkovlaw02.PulseGains", spec := "pulseGains", inPlace := ["math/bits.Add64", "math/bits.Sub64"], unfollowed := true, recurses := true, named := ["math/bits.deBruijn32tab", "math/bits.deBruijn64tab", "math/bits.divideError", "math/bits.overflowError", "internal/strconv.uint64pow10"], apart := false, laid := [("math/bits.deBruijn32tab", laid_math_bits_deBruijn32tab), ("math/bits.deBruijn64tab", laid_math_bits_deBruijn64tab), ("internal/strconv.uint64pow10", laid_internal_strconv_uint64pow10)], narrowed := true }
def PulseGainsUptoSaid : Prop := pulseGainsUptoRow.holds Tryd.pinned (OpenSpec.upto pulseGainsSpec)

/-- 'cherenkovlaw02.PulseUndone', WHERE WHAT IT READS IS OF BULK AT MOST 1048576: true; the input reads as it did. -/
def pulseUndoneUptoRow : OpenClaim := { program := "ytddiingfddlaaaadoor", sum := "7a8e9e1d77d8a4bd0193b5bd71be174780d876f7ae7ecba993c4be6de9772028", func := "cherenkov/cherenkovlaw02.PulseUndone", spec := "pulseUndone", inPlace := ["math/bits.Add64", "math/bits.Sub64"], unfollowed := true, recurses := true, named := ["math/bits.deBruijn32tab", "math/bits.deBruijn64tab", "math/bits.divideError", "math/bits.overflowError", "internal/strconv.uint64pow10"], apart := false, laid := [("math/bits.deBruijn32tab", laid_math_bits_deBruijn32tab), ("math/bits.deBruijn64tab", laid_math_bits_deBruijn64tab), ("internal/strconv.uint64pow10", laid_internal_strconv_uint64pow10)], narrowed := true }
def PulseUndoneUptoSaid : Prop := pulseUndoneUptoRow.holds Tryd.pinned (OpenSpec.upto pulseUndoneSpec)

/-- 'cherenkovlaw02.PulseWaves', WHERE WHAT IT READS IS OF BULK AT MOST 1048576: true; the input reads as it did. -/
def pulseWavesUptoRow : OpenClaim := { program := "ytddiingfddlaaaadoor", sum := "7a8e9e1d77d8a4bd0193b5bd71be174780d876f7ae7ecba993c4be6de9772028", func := "cherenkov/cherenkovlaw02.PulseWaves", spec := "pulseWaves", inPlace := ["math/bits.Add64", "math/bits.Sub64"], unfollowed := true, recurses := true, named := ["math/bits.deBruijn32tab", "math/bits.deBruijn64tab", "math/bits.divideError", "math/bits.overflowError", "internal/strconv.uint64pow10"], apart := false, laid := [("math/bits.deBruijn32tab", laid_math_bits_deBruijn32tab), ("math/bits.deBruijn64tab", laid_math_bits_deBruijn64tab), ("internal/strconv.uint64pow10", laid_internal_strconv_uint64pow10)], narrowed := true }
def PulseWavesUptoSaid : Prop := pulseWavesUptoRow.holds Tryd.pinned (OpenSpec.upto pulseWavesSpec)

/-- 'cherenkovlaw02.PulseTimes', WHERE WHAT IT READS IS OF BULK AT MOST 1048576: true; the input reads as it did. -/
def pulseTimesUptoRow : OpenClaim := { program := "ytddiingfddlaaaadoor", sum := "7a8e9e1d77d8a4bd0193b5bd71be174780d876f7ae7ecba993c4be6de9772028", func := "cherenkov/cherenkovlaw02.PulseTimes", spec := "pulseTimes", inPlace := ["math/bits.Add64", "math/bits.Sub64"], unfollowed := true, recurses := true, named := ["math/bits.deBruijn32tab", "math/bits.deBruijn64tab", "math/bits.divideError", "math/bits.overflowError", "internal/strconv.uint64pow10"], apart := false, laid := [("math/bits.deBruijn32tab", laid_math_bits_deBruijn32tab), ("math/bits.deBruijn64tab", laid_math_bits_deBruijn64tab), ("internal/strconv.uint64pow10", laid_internal_strconv_uint64pow10)], narrowed := true }
def PulseTimesUptoSaid : Prop := pulseTimesUptoRow.holds Tryd.pinned (OpenSpec.upto pulseTimesSpec)

/-- 'cherenkovlaw02.PulseCharges', WHERE WHAT IT READS IS OF BULK AT MOST 1048576: true; the input reads as it did. -/
def pulseChargesUptoRow : OpenClaim := { program := "ytddiingfddlaaaadoor", sum := "7a8e9e1d77d8a4bd0193b5bd71be174780d876f7ae7ecba993c4be6de9772028", func := "cherenkov/cherenkovlaw02.PulseCharges", spec := "pulseCharges", inPlace := ["math/bits.Add64", "math/bits.Sub64"], unfollowed := true, recurses := true, named := ["math/bits.deBruijn32tab", "math/bits.deBruijn64tab", "math/bits.divideError", "math/bits.overflowError", "internal/strconv.uint64pow10"], apart := false, laid := [("math/bits.deBruijn32tab", laid_math_bits_deBruijn32tab), ("math/bits.deBruijn64tab", laid_math_bits_deBruijn64tab), ("internal/strconv.uint64pow10", laid_internal_strconv_uint64pow10)], narrowed := true }
def PulseChargesUptoSaid : Prop := pulseChargesUptoRow.holds Tryd.pinned (OpenSpec.upto pulseChargesSpec)

/-- 'cherenkovlaw02.PulseHits', WHERE WHAT IT READS IS OF BULK AT MOST 1048576: true; the input reads as it did. -/
def pulseHitsUptoRow : OpenClaim := { program := "ytddiingfddlaaaadoor", sum := "7a8e9e1d77d8a4bd0193b5bd71be174780d876f7ae7ecba993c4be6de9772028", func := "cherenkov/cherenkovlaw02.PulseHits", spec := "pulseHits", inPlace := ["math/bits.Add64", "math/bits.Sub64"], unfollowed := true, recurses := true, named := ["math/bits.deBruijn32tab", "math/bits.deBruijn64tab", "math/bits.divideError", "math/bits.overflowError", "internal/strconv.uint64pow10"], apart := false, laid := [("math/bits.deBruijn32tab", laid_math_bits_deBruijn32tab), ("math/bits.deBruijn64tab", laid_math_bits_deBruijn64tab), ("internal/strconv.uint64pow10", laid_internal_strconv_uint64pow10)], narrowed := true }
def PulseHitsUptoSaid : Prop := pulseHitsUptoRow.holds Tryd.pinned (OpenSpec.upto pulseHitsSpec)

/-- 'cherenkovlaw02.PulseJoined', WHERE WHAT IT READS IS OF BULK AT MOST 1048576: true; the input reads as it did. -/
def pulseJoinedUptoRow : OpenClaim := { program := "ytddiingfddlaaaadoor", sum := "7a8e9e1d77d8a4bd0193b5bd71be174780d876f7ae7ecba993c4be6de9772028", func := "cherenkov/cherenkovlaw02.PulseJoined", spec := "pulseJoined", inPlace := ["math/bits.Add64", "math/bits.Sub64"], unfollowed := true, recurses := true, named := ["math/bits.deBruijn32tab", "math/bits.deBruijn64tab", "math/bits.divideError", "math/bits.overflowError", "internal/strconv.uint64pow10"], apart := false, laid := [("math/bits.deBruijn32tab", laid_math_bits_deBruijn32tab), ("math/bits.deBruijn64tab", laid_math_bits_deBruijn64tab), ("internal/strconv.uint64pow10", laid_internal_strconv_uint64pow10)], narrowed := true }
def PulseJoinedUptoSaid : Prop := pulseJoinedUptoRow.holds Tryd.pinned (OpenSpec.upto pulseJoinedSpec)

end Rows
end Go.Proofs.YtddiingfddlaaaaDoor
