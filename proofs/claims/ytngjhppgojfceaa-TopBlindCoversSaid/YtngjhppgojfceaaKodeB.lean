/- The code of the functions, compiled by the abstract layer; printed by a program. By an AI agent; nothing here is trusted. -/
import Derived.Test.YtngjhppgojfceaaLayA
import Derived.Test.YtngjhppgojfceaaLayB
import Derived.Test.YtngjhppgojfceaaProg
namespace Go.Proofs.Ytngjhppgojfceaa
open Go.Av

/- slices.IndexFunc[[]cherenkov.api.BlindCut,cherenkov.api.BlindCut] -/
def c_slices_IndexFunc_api_BlindCut_api_BlindCut_1 : MC := (.seq (.reg [⟨none, (some 4), (.mv (.c (.int .i64 0)))⟩] false []) (.seq (.seq (.reg [⟨none, (some 6), (.mv (.t 0))⟩, ⟨none, (some 7), (.len false (.t 6))⟩, ⟨none, (some 8), (.mv (.c (.int .i64 0)))⟩] false []) (.block 0 (.loop (.seq (.reg [⟨none, (some 9), (.bin .lss (.t 8) (.t 7))⟩] false []) (.seq (.cond (.t 9) .skip (.exit 0)) (.seq (.block 1 (.seq (.reg [⟨none, (some 10), (.mv (.t 8))⟩, ⟨none, (some 5), (.mv (.t 10))⟩] false []) (.seq (.reg [⟨none, (some 11), (.mv (.t 1))⟩, ⟨none, (some 12), (.mv (.t 0))⟩, ⟨none, (some 13), (.mv (.t 5))⟩, ⟨none, (some 14), (.indexAddr (.t 12) (.t 13) 3)⟩, ⟨none, (some 15), (.load (some 3) (.t 14))⟩, ⟨none, (some 16), (.callv (.t 11) [(.t 15)])⟩] false []) (.cond (.t 16) (.seq (.reg [⟨none, (some 17), (.mv (.t 5))⟩, ⟨none, (some 4), (.mv (.t 17))⟩] false []) .ret) .skip)))) (.reg [⟨none, (some 18), (.bin .add (.t 8) (.c (.int .i64 1)))⟩, ⟨none, (some 8), (.mv (.t 18))⟩] false []))))))) (.seq (.reg [⟨none, (some 4), (.mv (.c (.int .i64 (-1))))⟩] false []) .ret)))
theorem f_slices_IndexFunc_api_BlindCut_api_BlindCut_1 : cFun Try.prog 136 = some (19, 2, c_slices_IndexFunc_api_BlindCut_api_BlindCut_1, [(4, none)]) := by kernel_rfl
end Go.Proofs.Ytngjhppgojfceaa
