/- The code of the functions,compiled by the abstract layer;printed by a program. By an AI agent;nothing here is trusted. -/
import Derived.Test.YtpaklfjlbocfcaaGreatDoorLayA
import Derived.Test.YtpaklfjlbocfcaaGreatDoorLayB
import Derived.Test.YtpaklfjlbocfcaaGreatDoorProg
namespace Go.Proofs.YtpaklfjlbocfcaaGreatDoor
open Go.Av

end Go.Proofs.YtpaklfjlbocfcaaGreatDoor
