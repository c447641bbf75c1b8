/- The code of the functions,in parts. By an AI agent;nothing here is trusted. -/
import Derived.Test.YtpaklfjlbocfcaaGreatDoorKodeA
import Derived.Test.YtpaklfjlbocfcaaGreatDoorKodeB
import Derived.Test.YtpaklfjlbocfcaaGreatDoorKodeC
