/- The code of the functions,in parts. By an AI agent;nothing here is trusted. -/
import Derived.Test.YtoiajhogondgcaaDoorKodeA
