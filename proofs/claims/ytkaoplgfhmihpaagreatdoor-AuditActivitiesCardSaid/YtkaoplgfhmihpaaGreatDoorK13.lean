/- A part of the proof (made by program out of smaller texts). -/
import Derived.KernelRfl
import Derived.Test.YtkaoplgfhmihpaaGreatDoorKA
set_option maxRecDepth 100000
namespace Go.Ex
open Go
theorem p9 : P9.okK ck0 = true := by kernel_rfl
theorem p10 : P10.okK ck0 = true := by kernel_rfl
theorem p11 : P11.okK ck0 = true := by kernel_rfl
theorem p12 : P12.okK ck0 = true := by kernel_rfl
end Go.Ex
