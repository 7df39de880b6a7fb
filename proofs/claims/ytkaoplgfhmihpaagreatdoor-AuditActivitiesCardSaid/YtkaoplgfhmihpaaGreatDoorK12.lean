/- A part of the proof (made by program out of smaller texts). -/
import Derived.KernelRfl
import Derived.Test.YtkaoplgfhmihpaaGreatDoorKA
set_option maxRecDepth 100000
namespace Go.Ex
open Go
theorem p5 : P5.okK ck0 = true := by kernel_rfl
theorem p6 : P6.okK ck0 = true := by kernel_rfl
theorem p7 : P7.okK ck0 = true := by kernel_rfl
theorem p8 : P8.okK ck0 = true := by kernel_rfl
end Go.Ex
