/- A part of the proof (made by program out of smaller texts). -/
import Derived.KernelRfl
import Derived.Test.YtkaoplgfhmihpaaGreatDoorKA
set_option maxRecDepth 100000
namespace Go.Ex
open Go
theorem p13 : P13.okK ck0 = true := by kernel_rfl
theorem p14 : P14.okK ck0 = true := by kernel_rfl
theorem p15 : P15.okK ck0 = true := by kernel_rfl
theorem p16 : P16.okK ck0 = true := by kernel_rfl
end Go.Ex
