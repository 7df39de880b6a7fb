/- A part of the proof (made by program out of smaller texts). -/
import Derived.KernelRfl
import Derived.Test.YtkaoplgfhmihpaaGreatDoorKA
set_option maxRecDepth 100000
namespace Go.Ex
open Go
theorem p1 : P1.okK ck0 = true := by kernel_rfl
theorem p2 : P2.okK ck0 = true := by kernel_rfl
theorem p3 : P3.okK ck0 = true := by kernel_rfl
theorem p4 : P4.okK ck0 = true := by kernel_rfl
end Go.Ex
