/- A part of the proof (made by program out of smaller texts). -/
import Derived.KernelRfl
import Derived.Test.YtkaoplgfhmihpaaGreatDoorKA
set_option maxRecDepth 100000
namespace Go.Ex
open Go
theorem m42 : M42.okK ck1 = true := by kernel_rfl
theorem m43 : M43.okK ck1 = true := by kernel_rfl
theorem m44 : M44.okK ck1 = true := by kernel_rfl
theorem p0 : P0.okK ck0 = true := by kernel_rfl
end Go.Ex
