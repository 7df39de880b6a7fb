/- A part of the proof (made by program out of smaller texts). -/
import Derived.KernelRfl
import Derived.Test.YtkaoplgfhmihpaaGreatDoorKA
set_option maxRecDepth 100000
namespace Go.Ex
open Go
theorem m13 : M13.okK ck2_13 = true := by kernel_rfl
theorem m14 : M14.okK ck1 = true := by kernel_rfl
theorem m15 : M15.okK ck1 = true := by kernel_rfl
theorem m16 : M16.okK ck1 = true := by kernel_rfl
end Go.Ex
