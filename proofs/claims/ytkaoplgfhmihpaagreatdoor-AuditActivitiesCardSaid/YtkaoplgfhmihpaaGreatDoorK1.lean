/- A part of the proof (made by program out of smaller texts). -/
import Derived.KernelRfl
import Derived.Test.YtkaoplgfhmihpaaGreatDoorKA
set_option maxRecDepth 100000
namespace Go.Ex
open Go
theorem m5 : M5.okK ck1 = true := by kernel_rfl
theorem m6 : M6.okK ck2_6 = true := by kernel_rfl
theorem m7 : M7.okK ck1 = true := by kernel_rfl
theorem m8 : M8.okK ck1 = true := by kernel_rfl
end Go.Ex
