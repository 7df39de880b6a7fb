/- A part of the proof (made by program out of smaller texts). -/
import Derived.KernelRfl
import Derived.Test.YtkaoplgfhmihpaaGreatDoorKA
set_option maxRecDepth 100000
namespace Go.Ex
open Go
theorem m1 : M1.okK ck1 = true := by kernel_rfl
theorem m2 : M2.okK ck2_2 = true := by kernel_rfl
theorem m3 : M3.okK ck1 = true := by kernel_rfl
theorem m4 : M4.okK ck1 = true := by kernel_rfl
end Go.Ex
