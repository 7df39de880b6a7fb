/- A part of the proof (made by program out of smaller texts). -/
import Derived.KernelRfl
import Derived.Test.YtkaoplgfhmihpaaGreatDoorKA
set_option maxRecDepth 100000
namespace Go.Ex
open Go
theorem m29 : M29.okK ck1 = true := by kernel_rfl
theorem m30 : M30.okK ck1_30 = true := by kernel_rfl
theorem m32 : M32.okK ck1 = true := by kernel_rfl
theorem m33 : M33.okK ck1 = true := by kernel_rfl
end Go.Ex
