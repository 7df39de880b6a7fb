/- A part of the proof (made by program out of smaller texts). -/
import Derived.KernelRfl
import Derived.Test.YtkaoplgfhmihpaaGreatDoorKA
set_option maxRecDepth 100000
namespace Go.Ex
open Go
theorem m21 : M21.okK ck1 = true := by kernel_rfl
theorem m22 : M22.okK ck1 = true := by kernel_rfl
theorem m23 : M23.okK ck1 = true := by kernel_rfl
theorem m24 : M24.okK ck1 = true := by kernel_rfl
end Go.Ex
