/- A part of the proof (made by program out of smaller texts). -/
import Derived.KernelRfl
import Derived.Test.YtkaoplgfhmihpaaGreatDoorKA
set_option maxRecDepth 100000
namespace Go.Ex
open Go
theorem m9 : M9.okK ck1 = true := by kernel_rfl
theorem m10 : M10.okK ck1 = true := by kernel_rfl
theorem m11 : M11.okK ck1 = true := by kernel_rfl
theorem m12 : M12.okK ck1 = true := by kernel_rfl
end Go.Ex
