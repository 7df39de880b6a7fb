/- A part of the proof (made by program out of smaller texts). -/
import Derived.KernelRfl
import Derived.Test.YtkaoplgfhmihpaaGreatDoorKA
set_option maxRecDepth 100000
namespace Go.Ex
open Go
theorem m17 : M17.okK ck1 = true := by kernel_rfl
theorem m18 : M18.okK ck1 = true := by kernel_rfl
theorem m19 : M19.okK ck1 = true := by kernel_rfl
theorem m20 : M20.okK ck2_20 = true := by kernel_rfl
end Go.Ex
