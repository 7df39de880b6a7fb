/- A part of the proof (made by program out of smaller texts). -/
import Derived.KernelRfl
import Derived.Test.YtkaoplgfhmihpaaGreatDoorKA
set_option maxRecDepth 100000
namespace Go.Ex
open Go
theorem m38 : M38.okK ck1 = true := by kernel_rfl
theorem m39 : M39.okK ck1 = true := by kernel_rfl
theorem m40 : M40.okK ck1 = true := by kernel_rfl
theorem m41 : M41.okK ck2_41 = true := by kernel_rfl
end Go.Ex
