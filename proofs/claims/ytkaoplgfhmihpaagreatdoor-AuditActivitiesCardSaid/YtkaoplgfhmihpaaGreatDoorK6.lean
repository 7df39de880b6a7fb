/- A part of the proof (made by program out of smaller texts). -/
import Derived.KernelRfl
import Derived.Test.YtkaoplgfhmihpaaGreatDoorKA
set_option maxRecDepth 100000
namespace Go.Ex
open Go
theorem m25 : M25.okK ck1 = true := by kernel_rfl
theorem m26 : M26.okK ck2_26 = true := by kernel_rfl
theorem m27 : M27.okK ck1 = true := by kernel_rfl
theorem m28 : M28.okK ck1 = true := by kernel_rfl
end Go.Ex
