/- A part of the proof (made by program out of smaller texts). -/
import Derived.KernelRfl
import Derived.Test.YtkaoplgfhmihpaaGreatDoorKA
set_option maxRecDepth 100000
namespace Go.Ex
open Go
theorem m34 : M34.okK ck1 = true := by kernel_rfl
theorem m35 : M35.okK ck1 = true := by kernel_rfl
theorem m36 : M36.okK ck1 = true := by kernel_rfl
theorem m37 : M37.okK ck1 = true := by kernel_rfl
end Go.Ex
