/- A part of the proof (made by program out of smaller texts). -/
import Derived.KernelRfl
import Derived.Test.YtkaoplgfhmihpaaGreatDoorProg
import Derived.Test.YtkaoplgfhmihpaaGreatDoorKA
import Derived.Test.YtkaoplgfhmihpaaGreatDoorExD
set_option maxRecDepth 100000
namespace Go.Ex
open Go
theorem p17 : P17.okK ck0 = true := by kernel_rfl
end Go.Ex
namespace Go.Ex
open Go Go.Proofs
theorem x31 : (match cvF Tryz.prog Tryz.f493 with
  | some F => M31.ok2 (callN (envOf Tryz.prog L orc1) 100000 60) 100000 F
  | none => false) = true := by kernel_rfl
theorem fin : PMemo.okK ck3 ⟨5, [], .bool true⟩ = true := by kernel_rfl
end Go.Ex
