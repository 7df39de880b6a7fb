/- A world in which what the row lists lies as it should: closed facts. -/
import Derived.Test.YtkaoplgfhmihpaaGreatDoorRows
import Derived.Lay
import Derived.LaidLaws
import Derived.LaidHandle
import Derived.MakeChecks
import Derived.KernelRfl
set_option linter.all false
set_option maxRecDepth 100000
namespace Go.Proofs.YtkaoplgfhmihpaaGreatDoor
open Go
abbrev lst : List (String × DataW Unit) := Rows.auditTimersRow.laid
theorem plainLaid (w : World) : laidMetH Tryz.prog lst w = laidMet Tryz.prog lst w := MakeChecks.laidMetH_plain _ _ _ (by kernel_rfl)
theorem w1a (os : Os) : ((World.laidAll Tryz.prog os lst).forCall (fun _ _ => 0) ⟨#[], #[.slice none 0 0], []⟩).variablesZipB Tryz.checked.prog = true := by kernel_rfl
theorem w1b (os : Os) : (((World.laidAll Tryz.prog os lst).forCall (fun _ _ => 0) ⟨#[], #[.slice none 0 0], []⟩).heap.toList.drop Tryz.checked.prog.globals.size).take ((begin Tryz.checked.prog (fun _ _ => 0) default).world.heap.size - Tryz.checked.prog.globals.size) =
      (begin Tryz.checked.prog (fun _ _ => 0) default).world.heap.toList.drop Tryz.checked.prog.globals.size := by kernel_rfl
theorem w1 (os : Os) : ((World.laidAll Tryz.prog os lst).forCall (fun _ _ => 0) ⟨#[], #[.slice none 0 0], []⟩).Shaped Tryz.checked.prog := World.shaped_of_ZipB (w1a os) (w1b os)
theorem w2 (os : Os) : Input.okWideB Tryz.checked.prog ((World.laidAll Tryz.prog os lst).forCall (fun _ _ => 0) ⟨#[], #[.slice none 0 0], []⟩) 3 ⟨#[], #[.slice none 0 0], []⟩ = true := by kernel_rfl
theorem w5a (os : Os) : (World.holding Tryz.prog os ⟨#[], #[], []⟩).layFits Tryz.prog lst [] = true := by kernel_rfl
theorem w5b (os : Os) : (World.holding Tryz.prog os ⟨#[], #[], []⟩).layIfaces Tryz.prog lst (World.laidAll Tryz.prog os lst) = true := by kernel_rfl
theorem w5 (os : Os) : laidMetH Tryz.prog lst ((World.laidAll Tryz.prog os lst).forCall (fun _ _ => 0) ⟨#[], #[.slice none 0 0], []⟩).memory := by
  rw [plainLaid]; exact laidMet_laidAll _ (w5a os) (w5b os)
end Go.Proofs.YtkaoplgfhmihpaaGreatDoor
