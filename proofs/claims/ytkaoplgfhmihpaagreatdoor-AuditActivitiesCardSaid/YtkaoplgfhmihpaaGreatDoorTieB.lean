/- What the row lists is what the text of the program lays: the facts one by one. -/
import Derived.Test.YtkaoplgfhmihpaaGreatDoorTieA
set_option linter.all false
set_option maxRecDepth 100000
namespace Go.Proofs.YtkaoplgfhmihpaaGreatDoor
open Go
theorem fitsb : Tryz.pinned.checked.prog.listedFits Rows.auditActivitiesRow.laid = true := by
  unfold Program.listedFits
  rw [noOwnUnsafe]
  kernel_rfl
theorem row_tieb : Rows.auditActivitiesRow.laidByTextAt .later Tryz.pinned [.pinned, .data, .sentinel, .sentinel, .data, .data, .data] true :=
  OpenClaim.laidByTextAt_pinned rfl rfl tie rfl rfl rfl rfl (fun y hy e => by
    simp only [Rows.auditActivitiesRow, List.zip_cons_cons, List.zip_nil_right, List.mem_cons, List.mem_nil_iff, or_false] at hy
    rcases hy with rfl | rfl | rfl | rfl | rfl | rfl | rfl
    · exact ⟨pinFits, pinDatum⟩
    · cases e
    · cases e
    · cases e
    · cases e
    · cases e
    · cases e) fitsb
end Go.Proofs.YtkaoplgfhmihpaaGreatDoor
