/- Closed facts on the program, in parts: what its types are. -/
import Derived.Test.YtkaoplgfhmihpaaGreatDoorRows
import Derived.JoinedOf
import Derived.KernelRfl
set_option linter.all false
set_option maxRecDepth 100000
namespace Go.Proofs.YtkaoplgfhmihpaaGreatDoor
open Go
theorem all_of_part {p : Nat → Bool} {a k : Nat} (h : (List.range' a k).all p = true) {t : Nat} (h1 : a ≤ t) (h2 : t < a + k) : p t = true :=
  List.all_eq_true.1 h t (List.mem_range'_1.2 ⟨h1, h2⟩)
theorem nTypes : Tryz.prog.types.size = 753 := by kernel_rfl
theorem rows0 : (List.range' 0 64).all (rowFine Tryz.prog) = true := by kernel_rfl
theorem rows1 : (List.range' 64 64).all (rowFine Tryz.prog) = true := by kernel_rfl
theorem rows2 : (List.range' 128 64).all (rowFine Tryz.prog) = true := by kernel_rfl
theorem rows3 : (List.range' 192 64).all (rowFine Tryz.prog) = true := by kernel_rfl
theorem rows4 : (List.range' 256 64).all (rowFine Tryz.prog) = true := by kernel_rfl
theorem rows5 : (List.range' 320 64).all (rowFine Tryz.prog) = true := by kernel_rfl
theorem rows6 : (List.range' 384 64).all (rowFine Tryz.prog) = true := by kernel_rfl
theorem rows7 : (List.range' 448 64).all (rowFine Tryz.prog) = true := by kernel_rfl
theorem rows8 : (List.range' 512 64).all (rowFine Tryz.prog) = true := by kernel_rfl
theorem rows9 : (List.range' 576 64).all (rowFine Tryz.prog) = true := by kernel_rfl
theorem rows10 : (List.range' 640 64).all (rowFine Tryz.prog) = true := by kernel_rfl
theorem rows11 : (List.range' 704 49).all (rowFine Tryz.prog) = true := by kernel_rfl
theorem rowsFine : (List.range Tryz.prog.types.size).all (rowFine Tryz.prog) = true := by
  rw [List.all_eq_true]
  intro t ht
  have ht : t < 753 := by rw [nTypes] at ht; simpa using ht
  by_cases h0 : t < 64
  · exact all_of_part rows0 (by omega) h0
  by_cases h1 : t < 128
  · exact all_of_part rows1 (by omega) h1
  by_cases h2 : t < 192
  · exact all_of_part rows2 (by omega) h2
  by_cases h3 : t < 256
  · exact all_of_part rows3 (by omega) h3
  by_cases h4 : t < 320
  · exact all_of_part rows4 (by omega) h4
  by_cases h5 : t < 384
  · exact all_of_part rows5 (by omega) h5
  by_cases h6 : t < 448
  · exact all_of_part rows6 (by omega) h6
  by_cases h7 : t < 512
  · exact all_of_part rows7 (by omega) h7
  by_cases h8 : t < 576
  · exact all_of_part rows8 (by omega) h8
  by_cases h9 : t < 640
  · exact all_of_part rows9 (by omega) h9
  by_cases h10 : t < 704
  · exact all_of_part rows10 (by omega) h10
  exact all_of_part rows11 (by omega) (by omega)
theorem globalsFine : Tryz.prog.globals.all (fun g => decide (g.type < Tryz.prog.types.size)) = true := by kernel_rfl
theorem funcsFine : Tryz.prog.funcs.all (fun f => f.params.all fun t => decide (t < 753)) = true := by kernel_rfl
theorem laidOut : laidOutB Tryz.prog = true := by
  unfold laidOutB
  rw [rowsFine, globalsFine, nTypes, funcsFine]
  rfl
theorem mapsFine : mapsRowed Tryz.prog = true := by kernel_rfl
end Go.Proofs.YtkaoplgfhmihpaaGreatDoor
