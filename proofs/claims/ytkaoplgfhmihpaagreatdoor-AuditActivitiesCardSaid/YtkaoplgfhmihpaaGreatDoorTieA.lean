/- What the row lists is what the text of the program lays: the facts one by one. -/
import Derived.Test.YtkaoplgfhmihpaaGreatDoorRows
import Derived.LaidByTextLater
import Derived.SevenTiedAt
set_option linter.all false
set_option maxRecDepth 100000
namespace Go.Proofs.YtkaoplgfhmihpaaGreatDoor
open Go
def others : List (String × DataW Unit) := [("unicode/utf8.acceptRanges", Rows.laid_unicode_utf8_acceptRanges), ("strconv.ErrSyntax", Rows.laid_strconv_ErrSyntax), ("strconv.ErrRange", Rows.laid_strconv_ErrRange), ("internal/strconv.uint64pow10", Rows.laid_internal_strconv_uint64pow10), ("math/bits.deBruijn32tab", Rows.laid_math_bits_deBruijn32tab), ("math/bits.deBruijn64tab", Rows.laid_math_bits_deBruijn64tab)]
def kinds : List LaidKind := [.data, .sentinel, .sentinel, .data, .data, .data]
theorem c1 : Tryz.prog.worded (varsWordLater true) = true := by kernel_rfl
theorem c2 : Tryz.prog.worded (varsWordLater !true) = false := by kernel_rfl
theorem c3 : Tryz.prog.worded rootWordLater = true := by kernel_rfl
theorem c4 : others.map (fun x => Tryz.prog.kindOfLater x.1) = kinds.map some := by kernel_rfl
theorem c5 : (Tryz.prog.funcNamed "gosem.cut.vars").isSome = true := by kernel_rfl
theorem c6 : varsNamedLaterB Tryz.prog (varsId Tryz.prog) others = true := by kernel_rfl
theorem c7 (os : Os) (tape : Tape) : varsDone Tryz.prog 400 (varsId Tryz.prog) os tape = true := by kernel_rfl
theorem c8 (os : Os) (tape : Tape) : (DataW.laidRun Tryz.prog (varsWorld Tryz.prog 400 (varsId Tryz.prog) os tape).memory 8 (others.map (·.1))).map (·.1) = some others := by kernel_rfl
theorem c9 (os : Os) (tape : Tape) : (DataW.laidRun Tryz.prog (varsWorld Tryz.prog 400 (varsId Tryz.prog) os tape).memory 8 (others.map (·.1))).map (fun x => decide x.2.Nodup && laidRowsB Tryz.prog (varsWorld Tryz.prog 400 (varsId Tryz.prog) os tape).memory x.2) = some true := by kernel_rfl
theorem c10 : (others.all fun x => x.2.handleName?.isNone) = true := by kernel_rfl
theorem tie : Tryz.prog.laidByTextLater others kinds true := Program.laidByTextLater_by_run 400 8 c1 c2 c3 c4 c5 c6 c7 c8 c9 c10
theorem pinFits : Tryz.pinned.checked.prog.pinnedFits "unicode/utf8.first" = true := by kernel_rfl
theorem pinDatum : Pinned.datum "unicode/utf8.first" = some Rows.laid_unicode_utf8_first := by kernel_rfl
theorem noOwnUnsafe : Tryz.pinned.checked.prog.headLifts.contains "ownunsafe" = false := by kernel_rfl
theorem fits : Tryz.pinned.checked.prog.listedFits Rows.auditTimersRow.laid = true := by
  unfold Program.listedFits
  rw [noOwnUnsafe]
  kernel_rfl
theorem row_tie : Rows.auditTimersRow.laidByTextAt .later Tryz.pinned [.pinned, .data, .sentinel, .sentinel, .data, .data, .data] true :=
  OpenClaim.laidByTextAt_pinned rfl rfl tie rfl rfl rfl rfl (fun y hy e => by
    simp only [Rows.auditTimersRow, List.zip_cons_cons, List.zip_nil_right, List.mem_cons, List.mem_nil_iff, or_false] at hy
    rcases hy with rfl | rfl | rfl | rfl | rfl | rfl | rfl
    · exact ⟨pinFits, pinDatum⟩
    · cases e
    · cases e
    · cases e
    · cases e
    · cases e
    · cases e) fits
end Go.Proofs.YtkaoplgfhmihpaaGreatDoor
