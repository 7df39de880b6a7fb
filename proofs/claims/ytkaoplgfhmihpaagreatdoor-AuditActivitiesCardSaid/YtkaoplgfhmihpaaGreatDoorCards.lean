/-
  DERIVED. GIVEN WITH THE SEED: THE CARDS: each row of YtkaoplgfhmihpaaGreatDoorRows.lean that lists a variable, with what it lists TIED to the program's text (the seventh form; the later family's looks); each row that meets fmt, with fmt's text TOLD by the authors' own Lean function (tested against real Go, not proved from fmt's source: count such statements apart). THE CARD IS WHAT COUNTS. Prove the row's statement (the work); the ties are given (YtkaoplgfhmihpaaGreatDoorTie.lean); close each card by the builder's one call (the guide's Derived/Test/ToyasCard.lean, 'card_holds'). Laid BY PROGRAM, IN A SANDBOX (cutbox-door.mjs). By AI agents, Wed Nov 11 2026. No macro, syntax, notation, axiom, sorry.
-/
import Derived.Test.YtkaoplgfhmihpaaGreatDoorRows
import GoSem.ClaimSeven
namespace Go.Proofs.YtkaoplgfhmihpaaGreatDoor
namespace Rows

/-- THE TIED CARD OF 'foliotlaw28.AuditTimers'. -/
def auditTimersCard : Claim7 := { stood := { row := auditTimersRow, standIns := [], harness := (true, "c571c448fd457235d59ab20822e74d575776775ad3bdb0d381a73d97c1d43a16"), looks := true }, kinds := [], alts := [], laidByText := true, laidKinds := [.pinned, .data, .sentinel, .sentinel, .data, .data, .data], laidTests := true, laidLooks := .later }
def AuditTimersCardSaid : Prop := Claim7.holds Tryz.pinned (.plain (OpenSpec.ofChange auditTimersSpec)) auditTimersCard

/-- THE TIED CARD OF 'foliotlaw28.AuditActivities'. -/
def auditActivitiesCard : Claim7 := { stood := { row := auditActivitiesRow, standIns := [], harness := (true, "c571c448fd457235d59ab20822e74d575776775ad3bdb0d381a73d97c1d43a16"), looks := true }, kinds := [], alts := [], laidByText := true, laidKinds := [.pinned, .data, .sentinel, .sentinel, .data, .data, .data], laidTests := true, laidLooks := .later }
def AuditActivitiesCardSaid : Prop := Claim7.holds Tryz.pinned (.plain (OpenSpec.ofChange auditActivitiesSpec)) auditActivitiesCard

/-- THE SECOND FORM's CARD OF 'foliotlaw28.AuditTimers'. -/
def auditTimersUptoCard : Claim7 := { stood := { row := auditTimersUptoRow, standIns := [], harness := (true, "c571c448fd457235d59ab20822e74d575776775ad3bdb0d381a73d97c1d43a16"), looks := true }, kinds := [], alts := [], laidByText := true, laidKinds := [.pinned, .data, .sentinel, .sentinel, .data, .data, .data], laidTests := true, laidLooks := .later }
def AuditTimersUptoCardSaid : Prop := Claim7.holds Tryz.pinned (.plain (OpenSpec.upto auditTimersSpec)) auditTimersUptoCard

/-- THE SECOND FORM's CARD OF 'foliotlaw28.AuditActivities'. -/
def auditActivitiesUptoCard : Claim7 := { stood := { row := auditActivitiesUptoRow, standIns := [], harness := (true, "c571c448fd457235d59ab20822e74d575776775ad3bdb0d381a73d97c1d43a16"), looks := true }, kinds := [], alts := [], laidByText := true, laidKinds := [.pinned, .data, .sentinel, .sentinel, .data, .data, .data], laidTests := true, laidLooks := .later }
def AuditActivitiesUptoCardSaid : Prop := Claim7.holds Tryz.pinned (.plain (OpenSpec.upto auditActivitiesSpec)) auditActivitiesUptoCard
end Rows
end Go.Proofs.YtkaoplgfhmihpaaGreatDoor
