/- AuditActivities returns true for every list of events; what came in reads as before. No condition. The card: the row, with what it lists tied to the text of the program. -/
import Derived.Test.YtkaoplgfhmihpaaGreatDoorProofB
import Derived.Test.YtkaoplgfhmihpaaGreatDoorTieB
import Derived.Test.YtkaoplgfhmihpaaGreatDoorCards
set_option linter.all false
set_option maxRecDepth 100000
namespace Go.Proofs.YtkaoplgfhmihpaaGreatDoor
theorem d1 : Rows.auditActivitiesRow.wfByText (OpenSpec.ofChange Rows.auditActivitiesSpec) = true := by kernel_rfl
theorem d2 : Tryz.pinned.checked.prog.mainIs = some (true, "c571c448fd457235d59ab20822e74d575776775ad3bdb0d381a73d97c1d43a16".toList) := by kernel_rfl
theorem d3 : true = Tryz.pinned.checked.prog.looks [] := by kernel_rfl
theorem d4 : ([22].all fun u => !Tryz.prog.wantsStandIn u) = true := by kernel_rfl
theorem goesThere : ((Tryz.prog.closure 4).any fun g => (Tryz.prog.funcs[g]?).any Func.goes) = false := by rw [comesTob]; kernel_rfl
theorem goesNowhere : Tryz.prog.funcs.any Func.goes = false := by kernel_rfl
theorem goes : Tryz.prog.goes 4 = false := by
  unfold Program.goes
  rw [goesThere, goesNowhere, Bool.and_false]
  rfl
theorem pinnedProg : Tryz.pinned.checked.prog = Tryz.prog := rfl
theorem named0 : Tryz.prog.funcNamed Rows.auditActivitiesRow.func = some 4 := named
theorem goesFrom : Tryz.prog.goesFrom Rows.auditActivitiesRow.func = false := by
  unfold Program.goesFrom
  rw [named0, Option.any_some, goes]
theorem d5 : false = Rows.auditActivitiesRow.goesBy Tryz.pinned.checked.prog := by
  rw [pinnedProg]
  unfold OpenClaim.goesBy Program.goesAt
  rw [goesFrom]
  rfl
theorem d6 (f : FuncId) (fn : Func) (hf : Tryz.pinned.checked.prog.funcNamed Rows.auditActivitiesRow.func = some f) (hfn : Tryz.pinned.checked.prog.funcs[f]? = some fn) :
    true = Tryz.pinned.checked.prog.looks [] ∧ ∀ (j : Nat) t, fn.params[j]? = some t → Tryz.pinned.checked.prog.wantsStandIn t = false := by
  have e1 : f = 4 := (Option.some.inj (named.symm.trans hf)).symm
  subst e1
  have e2 : fn = Tryz.f4 := (Option.some.inj (Tryz.func4.symm.trans hfn)).symm
  subst e2
  refine ⟨d3, fun j t ht => ?_⟩
  rw [params] at ht
  have hm : t ∈ [22] := by simpa using Array.mem_of_getElem? ht
  have := List.all_eq_true.1 d4 t hm
  exact (show Tryz.prog.wantsStandIn t = false by simpa using this)
theorem card_holds : Rows.AuditActivitiesCardSaid :=
  Claim7.holds_tied_plain_at .later [] [.pinned, .data, .sentinel, .sentinel, .data, .data, .data] true (true, "c571c448fd457235d59ab20822e74d575776775ad3bdb0d381a73d97c1d43a16") true
    row_holds (fun _ h => by cases h) d1 (fun _ h => by cases h) row_tieb rfl ⟨rfl, rfl⟩ d2 rfl d6 d5
end Go.Proofs.YtkaoplgfhmihpaaGreatDoor
