/- AuditTimers returns true for every list of events; what came in reads as before. No condition. The proof of the row. -/
import Derived.Test.YtkaoplgfhmihpaaGreatDoorFactA
import Derived.Test.YtkaoplgfhmihpaaGreatDoorFactB
import Derived.Test.YtkaoplgfhmihpaaGreatDoorFactC
import Derived.Test.YtkaoplgfhmihpaaGreatDoorAuZ
import Derived.Carry
import Derived.ProofKit
import Derived.ChangeSame
set_option linter.all false
set_option maxRecDepth 100000
namespace Go.Proofs.YtkaoplgfhmihpaaGreatDoor
open Go.RowKit Go.ChangeShapes Go.WideShapes Go.ChangeAt
theorem own : ownKnob Tryz.prog.godebug = none := by kernel_rfl
theorem noInit : Tryz.prog.inits.idxOf? 3 = none := by kernel_rfl
theorem tList : Tryz.prog.underlying 22 = some (.slice 29) := by kernel_rfl
theorem tBool : Tryz.prog.underlying 4 = some .bool := by kernel_rfl
theorem tEvent : Ex.evTyB Tryz.prog 29 = true := by kernel_rfl
theorem cEvent : Tryz.prog.cellsOf 29 = 11 := by kernel_rfl
theorem rList : Tryz.prog.readableRec 22 = true := by kernel_rfl
theorem zList : 22 < Tryz.prog.types.size := by rw [nTypes]; decide
theorem params : Tryz.f3.params = #[22] := by kernel_rfl
theorem u3 (os : Os) (H : Type) (enc : TypeId × Value → H) : Rows.auditTimersSpec.preB enc Tryz.checked.prog Tryz.f3 [] false ((World.laidAll Tryz.prog os lst).forCall (fun _ _ => 0) ⟨#[], #[.slice none 0 0], []⟩).memory #[.slice none 0 0] 8 = true := by kernel_rfl
theorem u4 (os : Os) (H : Type) (enc : TypeId × Value → H) : Rows.auditTimersSpec.sizedB enc Tryz.checked.prog Tryz.f3 false ((World.laidAll Tryz.prog os lst).forCall (fun _ _ => 0) ⟨#[], #[.slice none 0 0], []⟩).memory #[.slice none 0 0] 8 = true := by kernel_rfl
theorem body {H : Type} {enc : TypeId × Value → H} (W : World) (base : Nat) (args : Array Value) (ds gs : List (DataW H)) (before : List MemPlace)
    (hval : ∀ (j : Nat) t v, Tryz.f3.params[j]? = some t → args[j]? = some v → Value.okWide Tryz.prog W .any base t v)
    (hW : DataW.Whole enc Tryz.prog Tryz.f3.params.toList Rows.auditTimersSpec.vars false W args.toList ds gs before) :
    Calls Tryz.prog 3 args W fun e W' => ∃ v, e = .returned v ∧ Rows.auditTimersSpec.post enc Tryz.prog Tryz.f3 false true false false W args v W' := by
  have hlt := hW.lt
  have hW' := hW
  obtain ⟨p, q, hA0, hV, rfl, _, _⟩ := hW
  have hA : DataW.TrodAll enc Tryz.prog W 0 (fun _ => true) true Tryz.f3.params.toList args.toList ds p := hA0
  rw [params] at hA hval
  obtain ⟨v0, d0, rfl, rfl, h0⟩ := trodAll_one hA
  obtain ⟨rfl, rfl⟩ := trodVars_none hV
  have hlt' : ∀ x ∈ p, x.block < W.heap.size := fun x hx => hlt x (by simp [hx])
  refine (Ex.law3_calls (enc := enc) tList tEvent cEvent (hval 0 22 v0 rfl rfl) h0).mono fun e W' ⟨he, hb⟩ => ?_
  subst he
  exact ⟨_, rfl, _, _, _, [], p, [], hW', trodAll_mk1 (shut_bool tBool _), trodAll_mk1 (Below.trod laidOut rList zList h0 hb hlt'), rfl, hb.frame _, fun h => by cases h⟩
theorem lifted (os : Os) (started : os.Started) (H : Type) (enc : TypeId × Value → H) :
    ReturnsInHanded {} Tryz.checked os 3 .any (fun w args => (Rows.auditTimersSpec.pre enc Tryz.checked.prog Tryz.f3 [] false w args ∧ laidMetH Tryz.prog lst w) ∧ sizedMet enc Tryz.checked.prog Tryz.f3 (OpenSpec.ofChange Rows.auditTimersSpec) false w args)
      (Rows.auditTimersSpec.post enc Tryz.checked.prog Tryz.f3 false true false false) :=
  returnsInHanded_of_change_and (C := Tryz.checked) (X := fun w _ => laidMetH Tryz.prog lst w) (fun _ _ _ hh h => h.of_heap hh) own started noInit Tryz.func3
    (ChangeSpec.witness_shaped (enc := enc) (C := Tryz.checked) (os := os) (X := fun w _ => laidMetH Tryz.prog lst w) false (World.laidAll Tryz.prog os lst) #[.slice none 0 0] 8 (World.laidAll_os _ _ _)
      (w1 os) (w2 os) (u3 os H enc) (u4 os H enc) (w5 os))
    (fun W base args ds gs before hval hW _ _ _ _ => body W base args ds gs before hval hW)
theorem closed : joinedFacts Tryz.pinned.checked.prog 3 Tryz.f3 Rows.auditTimersSpec Rows.auditTimersRow = true := by
  show joinedFacts Tryz.prog 3 Tryz.f3 Rows.auditTimersSpec Rows.auditTimersRow = true
  simp only [joinedFacts, Bool.and_eq_true]
  exact ⟨⟨⟨⟨⟨⟨⟨⟨⟨⟨⟨⟨⟨⟨⟨⟨⟨⟨⟨⟨⟨⟨⟨⟨⟨⟨⟨⟨⟨⟨⟨j1, laidOut⟩, mapsFine⟩, j4⟩, j5⟩, j6⟩, j7⟩, j8⟩, j9⟩, (by rw [q10]; exact beq_self_eq_true _)⟩, (by rw [q11]; rfl)⟩, (by rw [q12]; rfl)⟩, (by rw [q13]; exact beq_self_eq_true _)⟩, j14⟩, j15⟩, j16⟩, j17⟩, j18⟩, j19⟩, j20⟩, j21⟩, j22⟩, j23⟩, j24⟩, j25⟩, j26⟩, j27⟩, j28⟩, j29⟩, j30⟩, j31⟩, j32⟩
theorem named : Tryz.pinned.checked.prog.funcNamed "foliot/foliotlaw28.AuditTimers" = some 3 := by kernel_rfl
theorem inst : Tryz.f3.isInstance Tryz.pinned.checked.prog Rows.auditTimersRow.origin Rows.auditTimersRow.targs := of_decide_eq_true (by kernel_rfl)
theorem wrap : Tryz.f3.isWrapper Tryz.pinned.checked.prog Rows.auditTimersRow.wrapper Rows.auditTimersRow.mainSum := by
  unfold Func.isWrapper; first | (rw [if_pos (by decide +kernel)]; kernel_rfl) | (rw [if_neg (by decide +kernel)]; exact ⟨rfl, rfl⟩)
theorem row_holds : Rows.AuditTimersSaid :=
  OpenClaim.holds_of_wide 3 Tryz.f3 rfl rfl rfl rfl rfl rfl rfl ⟨rfl, rfl, rfl, rfl, rfl⟩ rfl rfl rfl rfl rfl named Tryz.func3 closed inst wrap
    (fun os started H enc _ => lifted os started H enc)
end Go.Proofs.YtkaoplgfhmihpaaGreatDoor
