/- AuditActivities returns true for every list of events; what came in reads as before. No condition. The proof of the row. -/
import Derived.Test.YtkaoplgfhmihpaaGreatDoorFactA
import Derived.Test.YtkaoplgfhmihpaaGreatDoorFactD
import Derived.Test.YtkaoplgfhmihpaaGreatDoorAuY
import Derived.Carry
import Derived.ProofKit
import Derived.ChangeSame
set_option linter.all false
set_option maxRecDepth 100000
namespace Go.Proofs.YtkaoplgfhmihpaaGreatDoor
open Go.RowKit Go.ChangeShapes Go.WideShapes Go.ChangeAt
theorem own : ownKnob Tryz.prog.godebug = none := by kernel_rfl
theorem noInit : Tryz.prog.inits.idxOf? 4 = none := by kernel_rfl
theorem tList : Tryz.prog.underlying 22 = some (.slice 29) := by kernel_rfl
theorem tBool : Tryz.prog.underlying 4 = some .bool := by kernel_rfl
theorem tEvent : Ex.evTyB Tryz.prog 29 = true := by kernel_rfl
theorem cEvent : Tryz.prog.cellsOf 29 = 11 := by kernel_rfl
theorem rList : Tryz.prog.readableRec 22 = true := by kernel_rfl
theorem zList : 22 < Tryz.prog.types.size := by rw [nTypes]; decide
theorem params : Tryz.f4.params = #[22] := by kernel_rfl
theorem u3 (os : Os) (H : Type) (enc : TypeId × Value → H) : Rows.auditActivitiesSpec.preB enc Tryz.checked.prog Tryz.f4 [] false ((World.laidAll Tryz.prog os lst).forCall (fun _ _ => 0) ⟨#[], #[.slice none 0 0], []⟩).memory #[.slice none 0 0] 8 = true := by kernel_rfl
theorem u4 (os : Os) (H : Type) (enc : TypeId × Value → H) : Rows.auditActivitiesSpec.sizedB enc Tryz.checked.prog Tryz.f4 false ((World.laidAll Tryz.prog os lst).forCall (fun _ _ => 0) ⟨#[], #[.slice none 0 0], []⟩).memory #[.slice none 0 0] 8 = true := by kernel_rfl
theorem body {H : Type} {enc : TypeId × Value → H} (W : World) (base : Nat) (args : Array Value) (ds gs : List (DataW H)) (before : List MemPlace)
    (hval : ∀ (j : Nat) t v, Tryz.f4.params[j]? = some t → args[j]? = some v → Value.okWide Tryz.prog W .any base t v)
    (hW : DataW.Whole enc Tryz.prog Tryz.f4.params.toList Rows.auditActivitiesSpec.vars false W args.toList ds gs before) :
    Calls Tryz.prog 4 args W fun e W' => ∃ v, e = .returned v ∧ Rows.auditActivitiesSpec.post enc Tryz.prog Tryz.f4 false true false false W args v W' := by
  have hlt := hW.lt
  have hW' := hW
  obtain ⟨p, q, hA0, hV, rfl, _, _⟩ := hW
  have hA : DataW.TrodAll enc Tryz.prog W 0 (fun _ => true) true Tryz.f4.params.toList args.toList ds p := hA0
  rw [params] at hA hval
  obtain ⟨v0, d0, rfl, rfl, h0⟩ := trodAll_one hA
  obtain ⟨rfl, rfl⟩ := trodVars_none hV
  have hlt' : ∀ x ∈ p, x.block < W.heap.size := fun x hx => hlt x (by simp [hx])
  refine (Ex.law4_calls (enc := enc) tList tEvent cEvent (hval 0 22 v0 rfl rfl) h0).mono fun e W' ⟨he, hb⟩ => ?_
  subst he
  exact ⟨_, rfl, _, _, _, [], p, [], hW', trodAll_mk1 (shut_bool tBool _), trodAll_mk1 (Below.trod laidOut rList zList h0 hb hlt'), rfl, hb.frame _, fun h => by cases h⟩
theorem lifted (os : Os) (started : os.Started) (H : Type) (enc : TypeId × Value → H) :
    ReturnsInHanded {} Tryz.checked os 4 .any (fun w args => (Rows.auditActivitiesSpec.pre enc Tryz.checked.prog Tryz.f4 [] false w args ∧ laidMetH Tryz.prog lst w) ∧ sizedMet enc Tryz.checked.prog Tryz.f4 (OpenSpec.ofChange Rows.auditActivitiesSpec) false w args)
      (Rows.auditActivitiesSpec.post enc Tryz.checked.prog Tryz.f4 false true false false) :=
  returnsInHanded_of_change_and (C := Tryz.checked) (X := fun w _ => laidMetH Tryz.prog lst w) (fun _ _ _ hh h => h.of_heap hh) own started noInit Tryz.func4
    (ChangeSpec.witness_shaped (enc := enc) (C := Tryz.checked) (os := os) (X := fun w _ => laidMetH Tryz.prog lst w) false (World.laidAll Tryz.prog os lst) #[.slice none 0 0] 8 (World.laidAll_os _ _ _)
      (w1 os) (w2b os) (u3 os H enc) (u4 os H enc) (w5 os))
    (fun W base args ds gs before hval hW _ _ _ _ => body W base args ds gs before hval hW)
theorem closed : joinedFacts Tryz.pinned.checked.prog 4 Tryz.f4 Rows.auditActivitiesSpec Rows.auditActivitiesRow = true := by
  show joinedFacts Tryz.prog 4 Tryz.f4 Rows.auditActivitiesSpec Rows.auditActivitiesRow = true
  simp only [joinedFacts, Bool.and_eq_true]
  exact ⟨⟨⟨⟨⟨⟨⟨⟨⟨⟨⟨⟨⟨⟨⟨⟨⟨⟨⟨⟨⟨⟨⟨⟨⟨⟨⟨⟨⟨⟨⟨j1b, laidOut⟩, mapsFine⟩, j4b⟩, j5b⟩, j6b⟩, j7⟩, j8b⟩, j9⟩, (by rw [q10b]; exact beq_self_eq_true _)⟩, (by rw [q11b]; rfl)⟩, (by rw [q12b]; rfl)⟩, (by rw [q13b]; exact beq_self_eq_true _)⟩, j14b⟩, j15b⟩, j16b⟩, j17b⟩, j18b⟩, j19b⟩, j20b⟩, j21b⟩, j22b⟩, j23⟩, j24b⟩, j25⟩, j26⟩, j27⟩, j28⟩, j29b⟩, j30b⟩, j31b⟩, j32b⟩
theorem named : Tryz.pinned.checked.prog.funcNamed "foliot/foliotlaw28.AuditActivities" = some 4 := by kernel_rfl
theorem inst : Tryz.f4.isInstance Tryz.pinned.checked.prog Rows.auditActivitiesRow.origin Rows.auditActivitiesRow.targs := of_decide_eq_true (by kernel_rfl)
theorem wrap : Tryz.f4.isWrapper Tryz.pinned.checked.prog Rows.auditActivitiesRow.wrapper Rows.auditActivitiesRow.mainSum := by
  unfold Func.isWrapper; first | (rw [if_pos (by decide +kernel)]; kernel_rfl) | (rw [if_neg (by decide +kernel)]; exact ⟨rfl, rfl⟩)
theorem row_holds : Rows.AuditActivitiesSaid :=
  OpenClaim.holds_of_wide 4 Tryz.f4 rfl rfl rfl rfl rfl rfl rfl ⟨rfl, rfl, rfl, rfl, rfl⟩ rfl rfl rfl rfl rfl named Tryz.func4 closed inst wrap
    (fun os started H enc _ => lifted os started H enc)
end Go.Proofs.YtkaoplgfhmihpaaGreatDoor
