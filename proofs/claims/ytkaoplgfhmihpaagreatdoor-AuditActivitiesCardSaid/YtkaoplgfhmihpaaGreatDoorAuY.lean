/- A part of the proof (made by program out of smaller texts). -/
import Derived.Test.YtkaoplgfhmihpaaGreatDoorAuB
import Derived.Test.YtkaoplgfhmihpaaGreatDoorLooks
set_option maxRecDepth 100000
noncomputable section
set_option linter.all false
namespace Go.Ex
open Go Go.Proofs Go.ChangeShapes Go.RowKit
theorem g4 : cvF Tryz.prog Tryz.f4 = some F4 := by kernel_rfl
theorem g6 : cvF Tryz.prog Tryz.f6 = some F6 := by kernel_rfl
theorem g8 : cvF Tryz.prog Tryz.f8 = some F8 := by kernel_rfl
theorem g9 : cvF Tryz.prog Tryz.f9 = some F9 := by kernel_rfl
def looksOrc (f : Nat) (args : List AV) (h : Heap) : Option (AV × Heap) := if f = 5 then (match args with
  | [] => some (.bool true, h)
  | _ => none) else none
theorem looksOrc_ok : OrcOK Tryz.prog looksOrc := by
  intro f args h v h' e
  unfold looksOrc at e
  split at e
  · rename_i hf
    subst hf
    split at e
    · cases e
      refine ⟨looks_ok.1, fun ρ w args' hw ha => ?_⟩
      have : args' = #[] := by
        have := ha.length
        simpa using this.symm
      subst this
      exact looks_ok.2 ρ w h hw
    · cases e
  · cases e
def E4 : Env := { fns := fun f => if f = 4 then some F4 else if f = 6 then some F6 else if f = 8 then some F8 else if f = 9 then some F9 else none, orc := looksOrc }
theorem E4_ok : EOK Tryz.prog E4 := by
  refine ⟨fun f F h => ?_, looksOrc_ok⟩
  simp only [E4] at h
  split at h
  · rename_i e; subst e; cases h; exact ⟨_, Tryz.func4, g4⟩
  split at h
  · rename_i e; subst e; cases h; exact ⟨_, Tryz.func6, g6⟩
  split at h
  · rename_i e; subst e; cases h; exact ⟨_, Tryz.func8, g8⟩
  split at h
  · rename_i e; subst e; cases h; exact ⟨_, Tryz.func9, g9⟩
  · cases h
theorem orc5 (f : Nat) (ags : List AV) (h : Heap) (hf : f ≠ 5) : E4.orc f ags h = none := if_neg hf
theorem fn4 : E4.fns 4 = some F4 := by unfold E4; simp only [Nat.reduceEqDiff, if_true, if_false]
theorem fn6 : E4.fns 6 = some F6 := by unfold E4; simp only [Nat.reduceEqDiff, if_true, if_false]
theorem fn8 : E4.fns 8 = some F8 := by unfold E4; simp only [Nat.reduceEqDiff, if_true, if_false]
theorem fn9 : E4.fns 9 = some F9 := by unfold E4; simp only [Nat.reduceEqDiff, if_true, if_false]
theorem orcL (h : Heap) : E4.orc 5 [] h = some (.bool true, h) := by show looksOrc 5 [] h = _; unfold looksOrc; rw [if_pos rfl]
theorem law4_calls {H : Type} {enc : TypeId × Value → H} {W : World} {b0 : Nat} {tl te : TypeId} {v : Value} {d : DataW H} {ps : List MemPlace}
    (ht : Tryz.prog.underlying tl = some (.slice te)) (hev : evTyB Tryz.prog te = true) (hc : Tryz.prog.cellsOf te = 11) (hok : Value.okWide Tryz.prog W .any b0 tl v) (hd : DataW.Trod enc Tryz.prog W 0 (fun _ => true) true tl v d ps) :
    Calls Tryz.prog 4 #[v] W fun e W' => e = .returned (.bool true) ∧ Below W.heap.size W W' := by
  have S := calls_sound E4_ok hmix 61 3
  rcases @list_start H enc Tryz.prog W b0 tl te v d ps ht hev hc hok hd with rfl | ⟨evs, ρ, h, hw, hv, hl, hk⟩
  · obtain ⟨h', e, _⟩ := law4_nil (E := E4) (lf := 60) (d := 0) (h := noHeap) (h1 := noHeap) fn4 fn8 fn9 orc5 (orcL _) (Keep.refl _)
    refine Calls.mono ((S _ _ _ _ _ e).2 _ W #[.slice none 0 0] (WR.none W) (.cons .nils .nil)) fun e W' ⟨v', ρ', e1, _, _, e4, _, e6⟩ => ?_
    cases e4
    exact ⟨e1, e6.os, e6.tape, e6.out, e6.size, fun k hk => e6.keep k hk fun _ _ _ h => by cases h⟩
  · have fin : ∀ h', callN E4 61 3 4 [.slice 0 0 0 evs.length 0 11] h = some (.bool true, h') → Keep h h' → Calls Tryz.prog 4 #[v] W fun e W' => e = .returned (.bool true) ∧ Below W.heap.size W W' := by
      intro h' e hk'
      refine Calls.mono ((S _ _ _ _ _ e).2 ρ W #[v] hw (.cons hv .nil)) fun e W' ⟨v', ρ', e1, e2, _, e4, e5, e6⟩ => ?_
      cases e4
      exact ⟨e1, hk ρ' h' W' hk' e5 e2 e6⟩
    by_cases hn : evs.length ≤ 60
    · obtain ⟨h', e, hk'⟩ := law4_ok (E := E4) (lf := 61) (d := 0) (h1 := h) fn4 fn6 fn8 fn9 orc5 (orcL _) (Keep.refl _) hl hn (by decide)
      exact fin h' e hk'
    · obtain ⟨h', e, hk'⟩ := law4_long (E := E4) (lf := 61) (d := 0) (r := 0) (h1 := h) fn4 orc5 (orcL _) (Keep.refl _) (Nat.lt_of_not_le hn)
      exact fin h' e hk'
end Go.Ex
end
