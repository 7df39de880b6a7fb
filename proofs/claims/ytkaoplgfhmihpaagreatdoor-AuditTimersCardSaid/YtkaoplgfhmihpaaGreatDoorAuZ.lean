/- A part of the proof (made by program out of smaller texts). -/
import Derived.Test.YtkaoplgfhmihpaaGreatDoorAu
import Derived.Test.YtkaoplgfhmihpaaGreatDoorLooks
noncomputable section
set_option maxRecDepth 100000
set_option linter.all false
namespace Go.Ex
open Go Go.Proofs Go.ChangeShapes Go.RowKit
theorem g3 : cvF Tryz.prog Tryz.f3 = some F3 := by kernel_rfl
theorem g6 : cvF Tryz.prog Tryz.f6 = some F6 := by kernel_rfl
theorem g7 : cvF Tryz.prog Tryz.f7 = some F7 := by kernel_rfl
def looksOrc (f : Nat) (args : List AV) (h : Heap) : Option (AV × Heap) := if f = 5 then (match args with
  | [] => some (.bool true, h)
  | _ => none) else none
theorem looksOrc_ok : OrcOK Tryz.prog looksOrc := by
  intro f args h v h' e
  unfold looksOrc at e
  split at e
  · rename_i hf
    subst hf
    split at e
    · cases e
      refine ⟨looks_ok.1, fun ρ w args' hw ha => ?_⟩
      have : args' = #[] := by
        have := ha.length
        simpa using this.symm
      subst this
      exact looks_ok.2 ρ w h hw
    · cases e
  · cases e
def E3 : Env := { fns := fun f => if f = 3 then some F3 else if f = 6 then some F6 else if f = 7 then some F7 else none, orc := looksOrc }
theorem E3_ok : EOK Tryz.prog E3 := by
  refine ⟨fun f F h => ?_, looksOrc_ok⟩
  simp only [E3] at h
  split at h
  · rename_i e; subst e; cases h; exact ⟨_, Tryz.func3, g3⟩
  split at h
  · rename_i e; subst e; cases h; exact ⟨_, Tryz.func6, g6⟩
  split at h
  · rename_i e; subst e; cases h; exact ⟨_, Tryz.func7, g7⟩
  · cases h
theorem orc5 (f : Nat) (ags : List AV) (h : Heap) (hf : f ≠ 5) : E3.orc f ags h = none := if_neg hf
theorem fn3 : E3.fns 3 = some F3 := by unfold E3; simp only [Nat.reduceEqDiff, if_true, if_false]
theorem fn6 : E3.fns 6 = some F6 := by unfold E3; simp only [Nat.reduceEqDiff, if_true, if_false]
theorem fn7 : E3.fns 7 = some F7 := by unfold E3; simp only [Nat.reduceEqDiff, if_true, if_false]
theorem orcL (h : Heap) : E3.orc 5 [] h = some (.bool true, h) := by show looksOrc 5 [] h = _; unfold looksOrc; rw [if_pos rfl]
theorem law3_calls {H : Type} {enc : TypeId × Value → H} {W : World} {b0 : Nat} {tl te : TypeId} {v : Value} {d : DataW H} {ps : List MemPlace}
    (ht : Tryz.prog.underlying tl = some (.slice te)) (hev : evTyB Tryz.prog te = true) (hc : Tryz.prog.cellsOf te = 11) (hok : Value.okWide Tryz.prog W .any b0 tl v) (hd : DataW.Trod enc Tryz.prog W 0 (fun _ => true) true tl v d ps) :
    Calls Tryz.prog 3 #[v] W fun e W' => e = .returned (.bool true) ∧ Below W.heap.size W W' := by
  have S := calls_sound E3_ok hmix 61 3
  rcases @list_start H enc Tryz.prog W b0 tl te v d ps ht hev hc hok hd with rfl | ⟨evs, ρ, h, hw, hv, hl, hk⟩
  · obtain ⟨h', e, _⟩ := law3_nil (E := E3) (lf := 60) (d := 0) (h := noHeap) (h1 := noHeap) fn3 fn7 orc5 (orcL _) (Keep.refl _)
    refine Calls.mono ((S _ _ _ _ _ e).2 _ W #[.slice none 0 0] (WR.none W) (.cons .nils .nil)) fun e W' ⟨v', ρ', e1, _, _, e4, _, e6⟩ => ?_
    cases e4
    exact ⟨e1, e6.os, e6.tape, e6.out, e6.size, fun k hk => e6.keep k hk fun _ _ _ h => by cases h⟩
  · have fin : ∀ h', callN E3 61 3 3 [.slice 0 0 0 evs.length 0 11] h = some (.bool true, h') → Keep h h' → Calls Tryz.prog 3 #[v] W fun e W' => e = .returned (.bool true) ∧ Below W.heap.size W W' := by
      intro h' e hk'
      refine Calls.mono ((S _ _ _ _ _ e).2 ρ W #[v] hw (.cons hv .nil)) fun e W' ⟨v', ρ', e1, e2, _, e4, e5, e6⟩ => ?_
      cases e4
      exact ⟨e1, hk ρ' h' W' hk' e5 e2 e6⟩
    by_cases hn : evs.length ≤ 60
    · obtain ⟨h', e, hk'⟩ := law3_ok (E := E3) (lf := 61) (d := 0) (h1 := h) fn3 fn6 fn7 orc5 (orcL _) (Keep.refl _) hl hn (by decide)
      exact fin h' e hk'
    · obtain ⟨h', e, hk'⟩ := law3_long (E := E3) (lf := 61) (d := 0) (r := 0) (h1 := h) fn3 orc5 (orcL _) (Keep.refl _) (Nat.lt_of_not_le hn)
      exact fin h' e hk'
end Go.Ex
end
