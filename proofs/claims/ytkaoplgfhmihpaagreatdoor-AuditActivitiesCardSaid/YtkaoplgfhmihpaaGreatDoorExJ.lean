/- A part of the proof (made by program out of smaller texts). -/
import Derived.Shelf.Strings.OnBuilder
import Derived.Below
import Derived.KernelRfl
import Derived.Test.YtkaoplgfhmihpaaGreatDoorProg
import Derived.Test.YtkaoplgfhmihpaaGreatDoorExD
set_option linter.all false
namespace Go.Proofs
open Go.Shelf
def Tryz.lays156_ren : Go.Shelf.Ren := ⟨fun | 156 => 43 | 165 => 106 | 166 => 107 | 169 => 108 | 240 => 175 | 241 => 176 | 276 => 250 | 277 => 251 | n => n, fun | 31 => 34 | 9 => 9 | 3 => 3 | 4 => 4 | 0 => 0 | 20 => 20 | 72 => 255 | 76 => 258 | 70 => 253 | 37 => 251 | 75 => 257 | 127 => 383 | 164 => 481 | 5 => 5 | 80 => 163 | n => n, fun | n => n⟩
theorem Tryz.lays156 : Go.Proofs.Lays.n156 Tryz.prog Tryz.lays156_ren := {
  mixed := by kernel_rfl
  f156 := Tryz.func43.trans (congrArg some (by kernel_rfl))
  f165 := Tryz.func106.trans (congrArg some (by kernel_rfl))
  f166 := Tryz.func107.trans (congrArg some (by kernel_rfl))
  f169 := Tryz.func108.trans (congrArg some (by kernel_rfl))
  f240 := Tryz.func175.trans (congrArg some (by kernel_rfl))
  f241 := Tryz.func176.trans (congrArg some (by kernel_rfl))
  f276 := Tryz.func250.trans (congrArg some (by kernel_rfl))
  f277 := Tryz.func251.trans (congrArg some (by kernel_rfl))
  t0 := Tryz.underlying0
  a0 := Tryz.isAgg0
  z0 := Tryz.sizeOf0
  v0 := Tryz.zeroValue0
  t3 := Tryz.underlying3
  a3 := Tryz.isAgg3
  z3 := Tryz.sizeOf3
  v3 := Tryz.zeroValue3
  t4 := Tryz.underlying4
  a4 := Tryz.isAgg4
  z4 := Tryz.sizeOf4
  v4 := Tryz.zeroValue4
  t9 := Tryz.underlying9
  a9 := Tryz.isAgg9
  z9 := Tryz.sizeOf9
  v9 := Tryz.zeroValue9
  t20 := Tryz.underlying20
  a20 := Tryz.isAgg20
  z20 := Tryz.sizeOf20
  v20 := Tryz.zeroValue20
  t31 := Tryz.underlying34
  a31 := Tryz.isAgg34
  z31 := Tryz.sizeOf34
  v31 := Tryz.zeroValue34
  t37 := Tryz.underlying251
  a37 := Tryz.isAgg251
  z37 := Tryz.sizeOf251
  v37 := Tryz.zeroValue251
  t70 := Tryz.underlying253
  a70 := Tryz.isAgg253
  z70 := Tryz.sizeOf253
  v70 := Tryz.zeroValue253
  t72 := Tryz.underlying255
  a72 := Tryz.isAgg255
  z72 := Tryz.sizeOf255
  v72 := Tryz.zeroValue255
  t75 := Tryz.underlying257
  a75 := Tryz.isAgg257
  z75 := Tryz.sizeOf257
  v75 := Tryz.zeroValue257
  t76 := Tryz.underlying258
  a76 := Tryz.isAgg258
  z76 := Tryz.sizeOf258
  v76 := Tryz.zeroValue258
  t127 := Tryz.underlying383
  a127 := Tryz.isAgg383
  z127 := Tryz.sizeOf383
  v127 := Tryz.zeroValue383
  t164 := Tryz.underlying481
  a164 := Tryz.isAgg481
  z164 := Tryz.sizeOf481
  v164 := Tryz.zeroValue481 }
theorem Tryz.Builder_Extra_156 : Builder.Extra Tryz.prog Tryz.lays156_ren := {
  sizeBuilder := by kernel_rfl
  liesBuilder := by kernel_rfl
  t5 := Tryz.underlying5
  a5 := Tryz.isAgg5
  z5 := Tryz.sizeOf5
  v5 := Tryz.zeroValue5
  infoByte := by kernel_rfl
  cellsByte := by kernel_rfl
  sizeByte := by kernel_rfl
  neB5 := by decide }
theorem Tryz.strings_Join_none (a : Option Addr) (c : Nat) (sep : ByteArray) (w : World) :
    Calls Tryz.prog 43 #[.slice a 0 c, .string sep] w fun e w' => e = .returned (.string ⟨#[]⟩) ∧ w' = w := Any.strings_Join_none Tryz.lays156 Tryz.Builder_Extra_156 a c sep w
open Go.RowKit in
theorem Tryz.strings_Join (bk o c : Nat) (xs : List ByteArray) (sep : ByteArray) (w : World) (hcells : ∀ (j : Nat) x, xs[j]? = some x → w.cell? ⟨bk, o + j, none⟩ = some (.string x)) (hbk : bk < w.heap.size) (hN : xs.length ≤ 140737488355328) (hcap : xs.length ≤ c) (hlen : (Lib.join (xs.map (·.data.toList)) sep.data.toList).length ≤ 140737488355328) :
    Calls Tryz.prog 43 #[.slice (some ⟨bk, o, none⟩) xs.length c, .string sep] w fun e w' => e = .returned (.string ⟨(Lib.join (xs.map (·.data.toList)) sep.data.toList).toArray⟩) ∧ Below w.heap.size w w' := Any.strings_Join Tryz.lays156 Tryz.Builder_Extra_156 bk o c xs sep w hcells hbk hN hcap hlen
def Tryz.lays128_ren : Go.Shelf.Ren := ⟨fun | 128 => 336 | n => n, fun | 51 => 214 | 3 => 3 | 4 => 4 | 46 => 252 | 5 => 5 | 9 => 9 | n => n, fun | n => n⟩
end Go.Proofs
namespace Go.Ex
open Go Go.Proofs Go.RowKit
theorem joinL_map {α : Type} (f : UInt8 → Nat) (sep : List UInt8) : ∀ (ls : List (List UInt8)), joinL (sep.map f) (ls.map (·.map f)) = (Lib.join ls sep).map f
  | [] => rfl
  | [x] => by simp [joinL, Lib.join_one]
  | x :: y :: r => by
    have ih := joinL_map (α := α) f sep (y :: r)
    have h1 : Lib.join (x :: y :: r) sep = x ++ (sep ++ Lib.join (y :: r) sep) := by
      rw [Lib.join_cons, Lib.join_cons]
      simp [Lib.joinTail]
    rw [h1]
    simp only [List.map_cons, joinL, List.map_append] at ih ⊢
    rw [ih]
theorem strsOf_ok {ρ : Ren} : ∀ {l : List AV} {vs : List Value} {ss : List (List Nat)}, VRs ρ l vs → strsOf l = some ss →
    ∃ xs : List ByteArray, vs = xs.map .string ∧ ss = xs.map fun s => s.data.toList.map (·.toNat)
  | _, _, ss, .nil, h => by
    simp only [strsOf, Option.some.injEq] at h
    exact ⟨[], rfl, h.symm⟩
  | _, _, ss, .cons hv t, h => by
    cases hv <;> try (simp [strsOf] at h; done)
    rename_i s
    simp only [strsOf] at h
    split at h
    · rename_i r hr
      simp only [Option.some.injEq] at h
      obtain ⟨xs, h1, h2⟩ := strsOf_ok t hr
      exact ⟨s :: xs, by rw [h1]; rfl, by rw [← h, h2]; rfl⟩
    · cases h
theorem callPost_below {ρ : Ren} {w w' : World} {v : AV} {v' : Value} {h : Heap} (hw : WR ρ h w) (hv : VR ρ v v') (hb : Below w.heap.size w w') : CallPost ρ w v h (.returned v') w' := by
  refine ⟨v', ρ, rfl, ρ.le_refl, ρ.newer_refl w, hv, ⟨fun r o ho => (hw.obj r o ho).heap fun u B hB => hb.block _ (hw.dom _ _ _ hB).2, fun r u B hB => ?_, hw.inj, hw.same, hw.lt⟩, ⟨hb.size, fun b hb' _ => hb.block b hb', hb.tape, hb.os, hb.output, .of_keep fun b hb' => hb.block b hb'⟩⟩
  have := hw.dom _ _ _ hB
  exact ⟨this.1, Nat.lt_of_lt_of_le this.2 hb.size⟩
theorem callOK43 : CallOK Tryz.prog 43 := ⟨Tryz.f43, Tryz.func43, by
  have : (Tryz.f43.name == "runtime.NumGoroutine") = false := by kernel_rfl
  simpa using this, by kernel_rfl⟩
theorem join_ok {args : List AV} {h h' : Heap} {v : AV} (e : joinA args h = some (v, h')) : CallOK Tryz.prog 43 ∧
    ∀ ρ w args', WR ρ h w → VRs ρ args args'.toList → Calls Tryz.prog 43 args' w (CallPost ρ w v h') := by
  refine ⟨callOK43, fun ρ w args' hw ha => ?_⟩
  unfold joinA at e
  split at e
  · rename_i r u o n cap sep
    split at e
    · rename_i l hl
      split at e
      · rename_i ss hss
        split at e
        · rename_i hlen
          simp only [Option.some.injEq, Prod.mk.injEq] at e
          obtain ⟨rfl, rfl⟩ := e
          simp only [Bool.and_eq_true] at hlen
          have hl1 := Nat.le_of_ble_eq_true hlen.1
          have hl2 := Nat.le_of_ble_eq_true hlen.2
          generalize ea : args'.toList = al at ha
          cases ha with
          | cons h1 t1 =>
            cases t1 with
            | cons h2 t2 =>
              cases t2
              generalize es : (AV.str sep) = sv at h2
              cases h2 <;> cases es
              rename_i s2
              cases h1 with
              | slice hB hc hn hz hcap =>
                rename_i B c cc
                have hargs : args' = #[.slice (some ⟨B.b, c, none⟩) n cc, .string s2] := by
                  apply Array.toList_inj.1
                  rw [ea]
                rw [hargs]
                unfold ldCells at hl
                split at hl
                · rename_i cs ver hr
                  obtain ⟨g1, g2⟩ := ldList_spec hl
                  rcases Nat.eq_zero_or_pos n with hn0 | hpos
                  · subst hn0
                    have hl0 : l = [] := List.eq_nil_of_length_eq_zero g1
                    subst hl0
                    simp only [strsOf, Option.some.injEq] at hss
                    subst hss
                    refine Calls.mono (Tryz.strings_Join_none (some ⟨B.b, c, none⟩) cc s2 w) fun e w' he => ?_
                    obtain ⟨rfl, rfl⟩ := he
                    exact callPost_below hw (.str ⟨#[]⟩) (Below.refl _ _)
                  · have hc' : (c : Int) = o + B.s := by
                      rcases hc with h | h
                      · exact h
                      · omega
                    have key : ∀ k, k < n → ∃ x, w.cell? ⟨B.b, c + k, none⟩ = some x ∧ ∀ a, l[k]? = some a → VR ρ a x := by
                      intro k hk
                      obtain ⟨cell, e1, e2, e3⟩ := g2 k hk
                      obtain ⟨x, hx, hv⟩ := hw.cell (c := c + k) (o := o + k) hr hB (by push_cast; omega) (by simpa using e1) e2
                      exact ⟨x, hx, fun a ha => by rw [e3] at ha; cases ha; exact hv⟩
                    have hvs : VRs ρ l ((List.range n).map fun k => (w.cell? ⟨B.b, c + k, none⟩).getD undef) := by
                      refine VRs.of_get _ _ (by simp [g1]) fun i a x ha hx => ?_
                      have hi : i < n := by
                        rw [← g1]; exact (List.getElem?_eq_some_iff.1 ha).1
                      obtain ⟨y, hy, hv⟩ := key i hi
                      simp [hi, hy] at hx
                      subst hx; exact hv a ha
                    obtain ⟨xs, q1, q2⟩ := strsOf_ok hvs hss
                    have hxl : xs.length = n := by
                      have := congrArg List.length q1
                      simpa using this.symm
                    have hcells : ∀ (j : Nat) x, xs[j]? = some x → w.cell? ⟨B.b, c + j, none⟩ = some (.string x) := by
                      intro j x hx
                      have hj : j < n := by rw [← hxl]; exact (List.getElem?_eq_some_iff.1 hx).1
                      obtain ⟨y, hy, _⟩ := key j hj
                      have := congrArg (fun l => l[j]?) q1
                      simp [hj, hx, hy] at this
                      rw [hy, this]
                    have hjl : joinL (s2.data.toList.map (·.toNat)) ss = (Lib.join (xs.map (·.data.toList)) s2.data.toList).map (·.toNat) := by
                      rw [q2, ← joinL_map (α := Nat), List.map_map]
                      rfl
                    have := Tryz.strings_Join B.b c cc xs s2 w hcells (hw.dom _ _ _ hB).2 (by rw [hxl]; exact hl2) (by rw [hxl]; exact hn) (by rw [hjl] at hl1; simpa using hl1)
                    rw [hxl] at this
                    refine Calls.mono this fun e w' he => ?_
                    obtain ⟨rfl, hb⟩ := he
                    refine callPost_below hw ?_ hb
                    rw [hjl]
                    exact .str ⟨(Lib.join (xs.map (·.data.toList)) s2.data.toList).toArray⟩
                · cases hl
        · cases e
      · cases e
    · cases e
  · cases e
end Go.Ex
