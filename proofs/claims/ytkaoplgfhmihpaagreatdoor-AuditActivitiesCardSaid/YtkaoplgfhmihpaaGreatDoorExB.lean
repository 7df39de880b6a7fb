/- A part of the proof (made by program out of smaller texts). -/
import Derived.Laws.StructEq
import Derived.Laws.BytesString
import Derived.IntWalk
import Derived.Lib.Bytealg
import Derived.Test.YtkaoplgfhmihpaaGreatDoorExA
noncomputable section
set_option linter.all false
namespace Go.Ex
open Go
variable {P : Program}
theorem asIdx_ok {ρ : Ren} {a : AV} {x : Value} {m : Nat} (h : VR ρ a x) (ha : asIdx a = some m) : ∃ k, x = .int k (m : Int) := by
  cases h <;> simp [asIdx] at ha
  rename_i k n
  cases n with
  | ofNat p => simp at ha; subst ha; exact ⟨k, rfl⟩
  | negSucc p => simp at ha
def XO (ρ : Ren) (tm : Tm) (c : Option CX) (v : Option Value) : Prop :=
  match c, v with
  | none, none => True
  | some x, some v => VR ρ (x.ev tm) v
  | _, _ => False
theorem XO.of {ρ : Ren} {tm : Tm} {ev : Operand → Value} (hx : XR1 ρ tm ev) {o : Option Operand} {c : Option CX} (h : cvO o = some c) : XO ρ tm c (o.map ev) := by
  cases o with
  | none => simp [cvO] at h; subst h; exact trivial
  | some x =>
    simp only [cvO, Option.map_eq_some_iff] at h
    obtain ⟨cx, h1, rfl⟩ := h
    exact hx x cx h1
theorem run_bound {w : World} {k : IntKind} {m y : Nat} {code : BoundsCode} (h : m ≤ y) : (Instr.sliceBound (.int k (m : Int)) y code).run P w = .ok m w := by
  have : (0 : Int) ≤ (m : Int) ∧ (m : Int) ≤ (y : Int) := by omega
  simp [Instr.sliceBound, asIntOf, this.2]
theorem bounds2 {ρ : Ren} {tm : Tm} {lo hi : Option CX} {lo' hi' : Option Value} {isS : Bool} {len cap l h : Nat} {w : World} (h1 : XO ρ tm lo lo') (h2 : XO ρ tm hi hi')
    (e1 : optIdx tm lo 0 = some l) (e2 : optIdx tm hi len = some h) (hl : l ≤ h) (hh : h ≤ cap) :
    (Instr.sliceBounds isS len cap lo' hi' none).run P w = .ok (l, h, cap) w := by
  cases lo with
  | none =>
    cases lo' with
    | some _ => exact h1.elim
    | none =>
      simp [optIdx] at e1; subst e1
      cases hi with
      | none =>
        cases hi' with
        | some _ => exact h2.elim
        | none => simp [optIdx] at e2; subst e2; simp [Instr.sliceBounds]
      | some x =>
        cases hi' with
        | none => exact h2.elim
        | some v =>
          obtain ⟨k, rfl⟩ := asIdx_ok h2 (by simpa [optIdx] using e2)
          simp [Instr.sliceBounds, run_bound hh]
  | some y =>
    cases lo' with
    | none => exact h1.elim
    | some u =>
      obtain ⟨k, rfl⟩ := asIdx_ok h1 (by simpa [optIdx] using e1)
      cases hi with
      | none =>
        cases hi' with
        | some _ => exact h2.elim
        | none => simp [optIdx] at e2; subst e2; simp [Instr.sliceBounds, run_bound hl]
      | some x =>
        cases hi' with
        | none => exact h2.elim
        | some v =>
          obtain ⟨k, rfl⟩ := asIdx_ok h2 (by simpa [optIdx] using e2)
          simp [Instr.sliceBounds, run_bound hh, run_bound hl]
theorem bounds3 {ρ : Ren} {tm : Tm} {lo hi : Option CX} {lo' hi' : Option Value} {mx : CX} {mv : Value} {isS : Bool} {len cap l h m : Nat} {w : World} (h1 : XO ρ tm lo lo') (h2 : XO ρ tm hi hi')
    (h3 : VR ρ (mx.ev tm) mv) (e1 : optIdx tm lo 0 = some l) (e2 : optIdx tm hi len = some h) (e3 : asIdx (mx.ev tm) = some m) (hl : l ≤ h) (hh : h ≤ m) (hm : m ≤ cap) (hs : hi ≠ none) :
    (Instr.sliceBounds isS len cap lo' hi' (some mv)).run P w = .ok (l, h, m) w := by
  obtain ⟨k3, rfl⟩ := asIdx_ok h3 e3
  cases hi with
  | none => exact absurd rfl hs
  | some x =>
    cases hi' with
    | none => exact h2.elim
    | some v =>
      obtain ⟨k2, rfl⟩ := asIdx_ok h2 (by simpa [optIdx] using e2)
      cases lo with
      | none =>
        cases lo' with
        | some _ => exact h1.elim
        | none => simp [optIdx] at e1; subst e1; simp [Instr.sliceBounds, run_bound hh, run_bound hm]
      | some y =>
        cases lo' with
        | none => exact h1.elim
        | some u =>
          obtain ⟨k, rfl⟩ := asIdx_ok h1 (by simpa [optIdx] using e1)
          simp [Instr.sliceBounds, run_bound hh, run_bound hm, run_bound hl]
theorem sliceIt_spec {n r v o len capk cap : Nat} {tm : Tm} {lo hi mx : Option CX} {mk : Nat → Nat → Nat → Nat → AV} {a : AV} (hcap : capk = 0 ∨ capk = cap + 1) (hlen : len ≤ cap)
    (h : sliceIt n r v o len capk tm lo hi mx mk = some a) :
    ∃ l hh m ck, optIdx tm lo 0 = some l ∧ optIdx tm hi len = some hh ∧ l ≤ hh ∧ hh ≤ m ∧ m ≤ cap ∧ a = mk (o + l * n) (hh - l) ck r ∧ (ck = 0 ∨ ck = (m - l) + 1) ∧
      match mx with
      | none => m = cap
      | some x => asIdx (x.ev tm) = some m := by
  have top : ∀ m, m ≤ (if Nat.beq capk 0 = true then len else capk - 1) → m ≤ cap := by
    intro m hm
    rcases hcap with e | e
    · subst e; simp at hm; omega
    · subst e
      have : Nat.beq (cap + 1) 0 = false := rfl
      simp [this] at hm; omega
  unfold sliceIt at h
  cases e1 : optIdx tm lo 0 with
  | none => simp [e1] at h
  | some l => cases e2 : optIdx tm hi len with
    | none => simp [e1, e2] at h
    | some hh =>
      cases mx with
      | none =>
        simp only [e1, e2] at h
        by_cases hg : (Nat.ble l hh && Nat.ble hh (if Nat.beq capk 0 = true then len else capk - 1)) = true
        · rw [if_pos hg] at h
          simp only [Bool.and_eq_true] at hg
          have g1 := Nat.le_of_ble_eq_true hg.1
          have g2 := top _ (Nat.le_of_ble_eq_true hg.2)
          cases h
          refine ⟨l, hh, cap, _, rfl, rfl, g1, g2, Nat.le_refl _, rfl, ?_, rfl⟩
          rcases hcap with e | e
          · subst e; left; rfl
          · subst e; right
            have : Nat.beq (cap + 1) 0 = false := rfl
            simp [this]; omega
        · rw [if_neg hg] at h; cases h
      | some mc =>
        simp only [e1, e2] at h
        cases e3 : asIdx (mc.ev tm) with
        | none => simp [e3] at h
        | some m =>
          simp only [e3] at h
          by_cases hg : (Nat.ble l hh && Nat.ble hh m && Nat.ble m (if Nat.beq capk 0 = true then len else capk - 1)) = true
          · rw [if_pos hg] at h
            simp only [Bool.and_eq_true] at hg
            have g1 := Nat.le_of_ble_eq_true hg.1.1
            have g2 := Nat.le_of_ble_eq_true hg.1.2
            have g3 := top _ (Nat.le_of_ble_eq_true hg.2)
            cases h
            exact ⟨l, hh, m, _, rfl, rfl, g1, g2, g3, rfl, .inr rfl, e3⟩
          · rw [if_neg hg] at h; cases h
theorem bounds_ok {ρ : Ren} {tm : Tm} {lo hi mx : Option CX} {lo' hi' mx' : Option Value} {isS : Bool} {n r v o len capk cap : Nat} {w : World} {mk : Nat → Nat → Nat → Nat → AV} {a : AV}
    (h1 : XO ρ tm lo lo') (h2 : XO ρ tm hi hi') (h3 : XO ρ tm mx mx') (hs : mx ≠ none → hi ≠ none) (hcap : capk = 0 ∨ capk = cap + 1) (hlen : len ≤ cap)
    (h : sliceIt n r v o len capk tm lo hi mx mk = some a) :
    ∃ l hh m ck, (Instr.sliceBounds isS len cap lo' hi' mx').run P w = .ok (l, hh, m) w ∧ l ≤ hh ∧ hh ≤ m ∧ m ≤ cap ∧ a = mk (o + l * n) (hh - l) ck r ∧ (ck = 0 ∨ ck = (m - l) + 1) := by
  obtain ⟨l, hh, m, ck, e1, e2, g1, g2, g3, g4, g5, g6⟩ := sliceIt_spec hcap hlen h
  refine ⟨l, hh, m, ck, ?_, g1, g2, g3, g4, g5⟩
  cases mx with
  | none =>
    cases mx' with
    | some _ => exact h3.elim
    | none => simp only at g6; subst g6; exact bounds2 h1 h2 e1 e2 g1 g2
  | some x =>
    cases mx' with
    | none => exact h3.elim
    | some mv => exact bounds3 h1 h2 h3 e1 e2 g6 g1 g2 g3 (hs (by simp))
theorem slice_VR {ρ : Ren} {r v o len cap l h m ck n : Nat} {B : Blk} {c : Nat} (hB : ρ r v = some B) (hc : (c : Int) = o + B.s ∨ (len = 0 ∧ cap = 0)) (hz : c + cap * n ≤ B.z)
    (h1 : l ≤ h) (h2 : h ≤ m) (h3 : m ≤ cap) (hlen : len ≤ cap) (hck : ck = 0 ∨ ck = (m - l) + 1) :
    VR ρ (.slice r v (o + l * n) (h - l) ck n) (.slice (if m = l then some ⟨B.b, c, none⟩ else (some (⟨B.b, c, none⟩ : Addr)).map (·.add (l * n))) (h - l) (m - l)) := by
  by_cases e : m = l
  · subst e
    rw [if_pos rfl]
    have : h = m := by omega
    subst this
    refine .slice hB (.inr ⟨by omega, by omega⟩) (by omega) ?_ hck
    have : c ≤ B.z := Nat.le_trans (Nat.le_add_right _ _) hz
    simpa using this
  · rw [if_neg e]
    simp only [Option.map_some, add_none]
    refine .slice hB (.inl ?_) (by omega) ?_ hck
    · rcases hc with hc | hc
      · push_cast; omega
      · omega
    · have : l * n + (m - l) * n ≤ cap * n := by
        rw [← Nat.add_mul]; exact Nat.mul_le_mul_right _ (by omega)
      omega
theorem slsl_ok {ρ : Ren} {H : Heap} {w : World} {t e : TypeId} {n : Nat} {x : CX} {x' : Value} {tm : Tm} {lo hi mx : Option CX} {lo' hi' mx' : Option Value} {a : AV} {H' : Heap}
    (ht : P.underlying t = some (.slice e)) (he : ∃ i, P.info? e = some i) (hn : n = P.cellsOf e) (h : WR ρ H w) (hx : VR ρ (x.ev tm) x') (h1 : XO ρ tm lo lo') (h2 : XO ρ tm hi hi') (h3 : XO ρ tm mx mx') (hs : mx ≠ none → hi ≠ none)
    (ha : sSlsl n x lo hi mx tm H = some (a, H')) : OpOK P ρ w (Instr.sliceAt t x' lo' hi' mx') a H' := by
  obtain ⟨ie, hie⟩ := he
  unfold sSlsl at ha
  generalize x.ev tm = xa at hx ha
  cases hx <;> simp only at ha <;> try (cases ha)
  · rename_i r v o len capk el B c cc hB hc hnc hz hcap
    split at ha
    · rename_i hne
      have hne := Nat.eq_of_beq_eq_true hne
      subst hne
      split at ha
      · rename_i b hb
        cases ha
        obtain ⟨l, hh, m, ck, g1, g2, g3, g4, g5, g6⟩ := bounds_ok (P := P) (isS := true) (w := w) (cap := cc) h1 h2 h3 hs hcap hnc hb
        subst g5
        refine .pure h ?_ (slice_VR hB hc hz g2 g3 g4 hnc g6)
        simp [Instr.sliceAt, Instr.slice, run_under ht, g1, run_size hie, hn]
      · cases ha
    · cases ha
  · split at ha
    · rename_i e1 e2
      cases ha
      refine .pure (v' := .slice none 0 0) h ?_ .nils
      cases mx' with
      | some _ => exact h3.elim
      | none => simp [Instr.sliceAt, Instr.slice, run_under ht, bounds2 (P := P) (isS := true) (w := w) (cap := 0) (len := 0) h1 h2 e1 e2 (Nat.le_refl _) (Nat.le_refl _), run_size hie]
    · rename_i mc e1 e2
      split at ha
      · rename_i e3
        cases ha
        refine .pure (v' := .slice none 0 0) h ?_ .nils
        cases mx' with
        | none => exact h3.elim
        | some mv => simp [Instr.sliceAt, Instr.slice, run_under ht, bounds3 (P := P) (isS := true) (w := w) (cap := 0) (len := 0) h1 h2 h3 e1 e2 e3 (Nat.le_refl _) (Nat.le_refl _) (Nat.le_refl _) (hs (by simp)), run_size hie]
      · cases ha
    · cases ha
theorem slarr_ok {ρ : Ren} {H : Heap} {w : World} {t e : TypeId} {n len : Nat} {x : CX} {x' : Value} {tm : Tm} {lo hi mx : Option CX} {lo' hi' mx' : Option Value} {a : AV} {H' : Heap}
    (ht : P.underlying t = some (.array len e)) (he : ∃ i, P.info? e = some i) (hn : n = P.cellsOf e) (h : WR ρ H w) (hx : VR ρ (x.ev tm) x') (h1 : XO ρ tm lo lo') (h2 : XO ρ tm hi hi') (h3 : XO ρ tm mx mx') (hs : mx ≠ none → hi ≠ none)
    (ha : sSlarr len n x lo hi mx tm H = some (a, H')) : OpOK P ρ w (Instr.sliceAt t x' lo' hi' mx') a H' := by
  obtain ⟨ie, hie⟩ := he
  unfold sSlarr at ha
  generalize x.ev tm = xa at hx ha
  cases hx <;> simp only at ha <;> try (cases ha)
  rename_i r v o B c hB hc
  split at ha
  · rename_i cs ver hr
    split at ha
    · rename_i hg
      simp only [Bool.and_eq_true] at hg
      have g1 := Nat.eq_of_beq_eq_true hg.1.1
      have g2 : 0 < len * n := Nat.le_of_ble_eq_true hg.1.2
      have g3 := Nat.le_of_ble_eq_true hg.2
      subst g1
      split at ha
      · rename_i b hb
        cases ha
        obtain ⟨l, hh, m, ck, f1, f2, f3, f4, f5, f6⟩ := bounds_ok (P := P) (isS := false) (w := w) (cap := len) h1 h2 h3 hs (.inr rfl) (Nat.le_refl _) hb
        subst f5
        obtain ⟨q1, q2, q3⟩ := h.obj r _ hr
        obtain ⟨k, el, fr, w1, w2, w3, w4⟩ := (q3 ver B hB).2.ex
        have hlast : cs[o + len * n - 1]? = some cs[o + len * n - 1] := by simp
        obtain ⟨y, hy, _⟩ := w4 _ _ hlast (q1 _ (List.getElem_mem _)) (c + len * n - 1) (by omega)
        have hz : c + len * n ≤ B.z := by
          have := (Array.getElem?_eq_some_iff.1 hy).1
          omega
        have := slice_VR (n := n) hB (.inl hc) hz f2 f3 f4 (Nat.le_refl len) f6
        refine .pure h ?_ this
        have e2 : (if m = l then some (⟨B.b, c, none⟩ : Addr) else (some (⟨B.b, c, none⟩ : Addr)).map (·.add (l * n))) = some (if m = l then ⟨B.b, c, none⟩ else (⟨B.b, c, none⟩ : Addr).add (l * n)) := by split <;> rfl
        simp [Instr.sliceAt, Instr.sureAddr, run_under ht, f1, run_size hie, hn]
        split <;> rfl
      · cases ha
    · cases ha
  · cases ha
theorem idxs_ok {ρ : Ren} {H : Heap} {w : World} {t e : TypeId} {n : Nat} {x i : CX} {x' i' : Value} {tm : Tm} {a : AV} {H' : Heap}
    (ht : P.underlying t = some (.slice e)) (he : ∃ i, P.info? e = some i) (hn : n = P.cellsOf e) (h : WR ρ H w) (hx : VR ρ (x.ev tm) x') (hi : VR ρ (i.ev tm) i')
    (ha : sIdxs n x i tm H = some (a, H')) : OpOK P ρ w (Instr.indexAt t x' i') a H' := by
  obtain ⟨ie, hie⟩ := he
  unfold sIdxs at ha
  cases ei : asIdx (i.ev tm) with
  | none => simp [ei] at ha
  | some m =>
    obtain ⟨k, rfl⟩ := asIdx_ok hi ei
    simp only [ei] at ha
    generalize x.ev tm = xa at hx ha
    cases hx <;> simp only at ha <;> try (cases ha)
    rename_i r v o len capk el B c cc hB hc hnc hz hcap
    split at ha
    · rename_i hg
      simp only [Bool.and_eq_true] at hg
      have g1 : m < len := Nat.le_of_ble_eq_true hg.1
      have g2 := Nat.eq_of_beq_eq_true hg.2
      subst g2
      cases ha
      have hc : (c : Int) = o + B.s := by rcases hc with hc | hc; exact hc; omega
      refine .pure (v' := .pointer (some ⟨B.b, c + m * n, none⟩)) h ?_ (.ptr hB (by push_cast; omega))
      have : ¬ len ≤ m := by omega
      simp [Instr.indexAt, asIntOf, run_under ht, g1, this, run_size hie, add_none, hn]
    · cases ha
theorem idxa_ok {ρ : Ren} {H : Heap} {w : World} {t e : TypeId} {n len : Nat} {x i : CX} {x' i' : Value} {tm : Tm} {a : AV} {H' : Heap}
    (ht : P.underlying t = some (.array len e)) (he : ∃ i, P.info? e = some i) (hn : n = P.cellsOf e) (h : WR ρ H w) (hx : VR ρ (x.ev tm) x') (hi : VR ρ (i.ev tm) i')
    (ha : sIdxa len n x i tm H = some (a, H')) : OpOK P ρ w (Instr.indexAt t x' i') a H' := by
  obtain ⟨ie, hie⟩ := he
  unfold sIdxa at ha
  cases ei : asIdx (i.ev tm) with
  | none => simp [ei] at ha
  | some m =>
    obtain ⟨k, rfl⟩ := asIdx_ok hi ei
    simp only [ei] at ha
    generalize x.ev tm = xa at hx ha
    cases hx <;> simp only at ha <;> try (cases ha)
    rename_i r v o B c hB hc
    split at ha
    · rename_i hg
      have g1 : m < len := Nat.le_of_ble_eq_true hg
      cases ha
      refine .pure (v' := .pointer (some ⟨B.b, c + m * n, none⟩)) h ?_ (.ptr hB (by push_cast; omega))
      have : ¬ len ≤ m := by omega
      simp [Instr.indexAt, Instr.sureAddr, asIntOf, run_under ht, g1, this, run_size hie, add_none, hn]
    · cases ha
end Go.Ex
namespace Go.Ex
open Go
variable {P : Program}
theorem mapEq_ok : ∀ (a b : List UInt8), (a.map (·.toNat) == b.map (·.toNat)) = (a == b)
  | [], [] => rfl
  | [], _ :: _ => rfl
  | _ :: _, [] => rfl
  | x :: a, y :: b => by
    simp only [List.map_cons]
    show ((x.toNat == y.toNat) && (a.map (·.toNat) == b.map (·.toNat))) = ((x == y) && (a == b))
    rw [mapEq_ok a b]
    congr 1
    rw [Bool.eq_iff_iff, beq_iff_eq, beq_iff_eq]
    exact ⟨fun h => UInt8.toNat_inj.1 h, fun h => by rw [h]⟩
theorem strEq_ok (a b : ByteArray) : ((a.data.toList.map (·.toNat)) == (b.data.toList.map (·.toNat))) = (a == b) := by
  rw [mapEq_ok, beq_toListBytes, ByteArray.toList_eq, ByteArray.toList_eq]
theorem baseT_under {t : TypeId} {k : BK} (h : baseT P t = some k) : (k = .b ∧ P.underlying t = some .bool) ∨ (k = .i ∧ ∃ j, P.underlying t = some (.int j)) ∨ (k = .s ∧ P.underlying t = some .string) := by
  unfold baseT at h
  split at h <;> cases h
  · rename_i e; exact .inl ⟨rfl, e⟩
  · rename_i j e; exact .inr (.inl ⟨rfl, j, e⟩)
  · rename_i e; exact .inr (.inr ⟨rfl, e⟩)
theorem eqB_ok {ρ : Ren} {w : World} {t : TypeId} {k : BK} {a b : AV} {x y : Value} {r : Bool} {d : Nat} (ht : baseT P t = some k) (hx : VR ρ a x) (hy : VR ρ b y) (h : aEqB k a b = some r) :
    (Op.equalIn (d + 1) t x y).run P w = .ok r w := by
  rcases baseT_under ht with ⟨rfl, hu⟩ | ⟨rfl, j, hu⟩ | ⟨rfl, hu⟩
  · cases hx <;> simp only [aEqB] at h <;> try (cases h)
    cases hy <;> simp only [aEqB] at h <;> try (cases h)
    simp [Op.equalIn, run_under hu]
  · cases hx <;> simp only [aEqB] at h <;> try (cases h)
    cases hy <;> simp only [aEqB] at h <;> try (cases h)
    split at h
    · rename_i hk
      have hk := of_decide_eq_true hk
      cases h
      simp [Op.equalIn, run_under hu, hk]
    · cases h
  · cases hx <;> simp only [aEqB] at h <;> try (cases h)
    cases hy <;> simp only [aEqB] at h <;> try (cases h)
    rw [strEq_ok]
    simp [Op.equalIn, run_under hu]
theorem base_notAgg {t : TypeId} {k : BK} (h : baseT P t = some k) : isAggT P t = false := by
  rcases baseT_under h with ⟨_, hu⟩ | ⟨_, j, hu⟩ | ⟨_, hu⟩ <;> simp [isAggT, hu]
theorem base_some {t : TypeId} {k : BK} (h : baseT P t = some k) : ∃ d, P.underlying t = some d := by
  rcases baseT_under h with ⟨_, hu⟩ | ⟨_, j, hu⟩ | ⟨_, hu⟩ <;> exact ⟨_, hu⟩
theorem part_base {w : World} {t : TypeId} {k : BK} {cs : Array Value} {off : Nat} {x : Value} (h : baseT P t = some k) (hx : cs[off]? = some x) : (part t cs off).run P w = .ok x w := by
  obtain ⟨d, hd⟩ := base_some h
  simp [part, run_isAgg hd, base_notAgg h, hx]
theorem eqFields_ok {ρ : Ren} {w : World} {d : Nat} {xs ys : Array Value} : ∀ (fs : List Field) (i : Nat) (ks : List BK) (as bs : List AV) (r : Bool), fieldsT P fs i = some ks →
    VRs ρ as (xs.toList.drop i) → VRs ρ bs (ys.toList.drop i) → aEqBs ks as bs = some r → (Op.eqFields (d + 1) xs ys fs).run P w = .ok r w
  | [], i, ks, as, bs, r, hf, hx, hy, h => by
    simp [fieldsT] at hf; subst hf
    cases as <;> cases bs <;> simp [aEqBs] at h
    subst h; simp [Op.eqFields]
  | f :: fs, i, ks, as, bs, r, hf, hx, hy, h => by
    simp only [fieldsT] at hf
    split at hf
    · rename_i hg
      simp only [Bool.and_eq_true, bne_iff_ne, beq_iff_eq] at hg
      split at hf
      · rename_i k ks' e1 e2
        cases hf
        cases as with
        | nil => simp [aEqBs] at h
        | cons a as => cases bs with
          | nil => simp [aEqBs] at h
          | cons b bs =>
            have gx : ∃ x, xs[i]? = some x ∧ VR ρ a x ∧ VRs ρ as (xs.toList.drop (i + 1)) := by
              cases hd : xs.toList.drop i with
              | nil => rw [hd] at hx; cases hx
              | cons x l =>
                rw [hd] at hx
                cases hx with
                | cons h1 h2 =>
                  have : xs.toList[i]? = some x := by
                    have := List.getElem?_drop (xs := xs.toList) (i := i) (j := 0); rw [hd] at this; simpa using this.symm
                  refine ⟨x, by simpa using this, h1, ?_⟩
                  have : xs.toList.drop (i + 1) = l := by rw [← List.drop_drop, hd]; rfl
                  rw [this]; exact h2
            have gy : ∃ x, ys[i]? = some x ∧ VR ρ b x ∧ VRs ρ bs (ys.toList.drop (i + 1)) := by
              cases hd : ys.toList.drop i with
              | nil => rw [hd] at hy; cases hy
              | cons x l =>
                rw [hd] at hy
                cases hy with
                | cons h1 h2 =>
                  have : ys.toList[i]? = some x := by
                    have := List.getElem?_drop (xs := ys.toList) (i := i) (j := 0); rw [hd] at this; simpa using this.symm
                  refine ⟨x, by simpa using this, h1, ?_⟩
                  have : ys.toList.drop (i + 1) = l := by rw [← List.drop_drop, hd]; rfl
                  rw [this]; exact h2
            obtain ⟨x, ex, vx, tx⟩ := gx
            obtain ⟨y, ey, vy, ty⟩ := gy
            simp only [aEqBs] at h
            cases e : aEqB k a b with
            | none => simp [e] at h
            | some q =>
              have hq := eqB_ok (P := P) (w := w) (d := d) e1 vx vy e
              simp only [Op.eqFields, ne_eq, hg.1, not_false_eq_true, if_true, Sem.run_bind, hg.2, part_base e1 ex, part_base e1 ey, Result.andThen_ok, hq]
              cases q
              · simp only [e, Option.some.injEq] at h; subst h; simp
              · simp only [e] at h; simp only [Bool.not_true, Bool.false_eq_true, if_false]
                exact eqFields_ok fs (i + 1) ks' as bs r e2 tx ty h
      · cases hf
    · cases hf
theorem eqArr_ok {ρ : Ren} {w : World} {d : Nat} {e : TypeId} {k : BK} {xs ys : Array Value} (he : baseT P e = some k) (h1 : P.cellsOf e = 1) (body : Nat → Sem (ForInStep (Option Bool × Unit)))
    (hbody : ∀ i x y q, xs[i]? = some x → ys[i]? = some y → (Op.equalIn (d + 1) e x y).run P w = .ok q w → (body i).run P w = .ok (if q then ForInStep.yield (none, ()) else ForInStep.done (some false, ())) w) :
    ∀ (m i : Nat) (as bs : List AV) (r : Bool), VRs ρ as (xs.toList.drop i) → VRs ρ bs (ys.toList.drop i) → aEqBs (List.replicate m k) as bs = some r →
      (forIn (List.range' i m 1) ((none, ()) : Option Bool × Unit) fun i _ => body i).run P w = .ok (if r then (none, ()) else (some false, ())) w
  | 0, i, as, bs, r, hx, hy, h => by
    cases as <;> cases bs <;> simp [aEqBs] at h
    subst h; simp
  | m + 1, i, as, bs, r, hx, hy, h => by
    rw [List.replicate_succ] at h
    cases as with
    | nil => simp [aEqBs] at h
    | cons a as => cases bs with
      | nil => simp [aEqBs] at h
      | cons b bs =>
        have g : ∀ (zs : Array Value) (c : AV) (cs : List AV), VRs ρ (c :: cs) (zs.toList.drop i) → ∃ x, zs[i]? = some x ∧ VR ρ c x ∧ VRs ρ cs (zs.toList.drop (i + 1)) := by
          intro zs c cs hz
          cases hd : zs.toList.drop i with
          | nil => rw [hd] at hz; cases hz
          | cons x l =>
            rw [hd] at hz
            cases hz with
            | cons h1 h2 =>
              have : zs.toList[i]? = some x := by
                have := List.getElem?_drop (xs := zs.toList) (i := i) (j := 0); rw [hd] at this; simpa using this.symm
              refine ⟨x, by simpa using this, h1, ?_⟩
              have : zs.toList.drop (i + 1) = l := by rw [← List.drop_drop, hd]; rfl
              rw [this]; exact h2
        obtain ⟨x, ex, vx, tx⟩ := g xs a as hx
        obtain ⟨y, ey, vy, ty⟩ := g ys b bs hy
        simp only [aEqBs] at h
        cases e1 : aEqB k a b with
        | none => simp [e1] at h
        | some q =>
          have hq := eqB_ok (P := P) (w := w) (d := d) he vx vy e1
          have hb := hbody i x y q ex ey hq
          rw [List.range'_succ, List.forIn_cons, Sem.run_bind, hb]
          cases q
          · simp only [e1, Option.some.injEq] at h; subst h; simp
          · simp only [e1] at h
            simp only [Result.andThen_ok, if_true]
            exact eqArr_ok he h1 body hbody m (i + 1) as bs r tx ty h
theorem equal_ok {ρ : Ren} {w : World} {t : TypeId} {ek : EK} {a b : AV} {x y : Value} {r cst : Bool} {d : Nat} (ht : shapeT P t = some ek) (hx : VR ρ a x) (hy : VR ρ b y) (h : aEq cst ek a b = some r) :
    (Op.equalIn (d + 2) t x y).run P w = .ok r w := by
  unfold shapeT at ht
  cases eb : baseT P t with
  | some k =>
    simp only [eb, Option.some.injEq] at ht
    subst ht
    exact eqB_ok eb hx hy (by simpa [aEq] using h)
  | none =>
    simp only [eb] at ht
    split at ht
    · rename_i fs hu
      split at ht
      · rename_i hs
        simp only [Option.map_eq_some_iff] at ht
        obtain ⟨ks, hk, rfl⟩ := ht
        cases hx <;> simp only [aEq] at h <;> try (cases h)
        cases hy <;> simp only [aEq] at h <;> try (cases h)
        rename_i as xs hx bs ys hy
        have hfo : P.fieldsOf t = fs := by simp [Program.fieldsOf, hu]
        rw [run_equalIn_struct (P := P) w (d + 1) t xs ys (by rw [hfo]; exact hu) (by simpa using hs), hfo]
        exact eqFields_ok fs.toList 0 ks as bs r hk (by simpa using hx) (by simpa using hy) h
      · cases ht
    · rename_i n e hu
      split at ht
      · rename_i k he
        split at ht
        · rename_i h1
          have h1 : P.cellsOf e = 1 := by simpa using h1
          cases ht
          cases hx <;> simp only [aEq] at h <;> try (cases h)
          cases hy <;> simp only [aEq] at h <;> try (cases h)
          rename_i as xs hx bs ys hy
          obtain ⟨de, hde⟩ := base_some he
          rw [Op.equalIn]
          simp only [Sem.run_bind, run_under hu, Result.andThen_ok, run_size' hde, h1]
          rw [Std.Legacy.Range.forIn_eq_forIn_range']
          have := eqArr_ok (P := P) (w := w) (d := d) (ρ := ρ) (xs := xs) (ys := ys) he h1 (fun i => do
              let a ← part e xs (i * 1)
              let b ← part e ys (i * 1)
              let c ← Op.equalIn (d + 1) e a b
              if (!c) = true then pure (.done (some false, ())) else pure (.yield (none, ()))) (by
            intro i x y q ex ey hq
            simp only [Nat.mul_one, Sem.run_bind, part_base he ex, part_base he ey, Result.andThen_ok, hq]
            cases q <;> simp) n 0 as bs r (by simpa using hx) (by simpa using hy) h
          have hr : Std.Legacy.Range.size { start := 0, stop := n, step := 1, step_pos := by decide } = n := by simp [Std.Legacy.Range.size]
          simp only [hr]
          rw [this]
          cases r <;> simp
        · cases ht
      · cases ht
    · cases ht
end Go.Ex
namespace Go.Ex
open Go
variable {P : Program}
theorem eqGuardType_base {t : TypeId} {k : BK} {d : Nat} (h : baseT P t = some k) : P.eqGuardType (d + 1) t = false := by
  rcases baseT_under h with ⟨_, hu⟩ | ⟨_, j, hu⟩ | ⟨_, hu⟩ <;> simp [Program.eqGuardType, hu]
theorem fieldsT_any {d : Nat} : ∀ (fs : List Field) (i : Nat) (ks : List BK), fieldsT P fs i = some ks → (fs.any fun f => f.name != "_" && P.eqGuardType (d + 1) f.type) = false
  | [], _, _, _ => rfl
  | f :: fs, i, ks, h => by
    simp only [fieldsT] at h
    split at h
    · split at h
      · rename_i k ks' e1 e2
        simp only [List.any_cons, eqGuardType_base e1, Bool.and_false, Bool.false_or]
        exact fieldsT_any fs _ _ e2
      · cases h
    · cases h
theorem eqGuardType_shape {t : TypeId} {ek : EK} {d : Nat} (h : shapeT P t = some ek) : P.eqGuardType (d + 2) t = false := by
  unfold shapeT at h
  cases eb : baseT P t with
  | some k => exact eqGuardType_base eb
  | none =>
    simp only [eb] at h
    split at h
    · rename_i fs hu
      split at h
      · simp only [Option.map_eq_some_iff] at h
        obtain ⟨ks, hk, _⟩ := h
        have := fieldsT_any (P := P) (d := d) fs.toList 0 ks hk
        rw [Program.eqGuardType]
        simp only [hu]
        rw [← this]
        simp [Array.any_toList]
      · cases h
    · rename_i n e hu
      split at h
      · rename_i k he
        rw [Program.eqGuardType]
        simp only [hu]
        exact eqGuardType_base he
      · cases h
    · cases h
theorem int_ok {w : World} {op : BinOp} {k : IntKind} {x y : Int} {v : AV} (h : aInt op k x y = some v) (hs : op ≠ .shl ∧ op ≠ .shr) {t : TypeId} :
    ∃ v', (binOp op t (.int k x) (.int k y)).run P w = .ok v' w ∧ ∀ ρ : Ren, VR ρ v v' := by
  cases op <;> simp only [aInt] at h <;> first
    | exact absurd rfl hs.1
    | exact absurd rfl hs.2
    | (cases h; exact ⟨_, by simp [binOp, Op.intArith, Op.intBits, Op.intCmp]; rfl, fun ρ => by constructor⟩)
    | (cases h; exact ⟨_, by simp only [binOp, ne_eq, not_true_eq_false, if_false, Op.intBits]; rfl, fun ρ => by constructor⟩)
    | (split at h
       · cases h
       · rename_i hy
         cases h
         have hy' : ¬ y = 0 := by simpa using hy
         exact ⟨_, by simp [binOp, Op.intDiv, hy']; rfl, fun ρ => by constructor⟩)
theorem shift_ok {w : World} {op : BinOp} {k j : IntKind} {x y : Int} {v : AV} (h : aShift op k x y = some v) {t : TypeId} :
    ∃ v', (binOp op t (.int k x) (.int j y)).run P w = .ok v' w ∧ ∀ ρ : Ren, VR ρ v v' := by
  unfold aShift at h
  split at h
  · cases h
  · rename_i hy
    have hy' : ¬ y < 0 := by simpa using hy
    cases op <;> simp only at h <;> first
      | cases h; done
      | (cases h; exact ⟨_, by simp [binOp, Op.shift, hy']; rfl, fun ρ => by constructor⟩)
theorem less_ok : ∀ (a b : List UInt8), strLess (a.map (·.toNat)) (b.map (·.toNat)) = Op.bytesLess a b
  | [], [] => rfl
  | _ :: _, [] => rfl
  | [], _ :: _ => rfl
  | x :: a, y :: b => by
    simp only [List.map_cons, strLess, Op.bytesLess, less_ok a b]
    have h1 : Nat.blt x.toNat y.toNat = decide (x < y) := by
      rw [Bool.eq_iff_iff]; simp [Nat.blt_eq, UInt8.lt_iff_toNat_lt]
    have h2 : Nat.beq x.toNat y.toNat = (x == y) := by
      rw [Bool.eq_iff_iff]; simp [Nat.beq_eq, UInt8.toNat_inj]
    rw [h1, h2]
theorem str_ok {ρ : Ren} {w : World} {op : BinOp} {a b : ByteArray} {v : AV} {t : TypeId} (h : aStr op (a.data.toList.map (·.toNat)) (b.data.toList.map (·.toNat)) = some v) :
    ∃ v', (binOp op t (.string a) (.string b)).run P w = .ok v' w ∧ VR ρ v v' := by
  have e1 : ((a.data.toList.map (·.toNat)) == (b.data.toList.map (·.toNat))) = (a.toList == b.toList) := by rw [strEq_ok, beq_toListBytes]
  have e2 : strLess (a.data.toList.map (·.toNat)) (b.data.toList.map (·.toNat)) = Op.bytesLess a.toList b.toList := by rw [less_ok, ByteArray.toList_eq, ByteArray.toList_eq]
  have e3 : ((a.data.toList.map (·.toNat)) != (b.data.toList.map (·.toNat))) = !(a.toList == b.toList) := by rw [bne, e1]
  cases op <;> simp only [aStr, e1, e2, e3] at h <;> first
    | cases h; done
    | (cases h; exact ⟨_, rfl, by constructor⟩)
    | (split at h
       · rename_i hl
         cases h
         have hl := Nat.le_of_ble_eq_true hl
         simp only [List.length_map, Array.length_toList] at hl
         have hm : ¬ (((a.size + b.size : Nat) : Int) > IntKind.i64.max) := by
           have : IntKind.i64.max = 9223372036854775807 := by decide
           rw [this]
           have ha : a.size = a.data.size := rfl
           have hb : b.size = b.data.size := rfl
           omega
         refine ⟨.string (a ++ b), by simp only [binOp, Op.stringOp, hm, if_false]; rfl, ?_⟩
         have : (a.data.toList.map (·.toNat)) ++ (b.data.toList.map (·.toNat)) = (a ++ b).data.toList.map (·.toNat) := by simp
         rw [this]; exact .str _
       · cases h)
theorem eqGuard_ok {w : World} {op : BinOp} {t : TypeId} {x y : Operand} {a b : Value} (h1 : a = .nilIface → b = .nilIface → (constX x || constX y) = true)
    (h2 : ∀ xs ys, a = .agg xs → b = .agg ys → P.eqGuardType P.depth t = false) : (eqGuard op t x y a b).run P w = .ok () w := by
  unfold eqGuard
  cases op <;> simp
  all_goals
    cases a <;> cases b <;> simp
    all_goals first
      | (have := h2 _ _ rfl rfl; simp [run_program, this])
      | (have := h1 rfl rfl
         cases x <;> simp_all [constX]
         all_goals cases y <;> simp_all [constX])
theorem sameAddr_same {w : World} {a b : Addr} (h : a.block = b.block) : (sameAddr a b).run P w = .ok (a == b) w := by simp [sameAddr, h]
end Go.Ex
namespace Go.Ex
open Go
variable {P : Program}
theorem depth_eq : P.depth = 2 * (P.types.size + Made.depth) + 2 := rfl
theorem const_nil {x : Operand} {cx : CX} (h : cvX x = some cx) : True := trivial
theorem eq_ok {ρ : Ren} {H : Heap} {w : World} {t : TypeId} {cst : Bool} {a b : AV} {x y : Value} {r : Bool} (_h : WR ρ H w) (hx : VR ρ a x) (hy : VR ρ b y) (h : aEq cst (ekOf P t) a b = some r) :
    (Op.equal t x y).run P w = .ok r w := by
  unfold ekOf at h
  cases es : shapeT P t with
  | some ek =>
    simp only [es] at h
    exact equal_ok (P := P) (w := w) (d := 9998) es hx hy h
  | none =>
    simp only [es] at h
    unfold Op.equal Op.maxDepth
    split at h
    · rename_i e hu
      split at h
      · cases hx <;> cases hy <;> simp [aEq] at h
      · rename_i hsz
        obtain ⟨ie, hie⟩ : ∃ i, P.info? e = some i := by
          cases e1 : P.info? e with
          | some i => exact ⟨i, rfl⟩
          | none => exact absurd (by simp [Program.cellsOf, e1]) hsz
        cases hx <;> simp only [aEq] at h <;> try (cases h)
        · cases hy <;> simp only [aEq] at h <;> try (cases h)
          · rename_i r1 v1 o1 B1 c1 h1 hc1 r2 v2 o2 B2 c2 h2 hc2
            split at h
            · rename_i hg
              simp only [Bool.and_eq_true] at hg
              have e1 := Nat.eq_of_beq_eq_true hg.1
              have e2 := Nat.eq_of_beq_eq_true hg.2
              subst e1 e2
              rw [h1] at h2; cases h2
              cases h
              rw [Op.equalIn]
              simp only [Sem.run_bind, run_under hu, Result.andThen_ok, run_size hie, ne_eq, hsz, not_false_eq_true, if_true]
              rw [sameAddr_same (a := ⟨B1.b, c1, none⟩) (b := ⟨B1.b, c2, none⟩) rfl]
              congr 1
              rw [Bool.eq_iff_iff]
              simp [Nat.beq_eq]
              omega
            · cases h
          · rw [Op.equalIn]; simp [run_under hu]
        · cases hy <;> simp only [aEq] at h <;> try (cases h)
          · rw [Op.equalIn]; simp [run_under hu]
          · rw [Op.equalIn]; simp [run_under hu]
    · rename_i e hu
      cases hx <;> simp only [aEq] at h <;> try (cases h)
      all_goals (cases hy <;> simp only [aEq] at h <;> try (cases h))
      all_goals (rw [Op.equalIn]; simp [run_under hu])
    · rename_i e e' hu
      cases hx <;> simp only [aEq] at h <;> try (cases h)
      all_goals (cases hy <;> simp only [aEq] at h <;> try (cases h))
      all_goals (rw [Op.equalIn]; simp [run_under hu])
    · rename_i e hu
      cases hx <;> simp only [aEq] at h <;> try (cases h)
      all_goals (cases hy <;> simp only [aEq] at h <;> try (cases h))
      all_goals (rw [Op.equalIn]; simp [run_under hu])
    · rename_i e hu
      cases hx <;> simp only [aEq] at h <;> try (cases h)
      all_goals (cases hy <;> simp only [aEq] at h <;> try (cases h))
      all_goals first
        | (rw [Op.equalIn]; simp [run_under hu]; done)
        | (split at h
           · cases h; rw [Op.equalIn]; simp [run_under hu]
           · cases h)
    · cases hx <;> cases hy <;> simp [aEq] at h
theorem bin_ok {ρ : Ren} {H : Heap} {w : World} {op : BinOp} {t : TypeId} {xo yo : Operand} {a b v : AV} {x y : Value} (h : WR ρ H w) (hx : VR ρ a x) (hy : VR ρ b y)
    (hb : aBin op (ekOf P t) (constX xo || constX yo) a b = some v) : OpOK P ρ w (do eqGuard op t xo yo x y; binOp op t x y) v H := by
  have fin : ∀ v', (eqGuard op t xo yo x y).run P w = .ok () w → (binOp op t x y).run P w = .ok v' w → VR ρ v v' → OpOK P ρ w (do eqGuard op t xo yo x y; binOp op t x y) v H := by
    intro v' g1 g2 g3
    exact .pure h (by simp [g1, g2]) g3
  unfold aBin at hb
  split at hb
  · rename_i k p j q
    cases hx
    cases hy
    have hg : (eqGuard op t xo yo (.int k p) (.int j q)).run P w = .ok () w := eqGuard_ok (by intro h; cases h) (by intro xs ys h; cases h)
    split at hb
    · obtain ⟨v', g1, g2⟩ := shift_ok (P := P) (w := w) (t := t) (j := j) hb
      exact fin v' hg g1 (g2 ρ)
    · obtain ⟨v', g1, g2⟩ := shift_ok (P := P) (w := w) (t := t) (j := j) hb
      exact fin v' hg g1 (g2 ρ)
    · rename_i hs1 hs2
      split at hb
      · rename_i hk
        have hk := of_decide_eq_true hk
        subst hk
        obtain ⟨v', g1, g2⟩ := int_ok (P := P) (w := w) (t := t) hb ⟨hs1, hs2⟩
        exact fin v' hg g1 (g2 ρ)
      · cases hb
  · rename_i p q
    generalize hpa : AV.str p = pa at hx
    generalize hqa : AV.str q = qa at hy
    cases hx <;> cases hpa
    cases hy <;> cases hqa
    rename_i s1 s2
    obtain ⟨v', g1, g2⟩ := str_ok (P := P) (w := w) (t := t) (ρ := ρ) hb
    exact fin v' (eqGuard_ok (by intro h; cases h) (by intro xs ys h; cases h)) g1 g2
  · rename_i n1 n2
    have hne : ∀ r, aEq (constX xo || constX yo) (ekOf P t) a b = some r → (eqGuard op t xo yo x y).run P w = .ok () w := by
      intro r hr
      refine eqGuard_ok (fun e1 e2 => ?_) (fun xs ys e1 e2 => ?_)
      · subst e1 e2
        cases hx; cases hy
        unfold aEq at hr
        split at hr <;> try (cases hr; done)
        all_goals first
          | (simp_all [aEqB]; done)
          | (rename_i hnil; simp_all; done)
          | (split at hr
             · assumption
             · cases hr)
      · subst e1 e2
        cases hx; cases hy
        unfold ekOf at hr
        cases es : shapeT P t with
        | some ek => rw [depth_eq]; exact eqGuardType_shape es
        | none =>
          simp only [es] at hr
          split at hr <;> (try split at hr) <;> simp [aEq] at hr
    have hbin : ∀ r, aEq (constX xo || constX yo) (ekOf P t) a b = some r → (op = .eql → (binOp op t x y).run P w = .ok (.bool r) w) ∧ (op = .neq → (binOp op t x y).run P w = .ok (.bool !r) w) := by
      intro r hr
      have he := eq_ok (P := P) h hx hy hr
      constructor
      · rintro rfl
        cases hx <;> cases hy <;> first
          | exact absurd rfl (n1 _ _ _ _ rfl)
          | exact absurd rfl (n2 _ _ rfl)
          | (simp [binOp, he]; done)
          | (exfalso; exact n1 _ _ _ _ rfl rfl)
          | (exfalso; exact n2 _ _ rfl rfl)
      · rintro rfl
        cases hx <;> cases hy <;> first
          | exact absurd rfl (n1 _ _ _ _ rfl)
          | exact absurd rfl (n2 _ _ rfl)
          | (simp [binOp, he]; done)
          | (exfalso; exact n1 _ _ _ _ rfl rfl)
          | (exfalso; exact n2 _ _ rfl rfl)
    split at hb
    · cases e : aEq (constX xo || constX yo) (ekOf P t) a b with
      | none => simp [e] at hb
      | some r =>
        simp only [e, Option.some.injEq] at hb
        subst hb
        exact fin _ (hne r e) ((hbin r e).1 rfl) (.bool _)
    · cases e : aEq (constX xo || constX yo) (ekOf P t) a b with
      | none => simp [e] at hb
      | some r =>
        simp only [e, Option.some.injEq] at hb
        subst hb
        exact fin _ (hne r e) ((hbin r e).2 rfl) (.bool _)
    · cases hb
end Go.Ex
namespace Go.Ex
open Go
variable {P : Program}
theorem run_getObj' {w : World} {r : Nat} {o : Obj} (h : w.heap[r]? = some o) (hc : ∀ c e f, o ≠ .cells c e f) : (getObj r).run P w = .ok o w := by
  cases o <;> simp_all [getObj, Sem.run]
theorem run_setObj' {w : World} {r : Nat} {o o' : Obj} (h : w.heap[r]? = some o) (hc : ∀ c e f, o ≠ .cells c e f) : (setObj r o').run P w = .ok () { w with heap := w.heap.setIfInBounds r o' } := by
  cases o <;> simp_all [setObj, Sem.run]
theorem mapOf_ok {ρ : Ren} {H : Heap} {w : World} {a : AV} {x : Value} {r clock : Nat} {es : List ME} (h : WR ρ H w) (hx : VR ρ a x) (hm : mapOf H a = some (r, es, clock)) :
    ∃ B es', H.get r = some (.map es clock) ∧ ρ r 0 = some B ∧ x = .map (some B.b) ∧ w.heap[B.b]? = some (.map es' clock) ∧ MRs ρ es es'.toList := by
  cases hx <;> simp only [mapOf] at hm <;> try (cases hm)
  rename_i r' B hB
  split at hm
  · rename_i es0 c0 hr
    cases hm
    obtain ⟨B', es', g1, g2, g3⟩ := h.obj _ _ hr
    rw [hB] at g1; cases g1
    exact ⟨B, es', hr, hB, rfl, g2, g3⟩
  · cases hm
theorem MRs.get {ρ : Ren} : ∀ {l : List ME} {l' : List MapEntry}, MRs ρ l l' → ∀ (i : Nat) (e : ME), l[i]? = some e → ∃ e', l'[i]? = some e' ∧ MR ρ e e'
  | _, _, .nil, i, e, h => by simp at h
  | _, _, .cons (e' := e') h t, 0, e, he => by simp at he; subst he; exact ⟨e', by simp, h⟩
  | _, _, .cons h t, i + 1, e, he => by simpa using MRs.get t i e (by simpa using he)
theorem MRs.append {ρ : Ren} : ∀ {l : List ME} {l' : List MapEntry} {m : List ME} {m' : List MapEntry}, MRs ρ l l' → MRs ρ m m' → MRs ρ (l ++ m) (l' ++ m')
  | _, _, _, _, .nil, h => h
  | _, _, _, _, .cons a t, h => .cons a (MRs.append t h)
theorem MRs.modAt {ρ : Ren} {f : ME → ME} {g : MapEntry → MapEntry} : ∀ {l : List ME} {l' : List MapEntry} (i : Nat), MRs ρ l l' → (∀ e e', l[i]? = some e → l'[i]? = some e' → MR ρ e e' → MR ρ (f e) (g e')) → MRs ρ (Go.Ex.modAt l i f) (l'.modify i g)
  | _, _, i, .nil, _ => by simpa [Go.Ex.modAt] using MRs.nil
  | _, _, 0, .cons h t, hf => by simpa [Go.Ex.modAt] using MRs.cons (hf _ _ (by simp) (by simp) h) t
  | _, _, i + 1, .cons h t, hf => by simpa [Go.Ex.modAt] using MRs.cons h (MRs.modAt i t (fun e e' h1 h2 h3 => hf e e' (by simpa using h1) (by simpa using h2) h3))
theorem MRs.delAt {ρ : Ren} : ∀ {l : List ME} {l' : List MapEntry} (i : Nat), MRs ρ l l' → MRs ρ (Go.Ex.delAt l i) (l'.eraseIdx i)
  | _, _, i, .nil => by simpa [Go.Ex.delAt] using MRs.nil
  | _, _, 0, .cons h t => by simpa [Go.Ex.delAt] using t
  | _, _, i + 1, .cons h t => by simpa [Go.Ex.delAt] using MRs.cons h (MRs.delAt i t)
theorem checkKey_base {w : World} {t : TypeId} {k : BK} {a : AV} {x : Value} {ρ : Ren} {n : Nat} {em : Bool} (ht : baseT P t = some k) (hx : VR ρ a x) (hk : bkOk k a = true) :
    (Instr.checkKey em (n + 1) t x).run P w = .ok () w := by
  rcases baseT_under ht with ⟨rfl, hu⟩ | ⟨rfl, j, hu⟩ | ⟨rfl, hu⟩
  all_goals (cases hx <;> simp [bkOk] at hk; rw [Instr.checkKey]; simp [run_under hu])
theorem checkKey_fields {ρ : Ren} {w : World} {n : Nat} {em : Bool} {xs : Array Value} : ∀ (fs : List Field) (i : Nat) (ks : List BK) (as : List AV), fieldsT P fs i = some ks →
    VRs ρ as (xs.toList.drop i) → bksOk ks as = true →
    (forIn fs PUnit.unit fun f _ => (if f.name ≠ "_" then do let v ← part f.type xs f.offset; Instr.checkKey em (n + 1) f.type v; pure (ForInStep.yield PUnit.unit) else pure (ForInStep.yield PUnit.unit) : Sem (ForInStep PUnit))).run P w = .ok ⟨⟩ w
  | [], i, ks, as, hf, hx, h => by simp
  | f :: fs, i, ks, as, hf, hx, h => by
    simp only [fieldsT] at hf
    split at hf
    · rename_i hg
      simp only [Bool.and_eq_true, bne_iff_ne, beq_iff_eq] at hg
      split at hf
      · rename_i k ks' e1 e2
        cases hf
        cases as with
        | nil => simp [bksOk] at h
        | cons a as =>
          cases hd : xs.toList.drop i with
          | nil => rw [hd] at hx; cases hx
          | cons x l =>
            rw [hd] at hx
            cases hx with
            | cons h1 h2 =>
              have hxi : xs[i]? = some x := by
                have := List.getElem?_drop (xs := xs.toList) (i := i) (j := 0); rw [hd] at this; simpa using this.symm
              have hl : xs.toList.drop (i + 1) = l := by rw [← List.drop_drop, hd]; rfl
              simp only [bksOk, Bool.and_eq_true] at h
              have hp := part_base (P := P) (w := w) e1 hxi
              rw [List.forIn_cons]
              simp only [ne_eq, hg.1, not_false_eq_true, if_true, Sem.run_bind, hg.2, hp, Result.andThen_ok, checkKey_base (P := P) (w := w) (n := n) (em := em) e1 h1 h.1, Sem.run_pure]
              exact checkKey_fields fs (i + 1) ks' as e2 (by rw [hl]; exact h2) h.2
      · cases hf
    · cases hf
theorem checkKey_arr {ρ : Ren} {w : World} {e : TypeId} {k : BK} {xs : Array Value} (he : baseT P e = some k) (body : Nat → Sem (ForInStep PUnit))
    (hbody : ∀ i a x, xs[i]? = some x → VR ρ a x → bkOk k a = true → (body i).run P w = .ok (.yield ⟨⟩) w) :
    ∀ (m i : Nat) (as : List AV), VRs ρ as (xs.toList.drop i) → bksOk (List.replicate m k) as = true → (forIn (List.range' i m 1) PUnit.unit fun i _ => body i).run P w = .ok ⟨⟩ w
  | 0, i, as, hx, h => by simp
  | m + 1, i, as, hx, h => by
    rw [List.replicate_succ] at h
    cases as with
    | nil => simp [bksOk] at h
    | cons a as =>
      cases hd : xs.toList.drop i with
      | nil => rw [hd] at hx; cases hx
      | cons x l =>
        rw [hd] at hx
        cases hx with
        | cons h1 h2 =>
          have hxi : xs[i]? = some x := by
            have := List.getElem?_drop (xs := xs.toList) (i := i) (j := 0); rw [hd] at this; simpa using this.symm
          have hl : xs.toList.drop (i + 1) = l := by rw [← List.drop_drop, hd]; rfl
          simp only [bksOk, Bool.and_eq_true] at h
          rw [List.range'_succ, List.forIn_cons, Sem.run_bind, hbody i a x hxi h1 h.1]
          simp only [Result.andThen_ok]
          exact checkKey_arr he body hbody m (i + 1) as (by rw [hl]; exact h2) h.2
theorem checkKey_ok {ρ : Ren} {w : World} {t : TypeId} {ek : EK} {a : AV} {x : Value} {n : Nat} {em : Bool} (ht : shapeT P t = some ek) (hx : VR ρ a x) (hk : keyOk ek a = true) :
    (Instr.checkKey em (n + 2) t x).run P w = .ok () w := by
  unfold shapeT at ht
  cases eb : baseT P t with
  | some k =>
    simp only [eb, Option.some.injEq] at ht
    subst ht
    exact checkKey_base eb hx (by simpa [keyOk] using hk)
  | none =>
    simp only [eb] at ht
    split at ht
    · rename_i fs hu
      split at ht
      · simp only [Option.map_eq_some_iff] at ht
        obtain ⟨ks, hf, rfl⟩ := ht
        cases hx <;> simp only [keyOk] at hk <;> try (cases hk; done)
        rename_i as xs hx
        have := checkKey_fields (P := P) (w := w) (n := n) (em := em) (xs := xs) fs.toList 0 ks as hf (by simpa using hx) hk
        rw [Instr.checkKey]
        simp only [Sem.run_bind, run_under hu, Result.andThen_ok]
        rw [← Array.forIn_toList, this]; rfl
      · cases ht
    · rename_i m e hu
      split at ht
      · rename_i k he
        split at ht
        · rename_i h1
          have h1 : P.cellsOf e = 1 := by simpa using h1
          cases ht
          cases hx <;> simp only [keyOk] at hk <;> try (cases hk; done)
          rename_i as xs hx
          obtain ⟨de, hde⟩ := base_some he
          rw [Instr.checkKey]
          simp only [Sem.run_bind, run_under hu, Result.andThen_ok]
          rw [Std.Legacy.Range.forIn_eq_forIn_range']
          have hr : Std.Legacy.Range.size { start := 0, stop := m, step := 1, step_pos := by decide } = m := by simp [Std.Legacy.Range.size]
          simp only [hr]
          have key := checkKey_arr (P := P) (w := w) (ρ := ρ) (xs := xs) he (fun i => do
              let a ← sizeOf e
              let b ← part e xs (i * a)
              Instr.checkKey em (n + 1) e b
              pure (ForInStep.yield PUnit.unit)) (fun i a x hxi hv hb => by
            simp only [Sem.run_bind, run_size' hde, h1, Result.andThen_ok, Nat.mul_one, part_base he hxi, checkKey_base (P := P) (w := w) (n := n) (em := em) he hv hb, Sem.run_pure]) m 0 as (by simpa using hx) hk
          rw [key]; rfl
        · cases ht
      · cases ht
    · cases ht
theorem sameBits_base {ρ : Ren} {k : BK} {a b : AV} {x y : Value} {n : Nat} (hx : VR ρ a x) (hy : VR ρ b y) (h : aEqB k a b = some true) : Instr.sameBits (n + 1) y x = true := by
  cases k <;> cases hx <;> simp only [aEqB] at h <;> try (cases h; done)
  all_goals (cases hy <;> simp only [aEqB] at h <;> try (cases h; done))
  · simp only [Option.some.injEq] at h; rw [Instr.sameBits]; rw [beq_iff_eq] at h ⊢; exact h.symm
  · split at h
    · rename_i hk
      have hk := of_decide_eq_true hk
      simp only [Option.some.injEq] at h
      rw [Instr.sameBits]
      rw [beq_iff_eq] at h
      simp [hk, h]
    · cases h
  · simp only [Option.some.injEq] at h
    rw [strEq_ok] at h
    rw [Instr.sameBits, beq_toListBytes]
    rw [beq_toListBytes] at h
    rw [beq_iff_eq] at h ⊢; exact h.symm
theorem sameBits_list {ρ : Ren} {n : Nat} : ∀ (ks : List BK) (as bs : List AV) (xs ys : List Value), VRs ρ as xs → VRs ρ bs ys → aEqBs ks as bs = some true →
    xs.length = ys.length ∧ (ys.zip xs).all (fun (x, y) => Instr.sameBits (n + 1) x y) = true
  | [], as, bs, xs, ys, hx, hy, h => by
    cases hx <;> cases hy <;> simp [aEqBs] at h ⊢
  | k :: ks, as, bs, xs, ys, hx, hy, h => by
    cases hx with
    | nil => simp [aEqBs] at h
    | cons h1 t1 => cases hy with
      | nil => simp [aEqBs] at h
      | cons h2 t2 =>
        simp only [aEqBs] at h
        split at h
        · rename_i e
          obtain ⟨g1, g2⟩ := sameBits_list (n := n) ks _ _ _ _ t1 t2 h
          refine ⟨by simp [g1], ?_⟩
          simp only [List.zip_cons_cons, List.all_cons, Bool.and_eq_true]
          exact ⟨sameBits_base h1 h2 e, g2⟩
        · cases h
        · cases h
theorem sameBits_ok {ρ : Ren} {ek : EK} {cst : Bool} {a b : AV} {x y : Value} {n : Nat} (hk : keyOk ek a = true) (hx : VR ρ a x) (hy : VR ρ b y) (h : aEq cst ek a b = some true) : Instr.sameBits (n + 2) y x = true := by
  cases ek with
  | base k => exact sameBits_base hx hy (by simpa [aEq] using h)
  | cells ks =>
    cases hx <;> simp only [keyOk] at hk <;> try (cases hk; done)
    cases hy <;> simp only [aEq] at h <;> try (cases h; done)
    rename_i as xs hx bs ys hy
    obtain ⟨g1, g2⟩ := sameBits_list (n := n) ks _ _ _ _ hx hy h
    rw [Instr.sameBits]
    simp only [Bool.and_eq_true, beq_iff_eq]
    exact ⟨by simpa using g1.symm, g2⟩
  | ptr => simp [keyOk] at hk
  | slice => simp [keyOk] at hk
  | map => simp [keyOk] at hk
  | func => simp [keyOk] at hk
  | iface => simp [keyOk] at hk
  | no => simp [keyOk] at hk
theorem sameNow_base {ρ : Ren} {t : TypeId} {k : BK} {a b : AV} {x y : Value} {r : Bool} {d : TypeDesc} (ht : baseT P t = some k) (hd : P.underlying t = some d) (hx : VR ρ a x) (hy : VR ρ b y) (h : aEqB k a b = some r) :
    Instr.sameNow d x y = some r := by
  rcases baseT_under ht with ⟨rfl, hu⟩ | ⟨rfl, j, hu⟩ | ⟨rfl, hu⟩
  all_goals (rw [hd] at hu; cases hu)
  all_goals (cases hx <;> simp only [aEqB] at h <;> try (cases h; done))
  all_goals (cases hy <;> simp only [aEqB] at h <;> try (cases h; done))
  · cases h; simp [Instr.sameNow]
  · split at h
    · rename_i hk
      have hk := of_decide_eq_true hk
      cases h; simp [Instr.sameNow, hk]
    · cases h
  · cases h; rw [strEq_ok]; simp [Instr.sameNow]
def FK (ρ : Ren) (es : List ME) (es' : List MapEntry) (off : Nat) (r : Option (Nat × ME)) (r' : Option (Nat × Value)) : Prop :=
  match r, r' with
  | none, none => True
  | some (j, e), some (j', v) => j' = j ∧ off ≤ j ∧ es[j - off]? = some e ∧ ∃ e', es'[j - off]? = some e' ∧ v = e'.val
  | _, _ => False
theorem FK.step {ρ : Ren} {es : List ME} {es' : List MapEntry} {off : Nat} {r : Option (Nat × ME)} {r' : Option (Nat × Value)} {e0 : ME} {e1 : MapEntry} (h : FK ρ es es' (off + 1) r r') : FK ρ (e0 :: es) (e1 :: es') off r r' := by
  unfold FK at h ⊢
  split
  · trivial
  · rename_i j e j' v
    simp only at h
    obtain ⟨h1, h2, h3, h4⟩ := h
    have : j - off = (j - (off + 1)) + 1 := by omega
    rw [this]
    exact ⟨h1, by omega, by simpa using h3, by simpa using h4⟩
  · rename_i h1 h2
    split at h
    · exact absurd rfl (h1 rfl)
    · exact absurd rfl (h2 _ _ _ _ rfl)
    · exact h
theorem findNow_ok {ρ : Ren} {t : TypeId} {k : BK} {d : TypeDesc} {a : AV} {x : Value} (ht : baseT P t = some k) (hd : P.underlying t = some d) (hx : VR ρ a x) :
    ∀ (es : List ME) (es' : List MapEntry) (i : Nat) (r : Option (Nat × ME)), MRs ρ es es' → findKey' (.base k) a es i = some r → ∃ r', Instr.findNow d x es' i = some r' ∧ FK ρ es es' i r r'
  | _, _, i, r, .nil, h => by simp [findKey'] at h; subst h; exact ⟨none, by simp [Instr.findNow], trivial⟩
  | e :: es, e' :: es', i, r, .cons h1 t1, h => by
    simp only [findKey', aEq] at h
    split at h
    · rename_i q
      cases h
      exact ⟨some (i, e'.val), by simp [Instr.findNow, sameNow_base ht hd hx h1.key q], rfl, Nat.le_refl _, by simp, e', by simp, rfl⟩
    · rename_i q
      obtain ⟨r', g1, g2⟩ := findNow_ok ht hd hx es es' (i + 1) r t1 h
      exact ⟨r', by simp [Instr.findNow, sameNow_base ht hd hx h1.key q, g1], g2.step⟩
    · cases h
theorem findAsking_ok {ρ : Ren} {w : World} {t : TypeId} {ek : EK} {a : AV} {x : Value} (ht : shapeT P t = some ek) (hx : VR ρ a x) :
    ∀ (es : List ME) (es' : List MapEntry) (i : Nat) (r : Option (Nat × ME)), MRs ρ es es' → findKey' ek a es i = some r → ∃ r', (Instr.findAsking t x es' i).run P w = .ok r' w ∧ FK ρ es es' i r r'
  | _, _, i, r, .nil, h => by simp [findKey'] at h; subst h; exact ⟨none, by simp [Instr.findAsking], trivial⟩
  | e :: es, e' :: es', i, r, .cons h1 t1, h => by
    simp only [findKey'] at h
    split at h
    · rename_i q
      cases h
      have := equal_ok (P := P) (w := w) (d := 9998) ht hx h1.key q
      exact ⟨some (i, e'.val), by simp [Instr.findAsking, Op.equal, Op.maxDepth, this], rfl, Nat.le_refl _, by simp, e', by simp, rfl⟩
    · rename_i q
      have := equal_ok (P := P) (w := w) (d := 9998) ht hx h1.key q
      obtain ⟨r', g1, g2⟩ := findAsking_ok (w := w) ht hx es es' (i + 1) r t1 h
      exact ⟨r', by simp [Instr.findAsking, Op.equal, Op.maxDepth, this, g1], g2.step⟩
    · cases h
theorem sameNow_agg (d : TypeDesc) (xs : Array Value) (y : Value) : Instr.sameNow d (.agg xs) y = none := by
  cases d <;> cases y <;> rfl
theorem findKey_ok {ρ : Ren} {w : World} {t : TypeId} {ek : EK} {a : AV} {x : Value} {es : List ME} {es' : List MapEntry} {r : Option (Nat × ME)} (ht : shapeT P t = some ek) (hx : VR ρ a x) (hm : MRs ρ es es')
    (h : findKey ek a es 0 = some r) : keyOk ek a = true ∧ ∃ r', (Instr.findKey t x es').run P w = .ok r' w ∧ FK ρ es es' 0 r r' := by
  unfold findKey at h
  split at h
  · rename_i hk
    refine ⟨hk, ?_⟩
    cases eb : baseT P t with
    | some k =>
      have : ek = .base k := by unfold shapeT at ht; simp only [eb, Option.some.injEq] at ht; exact ht.symm
      subst this
      obtain ⟨d, hd⟩ := base_some eb
      obtain ⟨r', g1, g2⟩ := findNow_ok eb hd hx es es' 0 r hm h
      exact ⟨r', by simp [Instr.findKey, run_under hd, g1], g2⟩
    | none =>
      obtain ⟨r', g1, g2⟩ := findAsking_ok (P := P) (w := w) ht hx es es' 0 r hm h
      have hagg : ∃ xs, x = .agg xs := by
        unfold shapeT at ht
        simp only [eb] at ht
        split at ht
        · split at ht
          · simp only [Option.map_eq_some_iff] at ht
            obtain ⟨ks, _, rfl⟩ := ht
            cases hx <;> simp only [keyOk] at hk <;> try (cases hk; done)
            exact ⟨_, rfl⟩
          · cases ht
        · split at ht
          · split at ht
            · cases ht
              cases hx <;> simp only [keyOk] at hk <;> try (cases hk; done)
              exact ⟨_, rfl⟩
            · cases ht
          · cases ht
        · cases ht
      obtain ⟨xs, rfl⟩ := hagg
      have hd : ∃ d, P.underlying t = some d := by
        unfold shapeT at ht
        simp only [eb] at ht
        split at ht
        · rename_i hu; exact ⟨_, hu⟩
        · rename_i hu; exact ⟨_, hu⟩
        · cases ht
      obtain ⟨d, hd⟩ := hd
      cases es' with
      | nil =>
        simp [Instr.findAsking] at g1
        exact ⟨r', by simp [Instr.findKey, run_under hd, Instr.findNow, g1], g2⟩
      | cons e0 es0 => exact ⟨r', by simp [Instr.findKey, run_under hd, Instr.findNow, sameNow_agg, g1], g2⟩
  · cases h
end Go.Ex
namespace Go.Ex
open Go
variable {P : Program}
theorem putMap {ρ : Ren} {H : Heap} {w : World} {r : Nat} {B : Blk} {o0 : AObj} {es : List ME} {es' : Array MapEntry} {clock : Nat} (h : WR ρ H w) (hr : H.get r = some o0) (hB : ρ r 0 = some B)
    (hm : MRs ρ es es'.toList) (hrow : ∀ cs v, o0 ≠ .row cs v := by intro _ _ hh; cases hh) (hro : ∀ cs v, o0 ≠ .ro cs v := by intro _ _ hh; cases hh) : WR ρ (H.put r (.map es clock)) { w with heap := w.heap.setIfInBounds B.b (.map es' clock) } ∧ Fr ρ w { w with heap := w.heap.setIfInBounds B.b (.map es' clock) } := by
  refine h.putObj hr hB ⟨B, es', hB, ?_, hm⟩ hrow hro
  have := (h.dom _ _ _ hB).2
  show (w.heap.setIfInBounds B.b (.map es' clock))[B.b]? = _
  simp [this]
structure UnitOK (P : Program) (ρ : Ren) (w : World) (s : Sem Unit) (H' : Heap) : Prop where
  intro ::
  ex : ∃ w', s.run P w = .ok () w' ∧ WR ρ H' w' ∧ Fr ρ w w'
theorem born_eq {ρ : Ren} {e : ME} {e' : MapEntry} (h : MR ρ e e') : e'.born = e.born := h.born.symm
theorem mapupd_ok {ρ : Ren} {H H' : Heap} {w : World} {mt kt vt : TypeId} {kn : EK} {m k v : CX} {m' k' v' : Value} {tm : Tm} {a : AV} (hmt : P.underlying mt = some (.map kt vt)) (hs : shapeT P kt = some kn) (h : WR ρ H w)
    (hm : VR ρ (m.ev tm) m') (hk : VR ρ (k.ev tm) k') (hv : VR ρ (v.ev tm) v') (ha : sMapupd kn m k v tm H = some (a, H')) : a = .undef ∧ UnitOK P ρ w (Instr.mapUpdate mt m' k' v') H' := by
  unfold sMapupd at ha
  cases em : mapOf H (m.ev tm) with
  | none => simp [em] at ha
  | some p =>
    obtain ⟨r, es, clock⟩ := p
    obtain ⟨B, es', g1, g2, rfl, g4, g5⟩ := mapOf_ok h hm em
    simp only [em] at ha
    cases ef : findKey kn (k.ev tm) es 0 with
    | none => simp [ef] at ha
    | some q =>
      obtain ⟨hok, r', f1, f2⟩ := findKey_ok (P := P) (w := w) hs hk g5 ef
      have hck := checkKey_ok (P := P) (w := w) (em := false) (n := 9998) hs hk hok
      have hget := run_getObj' (P := P) g4 (by simp)
      have hset := fun o => run_setObj' (P := P) (o' := o) g4 (by simp)
      cases q with
      | none =>
        simp only [ef] at ha
        cases ha
        cases r' with
        | some _ => exact f2.elim
        | none =>
          obtain ⟨p1, p2⟩ := putMap (clock := clock + 1) (es' := es'.push { key := k', val := v', born := clock }) h g1 g2 (by
            have hnew : MR ρ ⟨k.ev tm, v.ev tm, clock⟩ ⟨k', v', clock⟩ := ⟨hk, hv, rfl⟩
            simpa using g5.append (.cons hnew .nil))
          exact ⟨rfl, _, by simp [Instr.mapUpdate, run_under hmt, hget, hck, f1, hset], p1, p2⟩
      | some p =>
        obtain ⟨j, e⟩ := p
        simp only [ef] at ha
        cases ha
        cases r' with
        | none => exact f2.elim
        | some p' =>
          obtain ⟨j', vv⟩ := p'
          obtain ⟨rfl, _, q3, e', q4, rfl⟩ := f2
          rw [Nat.sub_zero] at q3 q4
          have hme : MR ρ e e' := by
            obtain ⟨e'', h1, h2⟩ := g5.get _ _ q3
            rw [q4] at h1; cases h1; exact h2
          have heq : aEq false kn (k.ev tm) e.key = some true := by
            unfold findKey at ef
            rw [if_pos hok] at ef
            · have gen : ∀ (l : List ME) (i : Nat), findKey' kn (k.ev tm) l i = some (some (j', e)) → aEq false kn (k.ev tm) e.key = some true := by
                intro l
                induction l with
                | nil => intro i h; simp [findKey'] at h
                | cons c l ih =>
                  intro i h
                  simp only [findKey'] at h
                  split at h
                  · rename_i hq
                    simp only [Option.some.injEq, Prod.mk.injEq] at h
                    obtain ⟨_, rfl⟩ := h; exact hq
                  · exact ih _ h
                  · cases h
              exact gen _ _ ef
          have hsb : Instr.sameBits 10000 (((es'[j']?).map (·.key)).getD k') k' = true := by
            have : es'[j']? = some e' := by simpa using q4
            rw [this]
            exact sameBits_ok (n := 9998) hok hk hme.key heq
          have hkts : ∀ w, (Instr.keyThatStays (((es'[j']?).map (·.key)).getD k') k').run P w = .ok k' w := fun w => by
            unfold Instr.keyThatStays; rw [if_pos hsb]; rfl
          obtain ⟨p1, p2⟩ := putMap (clock := clock) (es := modAt es j' fun e => { e with key := k.ev tm, val := v.ev tm }) (es' := es'.modify j' fun e => { e with key := k', val := v' }) h g1 g2 (by
            rw [Array.toList_modify]
            exact MRs.modAt j' g5 (fun a b _ _ hab => ⟨hk, hv, hab.born⟩))
          exact ⟨rfl, _, by simp [Instr.mapUpdate, run_under hmt, hget, hck, f1, hset, hkts], p1, p2⟩
theorem lookup_ok {ρ : Ren} {H H' : Heap} {w : World} {mt kt vt : TypeId} {kn : EK} {z : AV} {ok : Bool} {m k : CX} {m' k' : Value} {tm : Tm} {a : AV} (hmt : P.underlying mt = some (.map kt vt)) (hs : shapeT P kt = some kn)
    (hz : zeroA P vt = some z) (h : WR ρ H w) (hm : VR ρ (m.ev tm) m') (hk : VR ρ (k.ev tm) k') (ha : sLookup kn z ok m k tm H = some (a, H')) : OpOK P ρ w (Instr.lookup mt m' k' ok) a H' := by
  obtain ⟨zv, hzr, hzv⟩ := run_zeroA (P := P) (ρ := ρ) (w := w) hz
  unfold sLookup at ha
  generalize em : m.ev tm = ma at hm ha
  cases hm <;> simp only at ha <;> try (cases ha; done)
  · rename_i r B hB
    cases eg : H.get r with
    | none => simp [eg] at ha
    | some o =>
      simp only [eg] at ha
      cases o <;> simp only at ha <;> try (cases ha; done)
      rename_i es clock
      obtain ⟨B', es', q1, g4, g5⟩ := h.obj _ _ eg
      rw [hB] at q1; cases q1
      have hget := run_getObj' (P := P) g4 (by simp)
      cases ef : findKey kn (k.ev tm) es 0 with
      | none => simp [ef] at ha
      | some q =>
        obtain ⟨hok, r', f1, f2⟩ := findKey_ok (P := P) (w := w) hs hk g5 ef
        have hck := checkKey_ok (P := P) (w := w) (em := es'.isEmpty) (n := 9998) hs hk hok
        cases q with
        | none =>
          simp only [ef] at ha
          cases ha
          cases r' with
          | some _ => exact f2.elim
          | none =>
            cases ok
            · exact .pure h (by simp [Instr.lookup, run_under hmt, hget, hck, f1, hzr]) hzv
            · exact .pure h (by simp [Instr.lookup, run_under hmt, hget, hck, f1, hzr]) (.tup (.cons hzv (.cons (.bool _) .nil)))
        | some p =>
          obtain ⟨j, e⟩ := p
          simp only [ef] at ha
          cases ha
          cases r' with
          | none => exact f2.elim
          | some p' =>
            obtain ⟨j', vv⟩ := p'
            obtain ⟨rfl, _, q3, e', q4, rfl⟩ := f2
            rw [Nat.sub_zero] at q3 q4
            have hme : MR ρ e e' := by
              obtain ⟨e'', h1, h2⟩ := g5.get _ _ q3
              rw [q4] at h1; cases h1; exact h2
            cases ok
            · exact .pure h (by simp [Instr.lookup, run_under hmt, hget, hck, f1]) hme.val
            · exact .pure h (by simp [Instr.lookup, run_under hmt, hget, hck, f1]) (.tup (.cons hme.val (.cons (.bool _) .nil)))
  · split at ha
    · rename_i hok
      cases ha
      have hck := checkKey_ok (P := P) (w := w) (em := true) (n := 9998) hs hk hok
      obtain ⟨_, r', f1, f2⟩ := findKey_ok (P := P) (w := w) (es := []) (es' := []) (r := none) hs hk .nil (by simp [findKey, hok, findKey'])
      cases r' with
      | some _ => exact f2.elim
      | none =>
        cases ok
        · exact .pure h (by simp [Instr.lookup, run_under hmt, hck, f1, hzr]) hzv
        · exact .pure h (by simp [Instr.lookup, run_under hmt, hck, f1, hzr]) (.tup (.cons hzv (.cons (.bool _) .nil)))
    · cases ha
theorem delete_ok {ρ : Ren} {H H' : Heap} {w : World} {ats : Array TypeId} {ty mt kt vt : TypeId} {kn : EK} {m k : CX} {m' k' : Value} {tm : Tm} {a : AV} (h0 : ats[0]? = some mt) (hmt : P.underlying mt = some (.map kt vt)) (hs : shapeT P kt = some kn)
    (h : WR ρ H w) (hm : VR ρ (m.ev tm) m') (hk : VR ρ (k.ev tm) k') (ha : sDelete kn m k tm H = some (a, H')) : OpOK P ρ w (Builtin.delete_ ats ty #[m', k']) a H' := by
  unfold sDelete at ha
  generalize em : m.ev tm = ma at hm ha
  cases hm <;> simp only at ha <;> try (cases ha; done)
  · rename_i r B hB
    simp only [mapOf] at ha
    cases eg : H.get r with
    | none => simp [eg] at ha
    | some o =>
      simp only [eg] at ha
      cases o <;> simp only at ha <;> try (cases ha; done)
      rename_i es clock
      obtain ⟨B', es', q1, g4, g5⟩ := h.obj _ _ eg
      rw [hB] at q1; cases q1
      have g1 := eg
      have g2 := hB
      have hget := run_getObj' (P := P) g4 (by simp)
      have hset := fun o => run_setObj' (P := P) (o' := o) g4 (by simp)
      cases ef : findKey kn (k.ev tm) es 0 with
      | none => simp [ef] at ha
      | some q =>
        obtain ⟨hok, r', f1, f2⟩ := findKey_ok (P := P) (w := w) hs hk g5 ef
        have hck := checkKey_ok (P := P) (w := w) (em := es'.isEmpty) (n := 9998) hs hk hok
        cases q with
        | none =>
          simp only [ef] at ha
          cases ha
          cases r' with
          | some _ => exact f2.elim
          | none =>
            obtain ⟨p1, p2⟩ := putMap (clock := clock) (es' := es') h g1 g2 g5
            refine ⟨.tuple #[], _, ρ, ?_, ρ.le_refl, ρ.newer_refl w, .tup .nil, p1, p2⟩
            simp [Builtin.delete_, h0, run_under hmt, hget, hck, f1, hset]
        | some p =>
          obtain ⟨j, e⟩ := p
          simp only [ef] at ha
          cases ha
          cases r' with
          | none => exact f2.elim
          | some p' =>
            obtain ⟨j', vv⟩ := p'
            obtain ⟨rfl, _, q3, e', q4, rfl⟩ := f2
            have hd : MRs ρ (delAt es j') (es'.eraseIdxIfInBounds j').toList := by
              rw [Array.toList_eraseIdxIfInBounds]; exact MRs.delAt j' g5
            obtain ⟨p1, p2⟩ := putMap (clock := clock) (es' := es'.eraseIdxIfInBounds j') h g1 g2 hd
            refine ⟨.tuple #[], _, ρ, ?_, ρ.le_refl, ρ.newer_refl w, .tup .nil, p1, p2⟩
            simp [Builtin.delete_, h0, run_under hmt, hget, hck, f1, hset]
  · split at ha
    · rename_i hok
      cases ha
      have hck := checkKey_ok (P := P) (w := w) (em := true) (n := 9998) hs hk hok
      exact .pure h (by simp [Builtin.delete_, h0, run_under hmt, hck]) (.tup .nil)
    · cases ha
end Go.Ex
namespace Go.Ex
open Go
variable {P : Program}
theorem mapent_ok {ρ : Ren} {H H' : Heap} {w : World} {mt kt vt : TypeId} {kn : EK} {z : AV} {m k : CX} {m' k' : Value} {tm : Tm} {a : AV} (hmt : P.underlying mt = some (.map kt vt)) (hs : shapeT P kt = some kn)
    (hz : zeroA P vt = some z) (h : WR ρ H w) (hm : VR ρ (m.ev tm) m') (hk : VR ρ (k.ev tm) k') (ha : sMapent kn z m k tm H = some (a, H')) : OpOK P ρ w (Instr.mapEntry mt m' k') a H' := by
  obtain ⟨zv, hzr, hzv⟩ := run_zeroA (P := P) (ρ := ρ) (w := w) hz
  unfold sMapent at ha
  cases em : mapOf H (m.ev tm) with
  | none => simp [em] at ha
  | some p =>
    obtain ⟨r, es, clock⟩ := p
    obtain ⟨B, es', g1, g2, rfl, g4, g5⟩ := mapOf_ok h hm em
    simp only [em] at ha
    cases ef : findKey kn (k.ev tm) es 0 with
    | none => simp [ef] at ha
    | some q =>
      obtain ⟨hok, r', f1, f2⟩ := findKey_ok (P := P) (w := w) hs hk g5 ef
      have hck := checkKey_ok (P := P) (w := w) (em := false) (n := 9998) hs hk hok
      have hget := run_getObj' (P := P) g4 (by simp)
      have hset := fun o => run_setObj' (P := P) (o' := o) g4 (by simp)
      cases q with
      | none =>
        simp only [ef] at ha
        cases ha
        cases r' with
        | some _ => exact f2.elim
        | none =>
          have hnew : MR ρ ⟨k.ev tm, z, clock⟩ ⟨k', zv, clock⟩ := ⟨hk, hzv, rfl⟩
          obtain ⟨p1, p2⟩ := putMap (clock := clock + 1) (es' := es'.push { key := k', val := zv, born := clock }) h g1 g2 (by simpa using g5.append (.cons hnew .nil))
          exact ⟨.tuple #[zv, Go.goInt clock], _, ρ, by simp [Instr.mapEntry, run_under hmt, hget, hck, f1, hzr, hset], ρ.le_refl, ρ.newer_refl w, .tup (.cons hzv (.cons (.int _ _) .nil)), p1, p2⟩
      | some p =>
        obtain ⟨j, e⟩ := p
        simp only [ef] at ha
        cases ha
        cases r' with
        | none => exact f2.elim
        | some p' =>
          obtain ⟨j', vv⟩ := p'
          obtain ⟨rfl, _, q3, e', q4, rfl⟩ := f2
          rw [Nat.sub_zero] at q3 q4
          have hme : MR ρ e e' := by
            obtain ⟨e'', h1, h2⟩ := g5.get _ _ q3
            rw [q4] at h1; cases h1; exact h2
          have he' : es'[j']? = some e' := by simpa using q4
          have heq : aEq false kn (k.ev tm) e.key = some true := by
            unfold findKey at ef
            rw [if_pos hok] at ef
            have gen : ∀ (l : List ME) (i : Nat), findKey' kn (k.ev tm) l i = some (some (j', e)) → aEq false kn (k.ev tm) e.key = some true := by
              intro l
              induction l with
              | nil => intro i h; simp [findKey'] at h
              | cons c l ih =>
                intro i h
                simp only [findKey'] at h
                split at h
                · rename_i hq
                  simp only [Option.some.injEq, Prod.mk.injEq] at h
                  obtain ⟨_, rfl⟩ := h; exact hq
                · exact ih _ h
                · cases h
            exact gen _ _ ef
          have hsb : Instr.sameBits 10000 (((es'[j']?).map (·.key)).getD k') k' = true := by
            rw [he']
            exact sameBits_ok (n := 9998) hok hk hme.key heq
          have hkts : ∀ w, (Instr.keyThatStays (((es'[j']?).map (·.key)).getD k') k').run P w = .ok k' w := fun w => by
            unfold Instr.keyThatStays; rw [if_pos hsb]; rfl
          obtain ⟨p1, p2⟩ := putMap (clock := clock) (es := modAt es j' fun e => { e with key := k.ev tm }) (es' := es'.modify j' fun e => { e with key := k' }) h g1 g2 (by
            rw [Array.toList_modify]
            exact MRs.modAt j' g5 (fun a b _ _ hab => ⟨hk, hab.val, hab.born⟩))
          refine ⟨.tuple #[e'.val, Go.goInt (((es'[j']?).map (·.born)).getD 0)], _, ρ, by simp [Instr.mapEntry, run_under hmt, hget, hck, f1, hset, hkts], ρ.le_refl, ρ.newer_refl w, ?_, p1, p2⟩
          rw [he']
          refine .tup (.cons hme.val (.cons ?_ .nil))
          show VR ρ (.int .i64 (Int.ofNat e.born)) (.int .i64 ((e'.born : Nat) : Int))
          rw [hme.born]; exact VR.int _ _
theorem findIdx_map {ρ : Ren} {born : Int} : ∀ {es : List ME} {es' : List MapEntry}, MRs ρ es es' → es.findIdx? (fun e => Int.ofNat e.born == born) = es'.findIdx? (fun e => (e.born : Int) == born)
  | _, _, .nil => rfl
  | _, _, .cons h t => by
    rw [List.findIdx?_cons, List.findIdx?_cons, findIdx_map t]
    have : Int.ofNat _ = ((_ : Nat) : Int) := congrArg Int.ofNat h.born
    rw [this]
theorem entst_ok {ρ : Ren} {H H' : Heap} {w : World} {mt : TypeId} {m s v : CX} {m' s' v' : Value} {tm : Tm} {a : AV} (h : WR ρ H w)
    (hm : VR ρ (m.ev tm) m') (hs : VR ρ (s.ev tm) s') (hv : VR ρ (v.ev tm) v') (ha : sEntst m s v tm H = some (a, H')) : a = .undef ∧ UnitOK P ρ w (Instr.entryStore mt m' s' v') H' := by
  unfold sEntst at ha
  cases em : mapOf H (m.ev tm) with
  | none => simp [em] at ha
  | some p =>
    obtain ⟨r, es, clock⟩ := p
    obtain ⟨B, es', g1, g2, rfl, g4, g5⟩ := mapOf_ok h hm em
    simp only [em] at ha
    generalize s.ev tm = sa at hs ha
    cases hs <;> simp only at ha <;> try (cases ha; done)
    rename_i kd born
    have hget := run_getObj' (P := P) g4 (by simp)
    have hset := fun o => run_setObj' (P := P) (o' := o) g4 (by simp)
    rw [findIdx_map g5] at ha
    have hfi : es'.findIdx? (fun e => (e.born : Int) == born) = es'.toList.findIdx? (fun e => (e.born : Int) == born) := by obtain ⟨l⟩ := es'; simp
    cases ef : es'.toList.findIdx? (fun e => (e.born : Int) == born) with
    | none => simp [ef] at ha
    | some i =>
      simp only [ef] at ha
      cases ha
      obtain ⟨p1, p2⟩ := putMap (clock := clock) (es := modAt es i fun e => { e with val := v.ev tm }) (es' := es'.modify i fun e => { e with val := v' }) h g1 g2 (by
        rw [Array.toList_modify]
        exact MRs.modAt i g5 (fun a b _ _ hab => ⟨hab.key, hv, hab.born⟩))
      refine ⟨rfl, _, ?_, p1, p2⟩
      have hf2 := hfi.trans ef
      simp [Instr.entryStore, hget, asInt, asIntOf, hf2, hset]
theorem rngm_ok {ρ : Ren} {H H' : Heap} {w : World} {t kt vt : TypeId} {x : CX} {x' : Value} {tm : Tm} {a : AV} (ht : P.underlying t = some (.map kt vt)) (h : WR ρ H w) (hx : VR ρ (x.ev tm) x')
    (ha : sRngm x tm H = some (a, H')) : OpOK P ρ w (Instr.range t x') a H' := by
  unfold sRngm at ha
  generalize x.ev tm = xa at hx ha
  have hnone : ∀ v, ρ H.next v = none := fun v => by
    cases e : ρ H.next v with
    | none => rfl
    | some B' => exact absurd (h.dom _ _ _ e).1 (by omega)
  cases hx <;> simp only at ha <;> try (cases ha; done)
  · rename_i r B hB
    cases eg : H.get r with
    | none => simp [eg] at ha
    | some o =>
      simp only [eg] at ha
      cases o <;> simp only at ha <;> try (cases ha; done)
      rename_i es clock
      obtain ⟨B', es', q1, g4, g5⟩ := h.obj _ _ eg
      rw [hB] at q1; cases q1
      have hget := run_getObj' (P := P) g4 (by simp)
      cases ha
      let B2 : Blk := ⟨w.heap.size, 0, 0⟩
      obtain ⟨p1, p2, p3, p4⟩ := h.newObj (o := .mapIter (some r) clock [] clock) (ob := .mapIter (some B.b) clock #[] clock) (B := B2) rfl
        ⟨B2, some B.b, ⟨Ren.upd_self _ _ _ _, rfl⟩, by rw [heap_push]; simp [B2], .inr ⟨r, B, rfl, by rw [Ren.upd_ne _ _ _ _ (.inl (by have := (h.dom _ _ _ hB).1; omega))]; exact hB, rfl⟩⟩
      exact ⟨_, _, _, by simp [Instr.range, run_under ht, hget, Go.newObj, Sem.run]; rfl, p2, p3, .ptr (c := 0) (Ren.upd_self _ _ _ _) (by simp [B2]), p1, p4⟩
  · cases ha
    let B2 : Blk := ⟨w.heap.size, 0, 0⟩
    obtain ⟨p1, p2, p3, p4⟩ := h.newObj (o := .mapIter none 0 [] 0) (ob := .mapIter none 0 #[] 0) (B := B2) rfl
      ⟨B2, none, ⟨Ren.upd_self _ _ _ _, rfl⟩, by rw [heap_push]; simp [B2], .inl ⟨rfl, rfl⟩⟩
    exact ⟨_, _, _, by simp [Instr.range, run_under ht, Go.newObj, Sem.run]; rfl, p2, p3, .ptr (c := 0) (Ren.upd_self _ _ _ _) (by simp [B2]), p1, p4⟩
theorem filter_map {ρ : Ren} {f : ME → Bool} {g : MapEntry → Bool} (hfg : ∀ e e', MR ρ e e' → f e = g e') : ∀ {es : List ME} {es' : List MapEntry}, MRs ρ es es' → MRs ρ (es.filter f) (es'.filter g)
  | _, _, .nil => .nil
  | _, _, .cons h t => by
    rw [List.filter_cons, List.filter_cons, hfg _ _ h]
    split
    · exact .cons h (filter_map hfg t)
    · exact filter_map hfg t
theorem all_map {ρ : Ren} {f : ME → Bool} {g : MapEntry → Bool} (hfg : ∀ e e', MR ρ e e' → f e = g e') : ∀ {es : List ME} {es' : List MapEntry}, MRs ρ es es' → es.all f = es'.all g
  | _, _, .nil => rfl
  | _, _, .cons h t => by rw [List.all_cons, List.all_cons, hfg _ _ h, all_map hfg t]
theorem find_map {ρ : Ren} {f : ME → Bool} {g : MapEntry → Bool} (hfg : ∀ e e', MR ρ e e' → f e = g e') : ∀ {es : List ME} {es' : List MapEntry} {e : ME}, MRs ρ es es' → es.find? f = some e → ∃ e', es'.find? g = some e' ∧ MR ρ e e'
  | _, _, e, .nil, h => by simp at h
  | _, _, e, .cons h t, hf => by
    rw [List.find?_cons] at hf ⊢
    have hg := hfg _ _ h
    split at hf
    · rename_i q; cases hf; rw [q] at hg; rw [← hg]; exact ⟨_, rfl, h⟩
    · rename_i q; rw [q] at hg; rw [← hg]; exact find_map hfg t hf
theorem iter_addr {ρ : Ren} {r : Nat} {B : Blk} {x' : Value} (hB : ρ r 0 = some B) (hs : B.s = 0) (hx : VR ρ (.ptr r 0 0) x') : x' = .pointer (some ⟨B.b, 0, none⟩) := by
  cases hx with
  | ptr h hc =>
    rw [hB] at h; cases h
    rename_i c
    have : c = 0 := by omega
    rw [this]
theorem putIter {ρ : Ren} {H : Heap} {w : World} {r mr : Nat} {B Bm : Blk} {o0 : AObj} {since st : Nat} {seen : List Nat} (h : WR ρ H w) (hr : H.get r = some o0) (hB : ρ r 0 = some B) (hs : B.s = 0) (hm : ρ mr 0 = some Bm) (hrow : ∀ cs v, o0 ≠ .row cs v := by intro _ _ hh; cases hh) (hro : ∀ cs v, o0 ≠ .ro cs v := by intro _ _ hh; cases hh) :
    WR ρ (H.put r (.mapIter (some mr) since seen st)) { w with heap := w.heap.setIfInBounds B.b (.mapIter (some Bm.b) since seen.toArray st) } ∧ Fr ρ w { w with heap := w.heap.setIfInBounds B.b (.mapIter (some Bm.b) since seen.toArray st) } := by
  refine h.putObj hr hB ⟨B, some Bm.b, ⟨hB, hs⟩, ?_, .inr ⟨mr, Bm, rfl, hm, rfl⟩⟩ hrow hro
  have := (h.dom _ _ _ hB).2
  show (w.heap.setIfInBounds B.b _)[B.b]? = _
  simp [this]
theorem next_ok {ρ : Ren} {H H' : Heap} {w : World} {ty : TypeId} {x : CX} {x' : Value} {tm : Tm} {a : AV} (h : WR ρ H w) (hx : VR ρ (x.ev tm) x')
    (ha : sNext x tm H = some (a, H')) : OpOK P ρ w (Instr.next x' false ty) a H' := by
  unfold sNext at ha
  split at ha
  · rename_i r e1
    rw [e1] at hx
    split at ha
    · rename_i hr
      cases ha
      obtain ⟨B, m', q1, q2, q3⟩ := h.obj _ _ hr
      have hxx := iter_addr q1.1 q1.2 hx
      subst hxx
      rcases q3 with ⟨_, rfl⟩ | ⟨_, _, q, _⟩
      · have hget := run_getObj' (P := P) q2 (by simp)
        exact .pure h (by simp [Instr.next, hget]) (.tup (.cons (.bool _) .nil))
      · cases q
    · rename_i mr since seen last hr
      obtain ⟨B, m', q1, q2, q3⟩ := h.obj _ _ hr
      have hxx := iter_addr q1.1 q1.2 hx
      subst hxx
      rcases q3 with ⟨q, _⟩ | ⟨mr', Bm, q, q4, rfl⟩
      · cases q
      · cases q
        have hget := run_getObj' (P := P) q2 (by simp)
        have hset := fun o => run_setObj' (P := P) (o' := o) q2 (by simp)
        split at ha
        · rename_i es clock hm
          obtain ⟨Bm', es', p1, p2, p3⟩ := h.obj _ _ hm
          rw [q4] at p1; cases p1
          have hgetm := run_getObj' (P := P) p2 (by simp)
          split at ha
          · cases ha
          · rename_i hng
            have hall : es.all (fun e => Nat.ble last e.born) = es'.toList.all (fun e => decide (e.born ≥ last)) := all_map (fun e e' he => by
              rw [← he.born, Bool.eq_iff_iff]; simp [Nat.ble_eq]) p3
            have hemp : es.isEmpty = es'.isEmpty := by
              have := p3.length
              obtain ⟨l⟩ := es'
              cases es <;> cases l <;> simp_all
            have hng' : ¬ ((!(seen.toArray.isEmpty) && !es'.isEmpty && es'.all (fun e => decide (e.born ≥ last))) = true) := by
              rw [← hemp]
              have : es'.all (fun e => decide (e.born ≥ last)) = es'.toList.all (fun e => decide (e.born ≥ last)) := by simp
              rw [this, ← hall]
              have e2 : seen.toArray.isEmpty = seen.isEmpty := by simp
              rw [e2]; exact hng
            have hleft : MRs ρ (es.filter fun e => !seen.contains e.born) (es'.filter fun e => !seen.toArray.contains e.born).toList := by
              rw [Array.toList_filter]
              exact filter_map (fun e e' he => by rw [← he.born]; simp) p3
            generalize hL : (es'.filter fun e => !seen.toArray.contains e.born) = left at hleft
            simp only at ha
            split at ha
            · rename_i el
              cases ha
              rw [el] at hleft
              have : left = #[] := by
                obtain ⟨l⟩ := left
                cases l with
                | nil => rfl
                | cons a l => cases hleft
              subst this
              refine .pure (v' := .tuple #[.bool false]) h ?_ (.tup (.cons (.bool _) .nil))
              simp only [Instr.next, Sem.run_bind, hget, hgetm, Result.andThen_ok, hng', Bool.false_eq_true, if_false, hL]
              simp [Question.forced]
            · rename_i e el
              rw [el] at hleft
              split at ha
              · rename_i hb
                cases ha
                have : ∃ e', left = #[e'] ∧ MR ρ e e' := by
                  obtain ⟨l⟩ := left
                  cases hleft with
                  | cons h1 t => cases t with
                    | nil => exact ⟨_, rfl, h1⟩
                obtain ⟨e', rfl, he⟩ := this
                have hbe : e'.born < since := by rw [← he.born]; exact Nat.le_of_ble_eq_true hb
                obtain ⟨g1, g2⟩ := putIter (since := since) (st := clock) (seen := seen ++ [e.born]) h hr q1.1 q1.2 q4
                refine ⟨.tuple #[.bool true, e'.key, e'.val], _, ρ, ?_, ρ.le_refl, ρ.newer_refl w, .tup (.cons (.bool _) (.cons he.key (.cons he.val .nil))), g1, g2⟩
                simp only [Instr.next, Sem.run_bind, hget, hgetm, Result.andThen_ok, hng', Bool.false_eq_true, if_false, hL]
                have f1 : (#[e'].filter fun x => decide (x.born < since)) = #[e'] := by simp [hbe]
                have f2 : (#[e'].filter fun x => decide (x.born ≥ since)) = #[] := by simp; omega
                simp only [f1, f2]
                simp [Question.forced, hset, he.born]
              · cases ha
            · cases ha
        · cases ha
    · cases ha
  · cases ha
theorem entry_ok {ρ : Ren} {H H' : Heap} {w : World} {x : CX} {x' : Value} {tm : Tm} {a : AV} (h : WR ρ H w) (hx : VR ρ (x.ev tm) x')
    (ha : sEntry x tm H = some (a, H')) : OpOK P ρ w (Instr.entry x') a H' := by
  unfold sEntry at ha
  split at ha
  · rename_i r e1
    rw [e1] at hx
    split at ha
    · rename_i mr since seen st hr
      obtain ⟨B, m', q1, q2, q3⟩ := h.obj _ _ hr
      have hxx := iter_addr q1.1 q1.2 hx
      subst hxx
      rcases q3 with ⟨q, _⟩ | ⟨mr', Bm, q, q4, rfl⟩
      · cases q
      · cases q
        have hget := run_getObj' (P := P) q2 (by simp)
        split at ha
        · rename_i stamp es clock hl hm
          obtain ⟨Bm', es', p1, p2, p3⟩ := h.obj _ _ hm
          rw [q4] at p1; cases p1
          have hgetm := run_getObj' (P := P) p2 (by simp)
          split at ha
          · rename_i hck
            have hck := Nat.eq_of_beq_eq_true hck
            split at ha
            · rename_i e hf
              cases ha
              obtain ⟨e', f1, f2⟩ := find_map (g := fun e => e.born == stamp) (fun e e' he => by rw [← he.born, Bool.eq_iff_iff]; simp [Nat.beq_eq]) p3 hf
              have f3 : es'.find? (fun e => e.born == stamp) = some e' := by obtain ⟨l⟩ := es'; simpa using f1
              have hl' : seen.toArray.back? = some stamp := by simpa using hl
              exact .pure h (by simp [Instr.entry, hget, hl', hgetm, hck, f3]) (.tup (.cons f2.key (.cons f2.val .nil)))
            · cases ha
          · cases ha
        · cases ha
    · cases ha
  · cases ha
end Go.Ex
namespace Go.Ex
open Go
variable {P : Program}
theorem len_ok {ρ : Ren} {H : Heap} {w : World} {ats : Array TypeId} {ty t : TypeId} {k : LK} {x : CX} {x' : Value} {tm : Tm} {a : AV} {H' : Heap} {d : TypeDesc} (h0 : ats[0]? = some t) (hd : P.underlying t = some d)
    (hk : match k with
      | .str => d = .string
      | .const n => (∃ e, d = .array n e) ∨ ∃ p e, d = .pointer p ∧ P.underlying p = some (.array n e)
      | .slice => ∃ e, d = .slice e
      | .map => ∃ e f, d = .map e f)
    (h : WR ρ H w) (hx : VR ρ (x.ev tm) x') (ha : sLen k x tm H = some (a, H')) : OpOK P ρ w (Builtin.len_ ats ty #[x']) a H' := by
  unfold sLen at ha
  cases k with
  | const n =>
    simp only at ha; cases ha
    rcases hk with ⟨e, rfl⟩ | ⟨p, e, rfl, hp⟩
    · exact .pure (v' := Go.goInt n) h (by cases x' <;> simp [Builtin.len_, h0, run_under hd]) (.int _ _)
    · exact .pure (v' := Go.goInt n) h (by cases x' <;> simp [Builtin.len_, h0, run_under hd, run_under hp]) (.int _ _)
  | str =>
    simp only at hk; subst hk
    generalize x.ev tm = xa at hx ha
    cases hx <;> simp only at ha <;> try (cases ha; done)
    rename_i s
    cases ha
    refine .pure (v' := Go.goInt s.size) h (by simp [Builtin.len_, h0, run_under hd]) ?_
    simp only [List.length_map, Array.length_toList]; exact .int _ _
  | slice =>
    obtain ⟨e, rfl⟩ := hk
    generalize x.ev tm = xa at hx ha
    cases hx <;> simp only at ha <;> try (cases ha; done)
    · rename_i r v o n cap el B c cc hB hc hn hz hcap
      cases ha
      exact .pure (v' := Go.goInt n) h (by simp [Builtin.len_, h0, run_under hd]) (.int _ _)
    · cases ha
      exact .pure (v' := Go.goInt 0) h (by simp [Builtin.len_, h0, run_under hd]) (.int _ _)
  | map =>
    obtain ⟨e, f, rfl⟩ := hk
    generalize x.ev tm = xa at hx ha
    cases hx <;> simp only at ha <;> try (cases ha; done)
    · rename_i r B hB
      split at ha
      · rename_i es clock hr
        cases ha
        obtain ⟨B', es', q1, g4, g5⟩ := h.obj _ _ hr
        rw [hB] at q1; cases q1
        have hget := run_getObj' (P := P) g4 (by simp)
        refine .pure (v' := Go.goInt es'.size) h (by simp [Builtin.len_, h0, run_under hd, hget]) ?_
        have : es.length = es'.size := by rw [g5.length]; simp
        rw [this]; exact .int _ _
      · cases ha
    · cases ha
      exact .pure (v' := Go.goInt 0) h (by simp [Builtin.len_, h0, run_under hd]) (.int _ _)
theorem i2i_ok {ρ : Ren} {H : Heap} {w : World} {s d : TypeId} {k j : IntKind} {x : CX} {x' : Value} {tm : Tm} {a : AV} {H' : Heap} (hs : P.underlying s = some (.int j)) (hd : P.underlying d = some (.int k))
    (h : WR ρ H w) (hx : VR ρ (x.ev tm) x') (ha : sI2i k x tm H = some (a, H')) : OpOK P ρ w (convert s d x') a H' := by
  unfold sI2i at ha
  generalize x.ev tm = xa at hx ha
  cases hx <;> simp only at ha <;> try (cases ha; done)
  cases ha
  exact .pure h (by simp [convert, run_under hs, run_under hd, Conv.intToInt]) (.int _ _)
theorem same_ok {ρ : Ren} {H : Heap} {w : World} {s d : TypeId} {x : CX} {x' : Value} {tm : Tm} {a : AV} {H' : Heap} (hs : P.underlying s = some .string) (hd : P.underlying d = some .string)
    (h : WR ρ H w) (hx : VR ρ (x.ev tm) x') (ha : sSame x tm H = some (a, H')) : OpOK P ρ w (convert s d x') a H' := by
  unfold sSame at ha
  generalize x.ev tm = xa at hx ha
  split at ha
  · cases ha
    cases hx
    exact .pure h (by simp [convert, run_under hs, run_under hd]) (.str _)
  · cases ha
theorem bytes_ok {ρ : Ren} : ∀ (cs : List AV) (xs : List Value) (l : List Nat), VRs ρ cs xs → bytesOfCells cs = some l → ∃ bs : List UInt8, l = bs.map (·.toNat) ∧ xs = bs.map (fun b => Value.int .u8 b.toNat)
  | [], xs, l, h, hb => by cases h; simp [bytesOfCells] at hb; subst hb; exact ⟨[], rfl, rfl⟩
  | c :: cs, xs, l, h, hb => by
    cases h with
    | cons h t =>
      cases h <;> try (simp [bytesOfCells] at hb; done)
      rename_i k n
      cases k <;> try (simp [bytesOfCells] at hb; done)
      simp only [bytesOfCells] at hb
      split at hb
      · rename_i r hr
        split at hb
        · rename_i hg
          cases hb
          obtain ⟨bs, g1, g2⟩ := bytes_ok cs _ _ t hr
          simp only [Bool.and_eq_true, decide_eq_true_eq] at hg
          have hn : (n.toNat.toUInt8.toNat : Nat) = n.toNat := by simp; omega
          refine ⟨n.toNat.toUInt8 :: bs, by simp only [List.map_cons, hn, g1], ?_⟩
          simp only [List.map_cons, hn, g2]
          congr 2; omega
        · cases hb
      · cases hb
theorem pushes (bs : List UInt8) : ∀ (s : ByteArray), ((bs.map fun b => ((b.toNat : Nat) : Int)).foldl (fun r n => r.push (UInt8.ofNat n.toNat)) s).data.toList = s.data.toList ++ bs := by
  induction bs with
  | nil => intro s; simp
  | cons b bs ih =>
    intro s
    simp only [List.map_cons, List.foldl_cons]
    rw [ih]
    simp [ByteArray.push]
theorem b2s_ok {ρ : Ren} {H : Heap} {w : World} {s d e : TypeId} {x : CX} {x' : Value} {tm : Tm} {a : AV} {H' : Heap} (hs : P.underlying s = some (.slice e)) (he : P.underlying e = some (.int .u8)) (hd : P.underlying d = some .string)
    (h : WR ρ H w) (hx : VR ρ (x.ev tm) x') (ha : sB2s x tm H = some (a, H')) : OpOK P ρ w (convert s d x') a H' := by
  unfold sB2s at ha
  generalize x.ev tm = xa at hx ha
  cases hx <;> simp only at ha <;> try (cases ha; done)
  · rename_i r v o n cap el B c cc hB hc hn hz hcap
    cases el1 : ldCells H r v o n with
    | none => simp [el1] at ha
    | some cs =>
      simp only [el1] at ha
      cases eb : bytesOfCells cs with
      | none => simp [eb] at ha
      | some l =>
        simp only [eb] at ha
        cases ha
        have hload : ∃ xs : List Value, (loadCells ⟨B.b, c, none⟩ n).run P w = .ok xs.toArray w ∧ VRs ρ cs xs := by
          rcases hc with hc | ⟨h0, _⟩
          · exact ldCells_run (P := P) h el1 hB hc
          · subst h0
            have : cs = [] := by
              unfold ldCells at el1
              split at el1
              · exact List.eq_nil_of_length_eq_zero (ldList_spec el1).1
              · cases el1
            subst this
            exact ⟨[], by simp [ldCells_zero], .nil⟩
        obtain ⟨xs, g1, g2⟩ := hload
        obtain ⟨bs, f1, f2⟩ := bytes_ok cs xs l g2 eb
        subst f1 f2
        have g1' : (loadCells ⟨B.b, c, none⟩ n).run P w = .ok ((bs.map fun b => ((b.toNat : Nat) : Int)).map (Value.int .u8)).toArray w := by
          rw [g1]; simp [Function.comp_def]
        have := run_bytesToString (P := P) w ⟨B.b, c, none⟩ n cc (bs.map fun b => ((b.toNat : Nat) : Int)) g1'
        refine .pure h (by rw [run_convert_bytes_string (P := P) w s d e _ n cc hs he hd]; exact this) ?_
        have hp := pushes bs ByteArray.empty
        have e2 : bs.map (·.toNat) = (((bs.map fun b => ((b.toNat : Nat) : Int)).foldl (fun r n => r.push (UInt8.ofNat n.toNat)) ByteArray.empty).data.toList).map (·.toNat) := by
          rw [hp]; simp
        rw [e2]; exact .str _
  · cases ha
    refine .pure (v' := .string .empty) h (by simp [convert, run_under hs, run_under he, run_under hd, Conv.bytesToString]) ?_
    exact VR.str ByteArray.empty
theorem s2b_ok {ρ : Ren} {H : Heap} {w : World} {s d e : TypeId} {x : CX} {x' : Value} {tm : Tm} {a : AV} {H' : Heap} (hs : P.underlying s = some .string) (hd : P.underlying d = some (.slice e)) (he : P.underlying e = some (.int .u8))
    (h : WR ρ H w) (hx : VR ρ (x.ev tm) x') (ha : sS2b x tm H = some (a, H')) : OpOK P ρ w (convert s d x') a H' := by
  unfold sS2b at ha
  generalize x.ev tm = xa at hx ha
  cases hx <;> simp only at ha <;> try (cases ha; done)
  rename_i str
  simp only [Option.some.injEq, Prod.mk.injEq] at ha
  obtain ⟨rfl, rfl⟩ := ha
  let nc := (Question.appendCap str.size 0 e).cut (w.tape w.drawn (.appendCap str.size 0 e))
  have hnc : str.size ≤ nc := by show _ ≤ str.size + _ ; omega
  have hch : (choose (.appendCap str.size 0 e)).run P w = .ok nc { w with drawn := w.drawn + 1 } := by
    simp [choose, Sem.run, Question.forced, nc]
  let cells : Array Value := (str.data.map fun b => Value.int .u8 b.toNat) ++ Array.replicate (nc - str.size) (.int .u8 0)
  have hcs : cells.size = nc := by
    have : str.data.size = str.size := rfl
    simp [cells, this]; omega
  have hw := h.at (w.drawn + 1)
  have g := hw.newRow (c := cells) (el := e) (fr := (nc, nc + 1)) (l := bytesToCells (str.data.toList.map (·.toNat))) (fun i a ha => by
      obtain ⟨y, hy, hv⟩ := (bytesCells_ok (ρ := ρ) str.data.toList).get i a ha
      refine ⟨y, ?_, hv⟩
      have hi : i < str.data.size := by
        have := (List.getElem?_eq_some_iff.1 hy).1; simpa using this
      rw [Array.getElem?_append_left (by simpa using hi)]
      simpa using hy) (by intro i hi; rw [hcs] at hi; simp; omega)
  obtain ⟨g1, g2, g3, g4⟩ := g
  refine ⟨.slice (some ⟨w.heap.size, 0, none⟩) str.size nc, _, _, ?_, g2, ?_, ?_, g1, ?_⟩
  · have hconv : (convert s d (.string str)).run P w = (Conv.stringToBytes e str).run P w := by simp [convert, run_under hs, run_under hd, run_under he]
    rw [hconv]
    simp only [Conv.stringToBytes, Sem.run_bind, hch, Result.andThen_ok, newRow, Go.newObj, Sem.run, Sem.run_pure, markStringish, shape, freeze]
    have hsh : World.shape? { w with drawn := w.drawn + 1, heap := w.heap.push (.cells cells e) } w.heap.size = some (e, nc) := by
      simp [World.shape?, hcs]
    simp only [cells] at hsh
    simp only [hsh, Sem.run_bind, Sem.run, Result.andThen_ok, Sem.run_pure]
    congr 1
    simp only [World.freeze]
    rw [if_neg (by decide)]
    congr 1
    apply Array.ext_getElem?
    intro j
    simp only [Array.getElem?_modify, Array.getElem?_push]
    by_cases hj : w.heap.size = j
    · subst hj; simp [cells]
    · have hj' : ¬ j = w.heap.size := fun e => hj e.symm
      simp [hj, hj']
  · intro r v B hB; rcases g3 r v B hB with q | q
    · exact .inl q
    · exact .inr q
  · have hlen : (str.data.toList.map (·.toNat)).length = str.size := by simp
    rw [hlen]
    exact .slice (c := 0) (B := ⟨w.heap.size, 0, cells.size⟩) (Ren.upd_self _ _ _ _) (.inl (by simp)) hnc (by simp [hcs]) (.inl rfl)
  · exact ⟨g4.size, g4.keep, g4.tape, g4.os, g4.out, g4.kind⟩
end Go.Ex
namespace Go.Ex
open Go
variable {P : Program}
theorem mkmap_ok {ρ : Ren} {H : Heap} {w : World} {t : TypeId} (h : WR ρ H w) : OpOK P ρ w (Instr.makeMap t none) (.map H.next) (H.new (.map [] 0)).2 := by
  let B2 : Blk := ⟨w.heap.size, 0, 0⟩
  obtain ⟨p1, p2, p3, p4⟩ := h.newObj (o := .map [] 0) (ob := .map #[] 0) (B := B2) rfl
    ⟨B2, #[], Ren.upd_self _ _ _ _, by rw [heap_push]; simp [B2], .nil⟩
  exact ⟨.map (some w.heap.size), _, _, by simp [Instr.makeMap, Go.newObj, Sem.run], p2, p3, .map (B := B2) (Ren.upd_self _ _ _ _), p1, p4⟩
theorem fld_ok {ρ : Ren} {H : Heap} {w : World} {s : TypeId} {fs : Array Field} {f : Field} {i off : Nat} {x : CX} {x' : Value} {tm : Tm} {a : AV} {H' : Heap} (hs : P.underlying s = some (.struct fs)) (hf : fs[i]? = some f)
    (hn : ¬ P.cellsOf f.type = 0) (ho : off = f.offset) (h : WR ρ H w) (hx : VR ρ (x.ev tm) x') (ha : sFld off x tm H = some (a, H')) : OpOK P ρ w (Instr.fieldAt s x' i) a H' := by
  unfold sFld at ha
  generalize x.ev tm = xa at hx ha
  cases hx <;> simp only at ha <;> try (cases ha; done)
  rename_i r v o B c hB hc
  cases ha
  obtain ⟨fi, hfi⟩ : ∃ i, P.info? f.type = some i := by
    cases e1 : P.info? f.type with
    | some i => exact ⟨i, rfl⟩
    | none => exact absurd (by simp [Program.cellsOf, e1]) hn
  subst ho
  refine .pure (v' := .pointer (some ⟨B.b, c + f.offset, none⟩)) h ?_ (.ptr hB (by push_cast; omega))
  simp [Instr.fieldAt, Instr.sureAddr, fieldPlace, run_under hs, hf, run_size hfi, hn, add_none]
theorem VRs.extract {ρ : Ren} {l : List AV} {vs : Array Value} (h : VRs ρ l vs.toList) (off n : Nat) : VRs ρ ((l.drop off).take n) (vs.extract off (off + n)).toList := by
  rw [Array.toList_extract]
  have := (h.drop off).take n
  simpa [List.extract] using this
theorem part_ok {ρ : Ren} {w : World} {t : TypeId} {d : TypeDesc} {l : List AV} {vs : Array Value} {off : Nat} {a : AV} (hd : P.underlying t = some d) (h : VRs ρ l vs.toList)
    (ha : (if isAggT P t then some (.agg ((l.drop off).take (P.cellsOf t))) else match l.drop off with | a :: _ => some a | [] => none) = some a) : ∃ v, (part t vs off).run P w = .ok v w ∧ VR ρ a v := by
  by_cases hg : isAggT P t = true
  · rw [if_pos hg] at ha
    cases ha
    exact ⟨.agg (vs.extract off (off + P.cellsOf t)), by simp [part, run_isAgg hd, hg, run_size' hd], .agg (h.extract off _)⟩
  · rw [if_neg hg] at ha
    cases e : l.drop off with
    | nil => simp [e] at ha
    | cons b tl =>
      simp only [e, Option.some.injEq] at ha
      subst ha
      have hb : l[off]? = some b := by
        have := List.getElem?_drop (xs := l) (i := off) (j := 0); rw [e] at this; simpa using this.symm
      obtain ⟨y, hy, hv⟩ := h.get _ _ hb
      have hy' : vs[off]? = some y := by simpa using hy
      have hg : isAggT P t = false := by simpa using hg
      exact ⟨y, by simp [part, run_isAgg hd, hg, hy'], hv⟩
theorem fldv_ok {ρ : Ren} {H : Heap} {w : World} {s : TypeId} {fs : Array Field} {f : Field} {i : Nat} {d : TypeDesc} {x : CX} {x' : Value} {tm : Tm} {a : AV} {H' : Heap} (hs : P.underlying s = some (.struct fs)) (hf : fs[i]? = some f)
    (hd : P.underlying f.type = some d) (h : WR ρ H w) (hx : VR ρ (x.ev tm) x') (ha : sFldv (isAggT P f.type) f.offset (P.cellsOf f.type) x tm H = some (a, H')) : OpOK P ρ w (Instr.field s x' i) a H' := by
  unfold sFldv at ha
  generalize x.ev tm = xa at hx ha
  cases hx <;> simp only at ha <;> try (cases ha; done)
  rename_i l vs hl
  have hx2 : ∃ b, (if isAggT P f.type then some (.agg ((l.drop f.offset).take (P.cellsOf f.type))) else match l.drop f.offset with | a :: _ => some a | [] => none) = some b ∧ a = b ∧ H' = H := by
    split at ha
    · rename_i hg; cases ha; rw [if_pos hg]; exact ⟨_, rfl, rfl, rfl⟩
    · rename_i hg
      split at ha
      · rename_i e; cases ha; rw [if_neg hg, e]; exact ⟨_, rfl, rfl, rfl⟩
      · cases ha
  obtain ⟨b, hb, rfl, rfl⟩ := hx2
  obtain ⟨v, g1, g2⟩ := part_ok (P := P) (w := w) hd hl hb
  exact .pure h (by simp [Instr.field, run_under hs, hf, asAgg, g1]) g2
theorem ixv_ok {ρ : Ren} {H : Heap} {w : World} {t e : TypeId} {len : Nat} {d : TypeDesc} {x i : CX} {x' i' : Value} {tm : Tm} {a : AV} {H' : Heap} (ht : P.underlying t = some (.array len e)) (hd : P.underlying e = some d)
    (h : WR ρ H w) (hx : VR ρ (x.ev tm) x') (hi : VR ρ (i.ev tm) i') (ha : sIxv (isAggT P e) len (P.cellsOf e) x i tm H = some (a, H')) : OpOK P ρ w (Instr.index t x' i') a H' := by
  unfold sIxv at ha
  cases ei : asIdx (i.ev tm) with
  | none => simp [ei] at ha
  | some m =>
    obtain ⟨k, rfl⟩ := asIdx_ok hi ei
    simp only [ei] at ha
    generalize x.ev tm = xa at hx ha
    cases hx <;> simp only at ha <;> try (cases ha; done)
    rename_i l vs hl
    split at ha
    · rename_i hm
      have hm : m < len := Nat.le_of_ble_eq_true hm
      have hx2 : ∃ b, (if isAggT P e then some (.agg ((l.drop (m * P.cellsOf e)).take (P.cellsOf e))) else match l.drop (m * P.cellsOf e) with | a :: _ => some a | [] => none) = some b ∧ a = b ∧ H' = H := by
        split at ha
        · rename_i hg; cases ha; rw [if_pos hg]; exact ⟨_, rfl, rfl, rfl⟩
        · rename_i hg
          split at ha
          · rename_i e; cases ha; rw [if_neg hg, e]; exact ⟨_, rfl, rfl, rfl⟩
          · cases ha
      obtain ⟨b, hb, rfl, rfl⟩ := hx2
      obtain ⟨v, g1, g2⟩ := part_ok (P := P) (w := w) hd hl hb
      have : ¬ len ≤ m := by omega
      exact .pure h (by simp [Instr.index, asIntOf, run_under ht, hm, run_size' hd, g1]) g2
    · cases ha
theorem ixs_ok {ρ : Ren} {H : Heap} {w : World} {t : TypeId} {x i : CX} {x' i' : Value} {tm : Tm} {a : AV} {H' : Heap} (ht : P.underlying t = some .string)
    (h : WR ρ H w) (hx : VR ρ (x.ev tm) x') (hi : VR ρ (i.ev tm) i') (ha : sIxs x i tm H = some (a, H')) : OpOK P ρ w (Instr.index t x' i') a H' := by
  unfold sIxs at ha
  cases ei : asIdx (i.ev tm) with
  | none => simp [ei] at ha
  | some m =>
    obtain ⟨k, rfl⟩ := asIdx_ok hi ei
    simp only [ei] at ha
    generalize x.ev tm = xa at hx ha
    cases hx <;> simp only at ha <;> try (cases ha; done)
    rename_i s
    split at ha
    · rename_i b t e
      cases ha
      have hb : (s.data.toList.map (·.toNat))[m]? = some b := by
        have := List.getElem?_drop (xs := s.data.toList.map (·.toNat)) (i := m) (j := 0); rw [e] at this; simpa using this.symm
      simp only [List.getElem?_map, Option.map_eq_some_iff] at hb
      obtain ⟨u, hu, rfl⟩ := hb
      have hs : s[m]? = some u := by
        have : s.data[m]? = some u := by simpa using hu
        have hlt : m < s.size := by
          have := (Array.getElem?_eq_some_iff.1 this).1; exact this
        have hv := (Array.getElem?_eq_some_iff.1 this).2
        rw [getElem?_pos s m hlt]
        exact congrArg some hv
      exact .pure (v' := .int .u8 u.toNat) h (by simp [Instr.index, asIntOf, run_under ht, hs]) (.int _ _)
    · cases ha
theorem ext_ok {ρ : Ren} {H : Heap} {w : World} {x : CX} {x' : Value} {i : Nat} {tm : Tm} {a : AV} {H' : Heap}
    (h : WR ρ H w) (hx : VR ρ (x.ev tm) x') (ha : sExt x i tm H = some (a, H')) : OpOK P ρ w (Instr.extract x' i) a H' := by
  unfold sExt at ha
  generalize x.ev tm = xa at hx ha
  cases hx <;> simp only at ha <;> try (cases ha; done)
  rename_i l vs hl
  split at ha
  · rename_i b t e
    cases ha
    have hb : l[i]? = some a := by
      have := List.getElem?_drop (xs := l) (i := i) (j := 0); rw [e] at this; simpa using this.symm
    obtain ⟨y, hy, hv⟩ := hl.get _ _ hb
    have hy' : vs[i]? = some y := by simpa using hy
    exact .pure h (by simp [Instr.extract, hy']) hv
  · cases ha
theorem clearm_ok {ρ : Ren} {H : Heap} {w : World} {ats : Array TypeId} {ty t : TypeId} {e f : TypeId} {x : CX} {x' : Value} {tm : Tm} {a : AV} {H' : Heap} (h0 : ats[0]? = some t) (ht : P.underlying t = some (.map e f))
    (h : WR ρ H w) (hx : VR ρ (x.ev tm) x') (ha : sClearm x tm H = some (a, H')) : OpOK P ρ w (Builtin.clear_ ats ty #[x']) a H' := by
  unfold sClearm at ha
  generalize x.ev tm = xa at hx ha
  cases hx <;> simp only at ha <;> try (cases ha; done)
  · rename_i r B hB
    simp only [mapOf] at ha
    cases eg : H.get r with
    | none => simp [eg] at ha
    | some o =>
      simp only [eg] at ha
      cases o <;> simp only at ha <;> try (cases ha; done)
      rename_i es clock
      obtain ⟨B', es', q1, g4, g5⟩ := h.obj _ _ eg
      rw [hB] at q1; cases q1
      cases ha
      have hget := run_getObj' (P := P) g4 (by simp)
      have hset := fun o => run_setObj' (P := P) (o' := o) g4 (by simp)
      obtain ⟨p1, p2⟩ := putMap (clock := clock) (es := []) (es' := #[]) h eg hB .nil
      exact ⟨.tuple #[], _, ρ, by simp [Builtin.clear_, h0, run_under ht, hget, hset], ρ.le_refl, ρ.newer_refl w, .tup .nil, p1, p2⟩
  · cases ha
    exact .pure (v' := .tuple #[]) h (by simp [Builtin.clear_, h0, run_under ht]) (.tup .nil)
theorem un_ok {ρ : Ren} {H : Heap} {w : World} {op : UnOp} {a v : AV} {x : Value} (h : WR ρ H w) (hx : VR ρ a x) (ha : aUn op a = some v) : OpOK P ρ w (Op.unary op x) v H := by
  unfold aUn at ha
  split at ha
  · cases hx; cases ha
    exact .pure h (by simp [Op.unary, Op.intArith]) (.int _ _)
  · cases hx
    rename_i k n
    have := int_ok (P := P) (w := w) (op := .xor) (t := 0) ha ⟨by simp, by simp⟩
    obtain ⟨v', g1, g2⟩ := this
    exact .pure h (by simpa [Op.unary, binOp] using g1) (g2 ρ)
  · cases hx; cases ha
    exact .pure h (by simp [Op.unary]) (.bool _)
  · cases ha
theorem nilchk_ok {ρ : Ren} {x : CX} {x' : Value} {tm : Tm} {a : AV} {H H' : Heap} (hx : VR ρ (x.ev tm) x') (ha : sNilchk x tm H = some (a, H')) :
    H' = H ∧ VR ρ a x' ∧ ((∃ p, x' = .pointer (some p)) ∨ (∃ t v, x' = .iface t v) ∨ ∃ f a b, x' = .func (.func f) a b) := by
  unfold sNilchk at ha
  generalize x.ev tm = xa at hx ha
  cases hx <;> simp only at ha <;> try (cases ha; done)
  · rename_i h hc; cases ha; exact ⟨rfl, .ptr h hc, .inl ⟨_, rfl⟩⟩
  · rename_i ha' hb'; cases ha; exact ⟨rfl, .func ha' hb', .inr (.inr ⟨_, _, _, rfl⟩)⟩
  · rename_i h; cases ha; exact ⟨rfl, .iface h, .inr (.inl ⟨_, _, rfl⟩)⟩
end Go.Ex
namespace Go.Ex
open Go
variable {P : Program}
theorem slstr_ok {ρ : Ren} {H : Heap} {w : World} {t : TypeId} {x : CX} {x' : Value} {tm : Tm} {lo hi : Option CX} {lo' hi' : Option Value} {a : AV} {H' : Heap}
    (ht : P.underlying t = some .string) (h : WR ρ H w) (hx : VR ρ (x.ev tm) x') (h1 : XO ρ tm lo lo') (h2 : XO ρ tm hi hi') (ha : sSlstr x lo hi tm H = some (a, H')) : OpOK P ρ w (Instr.sliceAt t x' lo' hi' none) a H' := by
  unfold sSlstr at ha
  generalize x.ev tm = xa at hx ha
  cases hx <;> simp only at ha <;> try (cases ha; done)
  rename_i s
  have hlen : (s.data.toList.map (·.toNat)).length = s.size := by simp
  rw [hlen] at ha
  cases e1 : optIdx tm lo 0 with
  | none => simp [e1] at ha
  | some l => cases e2 : optIdx tm hi s.size with
    | none => simp [e1, e2] at ha
    | some hh =>
      simp only [e1, e2] at ha
      split at ha
      · rename_i hg
        simp only [Bool.and_eq_true] at hg
        have g1 := Nat.le_of_ble_eq_true hg.1
        have g2 := Nat.le_of_ble_eq_true hg.2
        cases ha
        refine .pure (v' := .string (s.extract l hh)) h ?_ ?_
        · simp [Instr.sliceAt, Instr.slice, run_under ht, bounds2 (P := P) (isS := false) (w := w) (cap := s.size) h1 h2 e1 e2 g1 g2]
        · have e : ((s.data.toList.map (·.toNat)).take hh).drop l = ((s.extract l hh).data.toList).map (·.toNat) := by
            rw [← List.map_take, ← List.map_drop]
            congr 1
            rw [ByteArray.data_extract, Array.toList_extract, List.extract]
            rw [List.drop_take]
          rw [e]; exact .str _
      · cases ha
theorem copy_ok {ρ : Ren} {H : Heap} {w : World} {ats : Array TypeId} {ty dt e : TypeId} {n : Nat} {x y : CX} {x' y' : Value} {tm : Tm} {a : AV} {H' : Heap} (h0 : ats[0]? = some dt) (hd : P.underlying dt = some (.slice e)) (he : ∃ i, P.info? e = some i) (hn : n = P.cellsOf e)
    (h : WR ρ H w) (hx : VR ρ (x.ev tm) x') (hy : VR ρ (y.ev tm) y') (ha : sCopy n x y tm H = some (a, H')) : OpOK P ρ w (Builtin.copy_ ats ty #[x', y']) a H' := by
  obtain ⟨ie, hie⟩ := he
  unfold sCopy at ha
  cases ex : lenOfA (x.ev tm) with
  | none => simp [ex] at ha
  | some ln => cases ey : lenOfA (y.ev tm) with
    | none => simp [ex, ey] at ha
    | some lm =>
      simp only [ex, ey] at ha
      cases es : srcCells H n (min lm ln) (y.ev tm) with
      | none => simp [es] at ha
      | some cs =>
        simp only [es] at ha
        obtain ⟨xs, g1, g2⟩ := firstCells_run (P := P) h hy es
        have hly := lenOf_run (P := P) (w := w) hy ey
        have hsz : (sizeOf e).run P w = .ok n w := by rw [run_size hie, hn]
        generalize hxa : x.ev tm = xa at hx ha
        rw [hxa] at ex
        cases hx <;> simp only [lenOfA] at ex <;> simp only at ha <;> try (cases ex; done)
        · cases ha
        · rename_i r v o len capk el B c cc hB hc hnc hz hcap
          cases ex
          split at ha
          · rename_i hc0
            have hc0 := Nat.eq_of_beq_eq_true hc0
            cases ha
            have g1' : (Builtin.firstCells n 0 y').run P w = .ok xs w := by rw [hc0] at g1; exact g1
            have hxs : xs.toList = [] := by
              have := g2.length
              have hcs : cs.length = 0 := by
                cases hyy : y.ev tm <;> rw [hyy] at es <;> simp only [srcCells, hc0] at es <;> try (cases es; done)
                · cases es; simp [bytesToCells]
                · split at es
                  · unfold ldCells at es
                    split at es
                    · simpa using (ldList_spec es).1
                    · cases es
                  · cases es
                · cases es; rfl
              rw [hcs] at this
              exact List.eq_nil_of_length_eq_zero this.symm
            refine .pure (v' := Go.goInt 0) h ?_ (.int _ _)
            have hmin : Nat.min lm ln = 0 := hc0
            simp [Builtin.copy_, h0, run_under hd, hly, hmin, hsz, g1', hxs, storeCells]
          · rename_i hc0
            split at ha
            · cases ha
            · split at ha
              · rename_i H1 hst
                cases ha
                have hc : (c : Int) = o + B.s := by
                  rcases hc with hc | ⟨h1, _⟩
                  · exact hc
                  · subst h1; exfalso; apply hc0
                    have : min lm 0 = 0 := Nat.min_zero _
                    rw [this]; rfl
                obtain ⟨cs0, cs', hr, hst', rfl⟩ := stCells_get hst
                obtain ⟨w', r1, r2, r3⟩ := storeCells_run (P := P) cs xs.toList H w cs0 o c 0 cs' h hr hB (by simpa using hc) hst' g2
                refine ⟨Go.goInt (Nat.min lm ln), w', ρ, ?_, ρ.le_refl, ρ.newer_refl w, .int _ _, r2, r3⟩
                have g1' : (Builtin.firstCells n (Nat.min lm ln) y').run P w = .ok xs w := g1
                simp [Builtin.copy_, h0, run_under hd, hly, hsz, g1', r1]
              · cases ha
        · cases ex
          cases ha
          refine .pure (v' := Go.goInt (Nat.min lm 0)) h ?_ (.int _ _)
          have g1' : (Builtin.firstCells n 0 y').run P w = .ok xs w := by rw [Nat.min_zero] at g1; exact g1
          simp [Builtin.copy_, h0, run_under hd, hly, hsz, g1']
theorem cap_ok {ρ : Ren} {H : Heap} {w : World} {ats : Array TypeId} {ty t e : TypeId} {x : CX} {x' : Value} {tm : Tm} {a : AV} {H' : Heap} (h0 : ats[0]? = some t) (ht : P.underlying t = some (.slice e))
    (h : WR ρ H w) (hx : VR ρ (x.ev tm) x') (ha : sCap x tm H = some (a, H')) : OpOK P ρ w (Builtin.cap_ ats ty #[x']) a H' := by
  unfold sCap at ha
  generalize x.ev tm = xa at hx ha
  cases hx <;> simp only at ha <;> try (cases ha; done)
  · rename_i r v o len capk el B c cc hB hc hnc hz hcap
    split at ha
    · cases ha
    · rename_i hk
      cases ha
      rcases hcap with e | e
      · exact absurd (by rw [e]; rfl) hk
      · subst e
        exact .pure (v' := Go.goInt cc) h (by simp [Builtin.cap_, h0, run_under ht]) (.int _ _)
  · cases ha
    exact .pure (v' := Go.goInt 0) h (by simp [Builtin.cap_, h0, run_under ht]) (.int _ _)
theorem aMax_two (k j : IntKind) (x y : Int) (rest : List AV) : aMax (.int k x :: .int j y :: rest) = aMax (.int k (if decide (y > x) then y else x) :: rest) := by cases rest <;> rfl
theorem aMin_two (k j : IntKind) (x y : Int) (rest : List AV) : aMin (.int k x :: .int j y :: rest) = aMin (.int k (if decide (y < x) then y else x) :: rest) := by cases rest <;> rfl
theorem max_ok {ρ : Ren} {w : World} : ∀ (n : Nat) (as : List AV) (vs : List Value) (v : AV), as.length = n → VRs ρ as vs → aMax as = some v →
    ∃ x rest v', vs = x :: rest ∧ (rest.foldlM Builtin.max2 x).run P w = .ok v' w ∧ VR ρ v v'
  | 0, as, vs, v, hn, h, hm => by cases as <;> simp at hn; simp [aMax] at hm
  | n + 1, as, vs, v, hn, h, hm => by
    cases h with
    | nil => simp at hn
    | cons h1 t =>
      cases t with
      | nil =>
        have : aMax [_] = some v := hm
        rw [aMax] at this; cases this
        exact ⟨_, [], _, rfl, by simp, h1⟩
      | cons h2 t2 =>
        cases h1 <;> try (simp [aMax] at hm; done)
        cases h2 <;> try (simp [aMax, aMaxI] at hm; done)
        rename_i k x k' y
        rw [aMax_two] at hm
        obtain ⟨x0, rest, v', e1, e2, e3⟩ := max_ok n _ _ v (by simpa using hn) (.cons (.int k (if decide (y > x) then y else x)) t2) hm
        cases e1
        refine ⟨_, _, v', rfl, ?_, e3⟩
        rw [List.foldlM_cons]
        have : (Builtin.max2 (.int k x) (.int k' y)).run P w = .ok (.int k (if decide (y > x) then y else x)) w := by simp [Builtin.max2]
        rw [Sem.run_bind, this]
        exact e2
theorem min_ok {ρ : Ren} {w : World} : ∀ (n : Nat) (as : List AV) (vs : List Value) (v : AV), as.length = n → VRs ρ as vs → aMin as = some v →
    ∃ x rest v', vs = x :: rest ∧ (rest.foldlM Builtin.min2 x).run P w = .ok v' w ∧ VR ρ v v'
  | 0, as, vs, v, hn, h, hm => by cases as <;> simp at hn; simp [aMin] at hm
  | n + 1, as, vs, v, hn, h, hm => by
    cases h with
    | nil => simp at hn
    | cons h1 t =>
      cases t with
      | nil =>
        have : aMin [_] = some v := hm
        rw [aMin] at this; cases this
        exact ⟨_, [], _, rfl, by simp, h1⟩
      | cons h2 t2 =>
        cases h1 <;> try (simp [aMin] at hm; done)
        cases h2 <;> try (simp [aMin, aMinI] at hm; done)
        rename_i k x k' y
        rw [aMin_two] at hm
        obtain ⟨x0, rest, v', e1, e2, e3⟩ := min_ok n _ _ v (by simpa using hn) (.cons (.int k (if decide (y < x) then y else x)) t2) hm
        cases e1
        refine ⟨_, _, v', rfl, ?_, e3⟩
        rw [List.foldlM_cons]
        have : (Builtin.min2 (.int k x) (.int k' y)).run P w = .ok (.int k (if decide (y < x) then y else x)) w := by simp [Builtin.min2]
        rw [Sem.run_bind, this]
        exact e2
theorem replicate_flatten_len {z : List AV} (n : Nat) : ((List.replicate n z).flatten).length = n * z.length := by simp
theorem clears_ok {ρ : Ren} {H : Heap} {w : World} {ats : Array TypeId} {ty t e : TypeId} {n : Nat} {z : AV} {x : CX} {x' : Value} {tm : Tm} {a : AV} {H' : Heap} (h0 : ats[0]? = some t) (ht : P.underlying t = some (.slice e))
    (hz : zeroA P e = some z) (h : WR ρ H w) (hx : VR ρ (x.ev tm) x') (ha : sClears n z.cells x tm H = some (a, H')) : OpOK P ρ w (Builtin.clear_ ats ty #[x']) a H' := by
  obtain ⟨zv, hzr, hzv⟩ := run_zeroA (P := P) (ρ := ρ) (w := w) hz
  unfold sClears at ha
  generalize x.ev tm = xa at hx ha
  cases hx <;> simp only at ha <;> try (cases ha; done)
  · rename_i r v o len capk el B c cc hB hc hnc hz hcap
    split at ha
    · rename_i hk
      have hk := Nat.eq_of_beq_eq_true hk
      subst hk
      cases ha
      exact .pure (v' := .tuple #[]) h (by simp [Builtin.clear_, h0, run_under ht]) (.tup .nil)
    · rename_i hk
      split at ha
      · cases ha
      · rename_i hne
        have hne : n = el := by
          have : Nat.beq n el = true := by simpa using hne
          exact Nat.eq_of_beq_eq_true this
        subst hne
        split at ha
        · rename_i H1 hst
          split at ha
          · rename_i hzn
            cases ha
            have hlen : len ≠ 0 := fun e => hk (by subst e; rfl)
            have hc : (c : Int) = o + B.s := by rcases hc with hc | hc; exact hc; exact absurd hc.1 hlen
            obtain ⟨cs0, cs', hr, hst', rfl⟩ := stCells_get hst
            have hzs := zeros_ok (ρ := ρ) (zs := zv.cells) hzv.cells len
            obtain ⟨w', r1, r2, r3⟩ := storeCells_run (P := P) _ _ H w cs0 o c 0 cs' h hr hB (by simpa using hc) hst' hzs
            refine ⟨.tuple #[], w', ρ, ?_, ρ.le_refl, ρ.newer_refl w, .tup .nil, r2, r3⟩
            obtain ⟨len', rfl⟩ : ∃ m, len = m + 1 := ⟨len - 1, by omega⟩
            simp only [Builtin.clear_, List.getElem?_toArray, List.getElem?_cons_zero, h0, Sem.run_bind, run_under ht, Result.andThen_ok, hzr]
            have : (Builtin.zeroCells zv.cells (len' + 1)).toList = ((Array.range ((len' + 1) * zv.cells.size)).map (fun i => zv.cells[i % zv.cells.size]!)).toList := rfl
            rw [this, r1]; rfl
          · cases ha
        · cases ha
  · cases ha
    exact .pure (v' := .tuple #[]) h (by simp [Builtin.clear_, h0, run_under ht]) (.tup .nil)
theorem run_asInt' (k : IntKind) (n : Int) (w : World) : (asInt (.int k n)).run P w = .ok n w := rfl
theorem mkslice_ok {ρ : Ren} {H : Heap} {w : World} {t e : TypeId} {z : AV} {l c : CX} {l' c' : Value} {tm : Tm} {a : AV} {H' : Heap} (ht : P.underlying t = some (.slice e)) (hz : zeroA P e = some z) (hzn : z.cells.length = P.cellsOf e)
    (h : WR ρ H w) (hl : VR ρ (l.ev tm) l') (hc : VR ρ (c.ev tm) c') (ha : sMkslice (P.bytesOf e) z.cells l c tm H = some (a, H')) : OpOK P ρ w (Instr.makeSlice t l' c') a H' := by
  obtain ⟨ie, zv, hie, hz1, hzv⟩ := zeroA_ok (ρ := ρ) hz
  have hzr : ∀ w : World, (zeroValue e).run P w = .ok zv w := fun w => run_zero hie hz1
  unfold sMkslice at ha
  cases el : asIdx (l.ev tm) with
  | none => simp [el] at ha
  | some ln => cases ec : asIdx (c.ev tm) with
    | none => simp [el, ec] at ha
    | some cn =>
      simp only [el, ec] at ha
      obtain ⟨kl, rfl⟩ := asIdx_ok hl el
      obtain ⟨kc, rfl⟩ := asIdx_ok hc ec
      split at ha
      · rename_i hg
        simp only [Bool.and_eq_true] at hg
        have g1 := Nat.le_of_ble_eq_true hg.1.1
        have g2 := Nat.le_of_ble_eq_true hg.1.2
        have g3 := Nat.le_of_ble_eq_true hg.2
        simp only [Option.some.injEq, Prod.mk.injEq] at ha
        obtain ⟨rfl, rfl⟩ := ha
        have hb : ie.bytes = P.bytesOf e := by simp [Program.bytesOf, hie]
        have hwl : IntKind.i64.wrap (ln : Int) = ln := IntWalk.i64_in _ (by omega)
        have hwc : IntKind.i64.wrap (cn : Int) = cn := IntWalk.i64_in _ (by omega)
        have hmul : (ie.bytes : Int) * (cn : Int) ≤ 1048576 := by rw [hb]; rw [Nat.mul_comm] at g2; exact Int.ofNat_le.mpr g2
        have hz' : ∀ (w : World), ((if cn * P.cellsOf e = 0 then pure #[] else do pure (← zeroValue e).cells : Sem (Array Value))).run P w = .ok (if cn * P.cellsOf e = 0 then #[] else zv.cells) w := by
          intro w; split <;> simp [hzr]
        have hzsz : zv.cells.size = P.cellsOf e := by rw [← hzn, hzv.cells.length]; simp
        have hrow : VRs ρ ((List.replicate cn z.cells).flatten) ((Array.range (cn * P.cellsOf e)).map ((if cn * P.cellsOf e = 0 then #[] else zv.cells)[· % (if cn * P.cellsOf e = 0 then (#[] : Array Value) else zv.cells).size]!)).toList := by
          by_cases h0 : cn * P.cellsOf e = 0
          · have : (List.replicate cn z.cells).flatten = [] := List.eq_nil_of_length_eq_zero (by rw [replicate_flatten_len, hzn, h0])
            rw [this]; simp only [h0]; exact (by simp; exact .nil)
          · simp only [h0, if_false]
            have := zeros_ok (ρ := ρ) (zs := zv.cells) hzv.cells cn
            rw [← hzsz]; exact this
        obtain ⟨ρ', w', q1, q2, q3, q4, q5, q6⟩ := newRow_ok (P := P) (el := e) h hrow
        refine ⟨_, w', ρ', ?_, q2, q3, .slice (c := 0) (cc := cn) q6 (.inl (by simp)) g1 ?_ (.inr rfl), q4, q5⟩
        · have c1 : ¬ ((cn : Int) < 0) := by omega
          have c2 : ¬ ((ie.bytes : Int) * (cn : Int) > 2 ^ 48) := by omega
          have c3 : ¬ ((ln : Int) < 0) := by omega
          have c4 : ¬ ((ln : Int) > cn) := by omega
          simp only [Instr.makeSlice, Sem.run_bind, run_under ht, Result.andThen_ok, run_asInt', run_info hie, hwl, hwc, c1, c2, c3, c4, decide_false, Bool.or_self, Bool.false_eq_true, if_false, run_askRoom, run_size hie, Int.toNat_natCast]
          by_cases h0 : cn * P.cellsOf e = 0
          · rw [if_pos h0] at q1 ⊢
            simp only [Sem.run_bind, Sem.run_pure, Result.andThen_ok, q1]
          · rw [if_neg h0] at q1 ⊢
            simp only [Sem.run_bind, Sem.run_pure, Result.andThen_ok, hzr, q1]
        · simp [hzn]
      · cases ha
end Go.Ex
namespace Go.Ex
open Go
variable {P : Program}
theorem look_none (n : String) (fn : Func) (hn : fn.name = n) (ho : fn.origin = "") (h1 : Extern.allNextRows.lookup n = none) (h2 : Extern.allNextRows.lookup "" = none) : Extern.findNext fn = none := by
  simp [Extern.findNext, hn, ho, h1, h2]
theorem look_some (n : String) (fn : Func) (e : Array Value → Sem Value) (hn : fn.name = n) (h1 : (Extern.allGenericRows.lookup n).isNone = true) (h2 : (Extern.allTypedRows.lookup n).isNone = true)
    (h3 : Extern.allRows.lookup n = some e) : Extern.find fn = some e := by
  have h1 : Extern.allGenericRows.lookup n = none := by simpa using h1
  have h2 : Extern.allTypedRows.lookup n = none := by simpa using h2
  simp [Extern.find, hn, h1, h2, h3]
theorem next_empty : Extern.allNextRows.lookup "" = none := by kernel_rfl
def xEntry : XK → Array Value → Sem Value
  | .add k => Extern.Atomic.update (Op.intArith .add) k true
  | .indexByte => Extern.BytealgIndexByte.indexByte
  | .cmp => Extern.BytealgCompare.compare
  | .count => Extern.BytealgCount.count
theorem l_add : Extern.allNextRows.lookup "sync/atomic.AddInt64" = none ∧ (Extern.allGenericRows.lookup "sync/atomic.AddInt64").isNone = true ∧ (Extern.allTypedRows.lookup "sync/atomic.AddInt64").isNone = true ∧
    Extern.allRows.lookup "sync/atomic.AddInt64" = some (xEntry (.add .i64)) := ⟨by kernel_rfl, by kernel_rfl, by kernel_rfl, by kernel_rfl⟩
theorem l_addu : Extern.allNextRows.lookup "sync/atomic.AddUint64" = none ∧ (Extern.allGenericRows.lookup "sync/atomic.AddUint64").isNone = true ∧ (Extern.allTypedRows.lookup "sync/atomic.AddUint64").isNone = true ∧
    Extern.allRows.lookup "sync/atomic.AddUint64" = some (xEntry (.add .u64)) := ⟨by kernel_rfl, by kernel_rfl, by kernel_rfl, by kernel_rfl⟩
theorem l_ib : Extern.allNextRows.lookup "internal/bytealg.IndexByteString" = none ∧ (Extern.allGenericRows.lookup "internal/bytealg.IndexByteString").isNone = true ∧ (Extern.allTypedRows.lookup "internal/bytealg.IndexByteString").isNone = true ∧
    Extern.allRows.lookup "internal/bytealg.IndexByteString" = some (xEntry .indexByte) := ⟨by kernel_rfl, by kernel_rfl, by kernel_rfl, by kernel_rfl⟩
theorem l_cmp : Extern.allNextRows.lookup "internal/bytealg.abigen_runtime_cmpstring" = none ∧ (Extern.allGenericRows.lookup "internal/bytealg.abigen_runtime_cmpstring").isNone = true ∧ (Extern.allTypedRows.lookup "internal/bytealg.abigen_runtime_cmpstring").isNone = true ∧
    Extern.allRows.lookup "internal/bytealg.abigen_runtime_cmpstring" = some (xEntry .cmp) := ⟨by kernel_rfl, by kernel_rfl, by kernel_rfl, by kernel_rfl⟩
theorem l_count : Extern.allNextRows.lookup "internal/bytealg.CountString" = none ∧ (Extern.allGenericRows.lookup "internal/bytealg.CountString").isNone = true ∧ (Extern.allTypedRows.lookup "internal/bytealg.CountString").isNone = true ∧
    Extern.allRows.lookup "internal/bytealg.CountString" = some (xEntry .count) := ⟨by kernel_rfl, by kernel_rfl, by kernel_rfl, by kernel_rfl⟩
theorem x_found {fn : Func} {k : XK} (ho : fn.origin = "") (hk : xkOf fn.name = some k) : Extern.findNext fn = none ∧ Extern.find fn = some (xEntry k) := by
  unfold xkOf at hk
  split at hk
  · rename_i h; cases hk
    have hn : fn.name = "sync/atomic.AddInt64" := by simpa using h
    obtain ⟨a, b, c, d⟩ := l_add
    exact ⟨look_none _ fn hn ho a next_empty, look_some _ fn _ hn b c d⟩
  · split at hk
    · rename_i h; cases hk
      have hn : fn.name = "sync/atomic.AddUint64" := by simpa using h
      obtain ⟨a, b, c, d⟩ := l_addu
      exact ⟨look_none _ fn hn ho a next_empty, look_some _ fn _ hn b c d⟩
    · split at hk
      · rename_i h; cases hk
        have hn : fn.name = "internal/bytealg.IndexByteString" := by simpa using h
        obtain ⟨a, b, c, d⟩ := l_ib
        exact ⟨look_none _ fn hn ho a next_empty, look_some _ fn _ hn b c d⟩
      · split at hk
        · rename_i h; cases hk
          have hn : fn.name = "internal/bytealg.abigen_runtime_cmpstring" := by simpa using h
          obtain ⟨a, b, c, d⟩ := l_cmp
          exact ⟨look_none _ fn hn ho a next_empty, look_some _ fn _ hn b c d⟩
        · split at hk
          · rename_i h; cases hk
            have hn : fn.name = "internal/bytealg.CountString" := by simpa using h
            obtain ⟨a, b, c, d⟩ := l_count
            exact ⟨look_none _ fn hn ho a next_empty, look_some _ fn _ hn b c d⟩
          · cases hk
theorem idxByte_ok (c : UInt8) : ∀ (l : List UInt8) (i : Nat), (match idxByte c.toNat (l.map (·.toNat)) i with | some j => ((j : Nat) : Int) | none => -1) = (if Lib.indexByte l c = -1 then -1 else Lib.indexByte l c + i)
  | [], i => by simp [idxByte, Lib.indexByte]
  | b :: l, i => by
    have ih := idxByte_ok c l (i + 1)
    have hge := Lib.indexByte_ge l c
    simp only [List.map_cons, idxByte, Lib.indexByte]
    by_cases hb : b = c
    · subst hb
      have : Nat.beq b.toNat b.toNat = true := Nat.beq_refl _
      simp [this]
    · have h1 : Nat.beq b.toNat c.toNat = false := by
        cases e : Nat.beq b.toNat c.toNat with
        | false => rfl
        | true => exact absurd (UInt8.toNat_inj.mp (Nat.eq_of_beq_eq_true e)) hb
      have h2 : (b == c) = false := by simpa using hb
      simp only [h1, h2, Bool.false_eq_true, if_false]
      rw [ih]
      by_cases h3 : Lib.indexByte l c = -1
      · simp [h3]
      · have h4 : (Lib.indexByte l c == -1) = false := by simpa using h3
        simp only [h3, h4, if_false, Bool.false_eq_true]
        rw [if_neg (by omega)]
        push_cast; omega
theorem cntByte_ok (c : UInt8) : ∀ (l : List UInt8), cntByte c.toNat (l.map (·.toNat)) = Lib.countByte l c
  | [] => rfl
  | b :: l => by
    have ih := cntByte_ok c l
    simp only [List.map_cons, cntByte, Lib.countByte, List.count_cons]
    by_cases hb : b = c
    · subst hb
      have : Nat.beq b.toNat b.toNat = true := Nat.beq_refl _
      simp only [this, if_true, ih, Lib.countByte]; simp
    · have h1 : Nat.beq b.toNat c.toNat = false := by
        cases e : Nat.beq b.toNat c.toNat with
        | false => rfl
        | true => exact absurd (UInt8.toNat_inj.mp (Nat.eq_of_beq_eq_true e)) hb
      simp only [h1, Bool.false_eq_true, if_false, ih, Lib.countByte]; simp [hb]
theorem cmpStr_ok : ∀ (a b : List UInt8), cmpStr (a.map (·.toNat)) (b.map (·.toNat)) = Lib.compareBytes a b
  | [], [] => rfl
  | [], _ :: _ => rfl
  | _ :: _, [] => rfl
  | a :: x, b :: y => by
    have ih := cmpStr_ok x y
    simp only [List.map_cons, cmpStr, Lib.compareBytes]
    by_cases hb : a = b
    · subst hb
      have : Nat.beq a.toNat a.toNat = true := Nat.beq_refl _
      have hl : ¬ a < a := UInt8.lt_irrefl a
      simp only [this, if_true, ih, hl, if_false]
    · have h1 : Nat.beq a.toNat b.toNat = false := by
        cases e : Nat.beq a.toNat b.toNat with
        | false => rfl
        | true => exact absurd (UInt8.toNat_inj.mp (Nat.eq_of_beq_eq_true e)) hb
      simp only [h1, Bool.false_eq_true, if_false]
      by_cases hl : a < b
      · have : Nat.blt a.toNat b.toNat = true := by
          have := UInt8.lt_iff_toNat_lt.mp hl
          simpa [Nat.blt_eq] using this
        simp [this, hl]
      · have h2 : b < a := UInt8.lt_of_le_of_ne (UInt8.not_lt.1 hl) (Ne.symm hb)
        have : Nat.blt a.toNat b.toNat = false := by
          cases e : Nat.blt a.toNat b.toNat with
          | false => rfl
          | true => exact absurd (UInt8.lt_iff_toNat_lt.mpr (by simpa [Nat.blt_eq] using e)) hl
        simp [this, hl, h2]
theorem run_load_at {w : World} {p : Addr} {x : Value} {m : Mode} (h : w.cell? p = some x) : (Go.load p m).run P w = .ok x w := by
  simp [Go.load, Sem.run, h]
theorem run_store_at {w : World} {p : Addr} {x y : Value} {m : Mode} (h : w.cell? p = some y) (hf : w.frozen? p = false) (hx : (∀ vs, x ≠ .agg vs) ∧ ∀ vs, x ≠ .tuple vs) :
    (store p x m).run P w = .ok () (w.setCell p x) := by
  cases x <;> simp_all [store, Sem.run]
theorem byteOf {ρ : Ren} {a : AV} {v : Value} {c : Nat} (h : VR ρ a v) (ha : a = .int .u8 (.ofNat c)) : v = .int .u8 (c : Int) := by
  subst ha; cases h; rfl
theorem goI_VR {ρ : Ren} (n : Nat) : VR ρ (goI n) (.int .i64 (n : Int)) := .int _ _
theorem VRs.two {ρ : Ren} {x y : CX} {tm : Tm} {vs : List Value} (h : VRs ρ ([x, y].map (·.ev tm)) vs) : ∃ v1 v2, vs = [v1, v2] ∧ VR ρ (x.ev tm) v1 ∧ VR ρ (y.ev tm) v2 := by
  have h : VRs ρ [x.ev tm, y.ev tm] vs := h
  generalize x.ev tm = a at h ⊢
  generalize y.ev tm = b at h ⊢
  cases h with | cons h1 hv => cases hv with | cons h2 hv => cases hv with | nil => exact ⟨_, _, rfl, h1, h2⟩
theorem stAt_one {m : Nat} {a : AV} : ∀ (o : Nat) (cs cs' : List Cell), stAt m cs o [a] = some cs' → a.isCell = true ∧ o < cs.length ∧ cs' = cs.set o ⟨m, a⟩
  | 0, [], cs', h => by simp [stAt, stList] at h
  | 0, k :: cs, cs', h => by
    simp only [stAt, stList] at h
    split at h
    · rename_i hm
      cases h
      exact ⟨hm, by simp, rfl⟩
    · cases h
  | o + 1, [], cs', h => by simp [stAt] at h
  | o + 1, k :: cs, cs', h => by
    simp only [stAt] at h
    split at h
    · rename_i l e
      cases h
      obtain ⟨h1, h2, rfl⟩ := stAt_one o cs l e
      exact ⟨h1, by simp; exact h2, rfl⟩
    · cases h
theorem xcall_ok {ρ : Ren} {H H' : Heap} {w : World} {k : XK} {args : List CX} {vs : List Value} {tm : Tm} {a : AV} (h : WR ρ H w) (hv : VRs ρ (args.map (·.ev tm)) vs) (ha : sXcall k args tm H = some (a, H')) :
    OpOK P ρ w (xEntry k vs.toArray) a H' := by
  unfold sXcall at ha
  split at ha
  ·
    rename_i k xa xd
    obtain ⟨v1, v2, rfl, h1, h2⟩ := hv.two
    generalize xa.ev tm = va at h1 ha
    generalize xd.ev tm = vd at h2 ha
    cases h1 <;> try (cases ha; done)
    cases h2 <;> try (cases ha; done)
    rename_i r v o B c hB hc kd y
    simp only at ha
    cases el : ldCells H r v o 1 with
    | none => simp [el] at ha
    | some l =>
      simp only [el] at ha
      split at ha
      · rename_i hl
        cases hl
        rename_i k' x
        split at ha
        · rename_i hk
          have hk : k = k' := by simpa using hk
          subst hk
          split at ha
          · rename_i H1 hst
            cases ha
            obtain ⟨cs, cs', hr, hst', rfl⟩ := stCells_get hst
            obtain ⟨hcl, ho, rfl⟩ := stAt_one _ _ _ hst'
            have hld := el
            unfold ldCells at hld
            rw [hr] at hld
            obtain ⟨hd, hm⟩ : ∃ cell, cs[o]? = some cell ∧ cell.m ≤ v ∧ cell.v = .int k x := by
              have hdo : cs.drop o = cs[o] :: cs.drop (o + 1) := List.drop_eq_getElem_cons ho
              simp only [hdo, ldList] at hld
              split at hld
              · rename_i hm
                simp only [Option.some.injEq, List.cons.injEq, and_true] at hld
                exact ⟨cs[o], by simp [ho], Nat.le_of_ble_eq_true hm, hld⟩
              · cases hld
            obtain ⟨hm0, hm1, hm2⟩ := hm
            obtain ⟨x', g1, g2⟩ := h.cell hr hB hc hm0 hm1
            rw [hm2] at g2
            cases g2
            obtain ⟨q1, ⟨y', q2⟩, q3⟩ := h.set1 (a := .int k (k.wrap (x + y))) (x := .int k (k.wrap (x + y))) hr hB hc ho (.int _ _)
            refine ⟨.int k (k.wrap (x + y)), _, ρ, ?_, ρ.le_refl, ρ.newer_refl w, .int _ _, q1, Fr.setCell hB c _⟩
            have hst := run_store_at (P := P) (m := .atomic) (x := .int k (k.wrap (x + y))) q2 q3 ⟨by simp, by simp⟩
            have hl := run_load_at (P := P) (m := .atomic) g1
            show Sem.run P (do
              let a ← asAddr (.pointer (some ⟨B.b, c, none⟩))
              let old ← Extern.Atomic.read (.int k) a
              let new ← Op.intArith .add k (← asInt old) (← asInt (.int kd y))
              store a new .atomic
              pure (if true then new else old)) w = _
            have hr1 : (asAddr (.pointer (some ⟨B.b, c, none⟩))).run P w = .ok ⟨B.b, c, none⟩ w := rfl
            have hr2 : (Extern.Atomic.read (.int k) ⟨B.b, c, none⟩).run P w = .ok (.int k x) w := by
              simp [Extern.Atomic.read, hl]
            have hr3 : (Op.intArith .add k x y).run P w = .ok (.int k (k.wrap (x + y))) w := rfl
            simp only [Sem.run_bind, hr1, hr2, Result.andThen_ok, run_asInt', hr3, hst, Sem.run_pure, if_true]
          · cases ha
        · cases ha
      · cases ha
  · rename_i xs xc
    obtain ⟨v1, v2, rfl, h1, h2⟩ := hv.two
    generalize xs.ev tm = va at h1 ha
    generalize xc.ev tm = vd at h2 ha
    cases h1 <;> try (cases ha; done)
    rename_i s
    try simp only at ha
    split at ha
    · rename_i s1 c e1
      cases e1
      split at ha
      · rename_i hc
        have hc : c < 256 := by simpa [Nat.blt_eq] using hc
        cases h2
        have hcc : ((Int.ofNat c).toNat.toUInt8).toNat = c := by simp [Nat.toUInt8]; omega
        have hrun := run_indexByte_string (P := P) s (Int.ofNat c) w
        have he := idxByte_ok ((Int.ofNat c).toNat.toUInt8) s.data.toList 0
        rw [hcc] at he
        rw [Lib.firstIdx_eq] at hrun
        split at ha
        · rename_i i hi
          cases ha
          rw [hi] at he
          refine .pure (v' := .int .i64 (Lib.indexByte s.data.toList (Int.ofNat c).toNat.toUInt8)) h hrun ?_
          have : Lib.indexByte s.data.toList (Int.ofNat c).toNat.toUInt8 = (i : Int) := by
            simp only at he
            by_cases h9 : Lib.indexByte s.data.toList (Int.ofNat c).toNat.toUInt8 = -1 <;> simp only [h9, if_true, if_false] at he <;> omega
          rw [this]; exact goI_VR i
        · rename_i hi
          cases ha
          rw [hi] at he
          refine .pure (v' := .int .i64 (Lib.indexByte s.data.toList (Int.ofNat c).toNat.toUInt8)) h hrun ?_
          have hge := Lib.indexByte_ge s.data.toList (Int.ofNat c).toNat.toUInt8
          have : Lib.indexByte s.data.toList (Int.ofNat c).toNat.toUInt8 = -1 := by
            simp only at he
            by_cases h9 : Lib.indexByte s.data.toList (Int.ofNat c).toNat.toUInt8 = -1 <;> simp only [h9, if_true, if_false] at he <;> omega
          rw [this]; exact .int _ _
      · cases ha
    · cases ha
  · rename_i xs xc
    obtain ⟨v1, v2, rfl, h1, h2⟩ := hv.two
    generalize xs.ev tm = va at h1 ha
    generalize xc.ev tm = vd at h2 ha
    cases h1 <;> try (cases ha; done)
    cases h2 <;> try (cases ha; done)
    rename_i s t
    cases ha
    refine .pure (v' := .int .i64 (Lib.compareBytes s.data.toList t.data.toList)) h (Lib.run_compareString s t w) ?_
    rw [cmpStr_ok]; exact .int _ _
  · rename_i xs xc
    obtain ⟨v1, v2, rfl, h1, h2⟩ := hv.two
    generalize xs.ev tm = va at h1 ha
    generalize xc.ev tm = vd at h2 ha
    cases h1 <;> try (cases ha; done)
    rename_i s
    try simp only at ha
    split at ha
    · rename_i s1 c e1
      cases e1
      split at ha
      · rename_i hc
        have hc : c < 256 := by simpa [Nat.blt_eq] using hc
        cases h2
        cases ha
        have hcc : ((Int.ofNat c).toNat.toUInt8).toNat = c := by simp [Nat.toUInt8]; omega
        refine .pure (v' := .int .i64 (Lib.countByte s.data.toList (Int.ofNat c).toNat.toUInt8 : Nat)) h (Lib.run_countString (P := P) s (Int.ofNat c) w) ?_
        have := cntByte_ok ((Int.ofNat c).toNat.toUInt8) s.data.toList
        rw [hcc] at this
        rw [this]; exact goI_VR _
      · cases ha
    · cases ha
  · cases ha
end Go.Ex
end
