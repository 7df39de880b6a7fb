/- A part of the proof (made by program out of smaller texts). -/
import Derived.Defers
import Derived.Test.YtkaoplgfhmihpaaGreatDoorExB
noncomputable section
set_option linter.all false
namespace Go.Ex
open Go
variable {P : Program}
structure StepOK (P : Program) (ρ : Ren) (w : World) (s : Sem Next) (a : AV) (H' : Heap) : Prop where
  intro ::
  ex : ∃ nx w' ρ', s.run P w = .ok nx w' ∧ ((∃ v', nx = .value v' ∧ VR ρ' a v') ∨ (nx = .skip ∧ a = .undef)) ∧ ρ.le ρ' ∧ ρ.newer ρ' w ∧ WR ρ' H' w' ∧ Fr ρ w w'
theorem StepOK.value {ρ : Ren} {w : World} {s : Sem Value} {a : AV} {H' : Heap} (h : OpOK P ρ w s a H') : StepOK P ρ w (do pure (.value (← s))) a H' := by
  obtain ⟨v', w', ρ', h1, h2, h3, h4, h5, h6⟩ := h.ex
  exact ⟨.value v', w', ρ', by rw [Sem.run_bind, h1]; rfl, .inl ⟨v', rfl, h4⟩, h2, h3, h5, h6⟩
theorem StepOK.unit {ρ : Ren} {w : World} {s : Sem Unit} {a : AV} {H' : Heap} (h : a = .undef ∧ UnitOK P ρ w s H') : StepOK P ρ w (do s; pure .skip) a H' := by
  obtain ⟨ha, h⟩ := h
  obtain ⟨w', h1, h2, h3⟩ := h.ex
  exact ⟨.skip, w', ρ, by rw [Sem.run_bind, h1]; rfl, .inr ⟨rfl, ha⟩, ρ.le_refl, ρ.newer_refl w, h2, h3⟩
theorem StepOK.now {ρ : Ren} {w : World} {s : Sem Next} {a : AV} {H : Heap} {v' : Value} (h : WR ρ H w) (hr : s.run P w = .ok (.value v') w) (hv : VR ρ a v') : StepOK P ρ w s a H :=
  ⟨.value v', w, ρ, hr, .inl ⟨v', rfl, hv⟩, ρ.le_refl, ρ.newer_refl w, h, Fr.refl ρ w⟩
theorem isNone_false {α : Type} {o : Option α} (h : ¬ o.isNone = true) : ∃ a, o = some a := by
  cases o with
  | none => exact absurd rfl h
  | some a => exact ⟨a, rfl⟩
theorem XR1.list {ρ : Ren} {tm : Tm} {ev : Operand → Value} (hx : XR1 ρ tm ev) : ∀ (l : List Operand) (cs : List CX), cvXs l = some cs → VRs ρ (cs.map (·.ev tm)) (l.map ev)
  | [], cs, h => by simp [cvXs] at h; subst h; exact .nil
  | x :: l, cs, h => by
    simp only [cvXs, List.mapM_cons, Option.bind_eq_bind, Option.bind_eq_some_iff, Option.pure_def, Option.some.injEq] at h
    obtain ⟨c, h1, cs', h2, rfl⟩ := h
    exact .cons (hx x c h1) (XR1.list hx l cs' h2)
theorem pick_ok {ρ : Ren} {H H' : Heap} {w : World} {c x y : CX} {c' x' y' : Value} {tm : Tm} {a : AV} (h : WR ρ H w) (hc : VR ρ (c.ev tm) c') (hx : VR ρ (x.ev tm) x') (hy : VR ρ (y.ev tm) y')
    (ha : sPick c x y tm H = some (a, H')) : StepOK P ρ w (do pure (.value (if ← asBool c' then x' else y'))) a H' := by
  unfold sPick at ha
  generalize c.ev tm = ca at hc ha
  cases hc <;> try (cases ha; done)
  rename_i b
  cases b <;> cases ha
  · exact .now h (by rfl) hy
  · exact .now h (by rfl) hx
theorem fieldsM_run {w : World} : ∀ (fs : List Field) , (∀ f ∈ fs, ∃ i, P.info? f.type = some i) → (fs.mapM fun (f : Field) => do pure (f.offset, ← sizeOf f.type) : Sem (List (Nat × Nat))).run P w = .ok (fs.map fun f => (f.offset, P.cellsOf f.type)) w
  | [], _ => rfl
  | f :: fs, h => by
    obtain ⟨i, hi⟩ := h f (List.mem_cons_self ..)
    rw [List.mapM_cons]
    simp only [Sem.run_bind, run_size hi, Result.andThen_ok, Sem.run_pure, fieldsM_run fs fun f hf => h f (List.mem_cons_of_mem _ hf)]
    rfl
theorem build_ok {ρ : Ren} {H H' : Heap} {w : World} {t : TypeId} {tm : Tm} {ev : Operand → Value} {parts : Array (Nat × Operand)} {co : COp} {a : AV} (hx : XR1 ρ tm ev) (h : WR ρ H w)
    (hcv : (do
      let z ← zeroA P t
      match P.underlying t with
      | some (.struct fields) =>
        if !(fields.toList.all fun f => (P.info? f.type).isSome) then none
        let ps ← cvParts P (fun i => (fields[i]?).map fun f => (f.offset, P.cellsOf f.type)) parts.toList
        pure (COp.build z.cells ps)
      | some (.array _ e) =>
        if (P.info? e).isNone then none
        let n := P.cellsOf e
        let ps ← cvParts P (fun i => some (i * n, n)) parts.toList
        pure (COp.build z.cells ps)
      | _ => none : Option COp) = some co) (hs : stepOp tm H co = some (a, H')) :
    OpOK P ρ w (Instr.build t (parts.map fun (i, x) => (i, ev x))) a H' := by
  simp only [Option.bind_eq_bind, Option.bind_eq_some_iff, Option.pure_def, Option.some.injEq] at hcv
  obtain ⟨z, hz, hcv⟩ := hcv
  obtain ⟨zv, hzr, hzv⟩ := run_zeroA (P := P) (ρ := ρ) (w := w) hz
  cases hu : P.underlying t with
  | none => simp [hu] at hcv
  | some dt =>
    simp only [hu] at hcv
    cases dt <;> simp only at hcv <;> try (cases hcv; done)
    · rename_i n e
      split at hcv
      · simp at hcv
      · rename_i hi
        obtain ⟨ie, hie⟩ := isNone_false hi
        simp only [Option.bind_eq_bind, Option.bind_eq_some_iff, Option.pure_def, Option.some.injEq] at hcv
        obtain ⟨ps, hps, rfl⟩ := hcv
        simp only [stepOp, sBuild] at hs
        cases ef : fillParts tm z.cells ps with
        | none => simp [ef] at hs
        | some cs =>
          simp only [ef, Option.some.injEq, Prod.mk.injEq] at hs
          obtain ⟨rfl, rfl⟩ := hs
          obtain ⟨cs', f1, f2⟩ := fill_ok hx _ _ _ _ _ hps hzv.cells ef
          refine .pure h ?_ (.agg f2)
          simp only [Instr.build, Sem.run_bind, hzr, Result.andThen_ok, run_under hu, run_size hie, Array.toList_map, f1, Sem.run_pure]
    · rename_i fields
      split at hcv
      · simp at hcv
      · rename_i hi
        simp only [Option.bind_eq_bind, Option.bind_eq_some_iff, Option.pure_def, Option.some.injEq] at hcv
        obtain ⟨ps, hps, rfl⟩ := hcv
        simp only [stepOp, sBuild] at hs
        cases ef : fillParts tm z.cells ps with
        | none => simp [ef] at hs
        | some cs =>
          simp only [ef, Option.some.injEq, Prod.mk.injEq] at hs
          obtain ⟨rfl, rfl⟩ := hs
          obtain ⟨cs', f1, f2⟩ := fill_ok hx _ _ _ _ _ hps hzv.cells ef
          refine .pure h ?_ (.agg f2)
          have hfs : ∀ f ∈ fields.toList, ∃ i, P.info? f.type = some i := by
            simp only [Bool.not_eq_true', Bool.not_eq_false] at hi
            intro f hf
            have := List.all_eq_true.mp hi f hf
            exact Option.isSome_iff_exists.mp this
          have hm := fieldsM_run (P := P) (w := w) fields.toList hfs
          simp only [Instr.build, Sem.run_bind, hzr, Result.andThen_ok, run_under hu, Array.mapM_eq_mapM_toList]
          rw [Sem.run_map]
          have hm' : (fields.toList.mapM fun (f : Field) => do let s ← sizeOf f.type; pure (f.offset, s) : Sem (List (Nat × Nat))).run P w = .ok (fields.toList.map fun f => (f.offset, P.cellsOf f.type)) w := hm
          rw [hm']
          have hpl : (fun i => (List.toArray (fields.toList.map fun (f : Field) => (f.offset, P.cellsOf f.type)))[i]?) = fun (i : Nat) => (fields[i]?).map fun (f : Field) => (f.offset, P.cellsOf f.type) := by
            funext i; simp
          simp only [Result.andThen_ok]
          simp [hpl, f1]
theorem fillParts_len {tm : Tm} : ∀ (qs : List (Nat × Nat × CX)) (l l' : List AV), fillParts tm l qs = some l' → l'.length = l.length
  | [], l, l', h => by simp [fillParts] at h; rw [h]
  | (off, n, x) :: qs, l, l', h => by
    simp only [fillParts] at h
    split at h
    · rename_i hc
      simp only [Bool.and_eq_true] at hc
      have e1 := Nat.eq_of_beq_eq_true hc.1
      have e2 := Nat.le_of_ble_eq_true hc.2
      rw [fillParts_len qs _ _ h]
      unfold setCells; simp; omega
    · cases h
theorem bslice_ok {ρ : Ren} {H H' : Heap} {w : World} {t : TypeId} {tm : Tm} {ev : Operand → Value} {len : Nat} {parts : Array (Nat × Operand)} {co : COp} {a : AV} (hx : XR1 ρ tm ev) (h : WR ρ H w)
    (hcv : (do
      let some (.slice e) := P.underlying t | none
      let n := P.cellsOf e
      if len * n > 100000 then none
      let z ← zeroA P e
      if z.cells.length ≠ n then none
      let ps ← cvParts P (fun i => some (i * n, n)) parts.toList
      pure (COp.bslice n ((List.replicate len z.cells).flatten) len ps) : Option COp) = some co) (hs : stepOp tm H co = some (a, H')) :
    OpOK P ρ w (Instr.buildSlice t len (parts.map fun (i, x) => (i, ev x))) a H' := by
  cases hu : P.underlying t with
  | none => simp [hu] at hcv
  | some dt =>
    simp only [hu] at hcv
    cases dt <;> simp only at hcv <;> try (cases hcv; done)
    rename_i e
    simp only [Option.bind_eq_bind, Option.bind_eq_some_iff, Option.pure_def, Option.some.injEq] at hcv
    split at hcv
    · simp at hcv
    · rename_i hbig
      simp only [Option.bind_eq_bind, Option.bind_eq_some_iff, Option.pure_def, Option.some.injEq] at hcv
      obtain ⟨z, hz, hcv⟩ := hcv
      split at hcv
      · simp at hcv
      · rename_i hn
        simp only [Option.bind_eq_bind, Option.bind_eq_some_iff, Option.pure_def, Option.some.injEq] at hcv
        obtain ⟨ps, hps, rfl⟩ := hcv
        obtain ⟨ie, zv, hie, hz1, hzv⟩ := zeroA_ok (ρ := ρ) hz
        have hzr : ∀ w : World, (zeroValue e).run P w = .ok zv w := fun w => run_zero hie hz1
        have hzn : z.cells.length = P.cellsOf e := by simpa using hn
        have hzsz : zv.cells.size = P.cellsOf e := by rw [← hzn, hzv.cells.length]; simp
        simp only [stepOp, sBslice] at hs
        cases ef : fillParts tm (List.replicate len z.cells).flatten ps with
        | none => simp [ef] at hs
        | some cs =>
          simp only [ef, Option.some.injEq, Prod.mk.injEq] at hs
          obtain ⟨rfl, rfl⟩ := hs
          have hrow : VRs ρ ((List.replicate len z.cells).flatten) ((Array.range (len * P.cellsOf e)).map ((if len * P.cellsOf e = 0 then #[] else zv.cells)[· % (if len * P.cellsOf e = 0 then (#[] : Array Value) else zv.cells).size]!)).toList := by
            by_cases h0 : len * P.cellsOf e = 0
            · have : (List.replicate len z.cells).flatten = [] := List.eq_nil_of_length_eq_zero (by rw [replicate_flatten_len, hzn, h0])
              rw [this]; simp only [h0]; exact (by simp; exact .nil)
            · simp only [h0, if_false]
              have := zeros_ok (ρ := ρ) (zs := zv.cells) hzv.cells len
              rw [← hzsz]; exact this
          obtain ⟨cs', f1, f2⟩ := fill_ok hx _ _ _ _ _ hps hrow ef
          obtain ⟨ρ', w', q1, q2, q3, q4, q5, q6⟩ := newRow_ok (P := P) (el := e) h f2
          have hcz : cs'.size = len * P.cellsOf e := by
            have e1 := f2.length
            rw [fillParts_len _ _ _ ef, replicate_flatten_len, hzn] at e1
            rw [e1]; simp
          refine ⟨_, w', ρ', ?_, q2, q3, .slice (c := 0) (cc := len) q6 (.inl (by simp)) (Nat.le_refl _) (by simp [hcz]) (.inr rfl), q4, q5⟩
          have hb2 : ¬ (len * P.cellsOf e > 2 ^ 24) := by omega
          simp only [Instr.buildSlice, Sem.run_bind, run_under hu, Result.andThen_ok, run_size hie, hb2, if_false]
          by_cases h0 : len * P.cellsOf e = 0
          · rw [if_pos h0] at f1 ⊢
            simp only [Sem.run_bind, Sem.run_pure, Result.andThen_ok, Array.toList_map, f1, q1]
          · rw [if_neg h0] at f1 ⊢
            simp only [Sem.run_bind, Sem.run_pure, Result.andThen_ok, hzr, Array.toList_map, f1, q1]
end Go.Ex
namespace Go.Ex
open Go
variable {P : Program}
theorem cvO_XO {ρ : Ren} {tm : Tm} {ev : Operand → Value} (hx : XR1 ρ tm ev) {o : Option Operand} {c : Option CX} (h : cvO o = some c) : XO ρ tm c (o.map ev) := XO.of hx h
theorem cvO_none {o : Option Operand} {c : Option CX} (h : cvO o = some c) : c.isNone = o.isNone := by
  cases o with
  | none => simp [cvO] at h; subst h; rfl
  | some x => simp [cvO] at h; obtain ⟨a, _, rfl⟩ := h; rfl
def callOp : COp → Bool
  | .call .. | .callv .. | .defer _ | .bad => true
  | _ => false
theorem builtin_value {b : Builtin} {ats : Array TypeId} {ty : TypeId} {cs : Array Bool} {args : Array Value} {s : Sem Value} {ρ : Ren} {w : World} {a : AV} {H' : Heap} (e : builtin b ats ty cs args = (do pure (.value (← s))))
    (h : OpOK P ρ w s a H') : StepOK P ρ w (builtin b ats ty cs args) a H' := by
  rw [e]; exact .value h
theorem VRs.one {ρ : Ren} {x : CX} {tm : Tm} {vs : List Value} (h : VRs ρ ([x].map (·.ev tm)) vs) : ∃ v1, vs = [v1] ∧ VR ρ (x.ev tm) v1 := by
  have h : VRs ρ [x.ev tm] vs := h
  generalize x.ev tm = a at h ⊢
  cases h with | cons h1 hv => cases hv with | nil => exact ⟨_, rfl, h1⟩
theorem utA_some {ats : Array TypeId} {i : Nat} {d : TypeDesc} (h : utA P ats i = some d) : ∃ t, ats[i]? = some t ∧ P.underlying t = some d := by
  unfold utA at h
  cases e : ats[i]? with
  | none => simp [e] at h
  | some t => simp only [e] at h; exact ⟨t, rfl, h⟩
theorem cvAppend_ok {ρ : Ren} {H H' : Heap} {w : World} {tm : Tm} {ats : Array TypeId} {e : TypeId} {d : TypeDesc} {x y : CX} {v1 v2 : Value} {co : COp} {ty : TypeId} {a : AV} (h : WR ρ H w)
    (h0 : utA P ats 0 = some (.slice e)) (h1 : utA P ats 1 = some d) (hd : ∀ k, d ≠ .int k) (hcv : cvAppend P e x y = some co) (hx : VR ρ (x.ev tm) v1) (hy : VR ρ (y.ev tm) v2) (hs : stepOp tm H co = some (a, H')) :
    OpOK P ρ w (Builtin.append_ ats ty #[v1, v2]) a H' := by
  obtain ⟨sT, e1, e2⟩ := utA_some h0
  obtain ⟨xT, e3, e4⟩ := utA_some h1
  unfold cvAppend at hcv
  split at hcv
  · rename_i z hz
    split at hcv
    · cases hcv
    · rename_i hb
      split at hcv
      · cases hcv
      · rename_i hn
        cases hcv
        have hn : z.cells.length = P.cellsOf e := by simpa using hn
        simp only [stepOp, sAppend] at hs
        have ht : AppTypes P ats e (P.cellsOf e) (P.bytesOf e) z := ⟨sT, xT, d, e1, e3, e2, e4, hd, hz, hn, rfl, rfl, hb⟩
        split at hs
        · rename_i s ey
          split at hs
          · rename_i h1
            exact append_ok h ht (.inl (Nat.eq_of_beq_eq_true h1)) hx hy hs
          · cases hs
        · rename_i hne
          exact append_ok h ht (.inr hne) hx hy hs
  · cases hcv
theorem bi_ok {ρ : Ren} {H H' : Heap} {w : World} {tm : Tm} {b : Builtin} {ats : Array TypeId} {args : List CX} {vs : List Value} {co : COp} {ty : TypeId} {cs : Array Bool} {a : AV} (hvs : VRs ρ (args.map (·.ev tm)) vs) (h : WR ρ H w)
    (hcv : cvBuiltin P b ats args = some co) (hs : stepOp tm H co = some (a, H')) : StepOK P ρ w (builtin b ats ty cs vs.toArray) a H' := by
  unfold cvBuiltin at hcv
  split at hcv
  ·
    rename_i x
    obtain ⟨v1, rfl, h1⟩ := hvs.one
    refine builtin_value (s := Builtin.len_ ats ty #[v1]) rfl ?_
    split at hcv
    · rename_i hu; cases hcv; obtain ⟨t, e1, e2⟩ := utA_some hu
      exact len_ok (k := .str) e1 e2 rfl h h1 hs
    · rename_i n e hu; cases hcv; obtain ⟨t, e1, e2⟩ := utA_some hu
      exact len_ok (k := .const n) e1 e2 (.inl ⟨_, rfl⟩) h h1 hs
    · rename_i hu; cases hcv; obtain ⟨t, e1, e2⟩ := utA_some hu
      exact len_ok (k := .slice) e1 e2 ⟨_, rfl⟩ h h1 hs
    · rename_i hu; cases hcv; obtain ⟨t, e1, e2⟩ := utA_some hu
      exact len_ok (k := .map) e1 e2 ⟨_, _, rfl⟩ h h1 hs
    · rename_i p hu; obtain ⟨t, e1, e2⟩ := utA_some hu
      split at hcv
      · rename_i n e hp
        cases hcv
        exact len_ok (k := .const n) e1 e2 (.inr ⟨_, _, rfl, hp⟩) h h1 hs
      · cases hcv
    · cases hcv
  ·
    rename_i x y
    obtain ⟨v1, v2, rfl, h1, h2⟩ := hvs.two
    refine builtin_value (s := Builtin.append_ ats ty #[v1, v2]) rfl ?_
    split at hcv
    · rename_i e e' hu0 hu1
      exact cvAppend_ok h hu0 hu1 (by simp) hcv h1 h2 hs
    · rename_i e hu0 hu1
      exact cvAppend_ok h hu0 hu1 (by simp) hcv h1 h2 hs
    · cases hcv
  · rename_i x y
    obtain ⟨v1, v2, rfl, h1, h2⟩ := hvs.two
    refine builtin_value (s := Builtin.copy_ ats ty #[v1, v2]) rfl ?_
    split at hcv
    · rename_i e hu
      obtain ⟨t, e1, e2⟩ := utA_some hu
      split at hcv
      · cases hcv
      · rename_i hi
        cases hcv
        exact copy_ok e1 e2 (isNone_false hi) rfl h h1 h2 hs
    · cases hcv
  · rename_i m k
    obtain ⟨v1, v2, rfl, h1, h2⟩ := hvs.two
    refine builtin_value (s := Builtin.delete_ ats ty #[v1, v2]) rfl ?_
    split at hcv
    · rename_i kt vt hu
      obtain ⟨t, e1, e2⟩ := utA_some hu
      split at hcv
      · rename_i sh hsh
        cases hcv
        exact delete_ok e1 e2 hsh h h1 h2 hs
      · cases hcv
    · cases hcv
  · rename_i x
    obtain ⟨v1, rfl, h1⟩ := hvs.one
    refine builtin_value (s := Builtin.clear_ ats ty #[v1]) rfl ?_
    split at hcv
    · rename_i hu; obtain ⟨t, e1, e2⟩ := utA_some hu
      cases hcv
      exact clearm_ok e1 e2 h h1 hs
    · rename_i e hu; obtain ⟨t, e1, e2⟩ := utA_some hu
      split at hcv
      · rename_i z hz
        cases hcv
        exact clears_ok e1 e2 hz h h1 hs
      · cases hcv
    · cases hcv
  · cases hcv
    refine builtin_value (s := Builtin.max_ ats ty vs.toArray) rfl ?_
    simp only [stepOp, sMx] at hs
    split at hs
    · rename_i v hv
      cases hs
      obtain ⟨x, rest, v', rfl, e2, e3⟩ := max_ok (P := P) (w := w) _ _ _ _ rfl hvs hv
      exact .pure (v' := v') h (by simpa [Builtin.max_] using e2) e3
    · cases hs
  · cases hcv
    refine builtin_value (s := Builtin.min_ ats ty vs.toArray) rfl ?_
    simp only [stepOp, sMn] at hs
    split at hs
    · rename_i v hv
      cases hs
      obtain ⟨x, rest, v', rfl, e2, e3⟩ := min_ok (P := P) (w := w) _ _ _ _ rfl hvs hv
      exact .pure (v' := v') h (by simpa [Builtin.min_] using e2) e3
    · cases hs
  · rename_i x
    obtain ⟨v1, rfl, h1⟩ := hvs.one
    refine builtin_value (s := Builtin.cap_ ats ty #[v1]) rfl ?_
    split at hcv
    · rename_i hu; obtain ⟨t, e1, e2⟩ := utA_some hu
      cases hcv
      exact cap_ok e1 e2 h h1 hs
    · cases hcv
  · cases hcv
end Go.Ex
namespace Go.Ex
open Go
variable {P : Program}
theorem cvOp_call_builtin {c : Call} {b : Builtin} {o : Oper} (ho : o.op = .call c) (hb : c.callee = .builtin b) : cvOp P o = match cvXs c.args.toList with
      | some args => cvBuiltin P b c.argTypes args
      | none => none := by
  obtain ⟨callee, args, ats⟩ := c
  simp only at hb
  subst hb
  simp only [cvOp, ho]
  rfl
theorem XR1.fn {ρ : Ren} {tm : Tm} {ev : Operand → Value} (hx : XR1 ρ tm ev) (f : FuncId) : ev (.func f) = .func (.func f) #[] #[] := by
  have h : VR ρ (.func f [] []) (ev (.func f)) := hx (.func f) (.f f) rfl
  generalize ev (.func f) = v at h ⊢
  cases h with
  | func ha hb =>
    rename_i as bs
    obtain ⟨as⟩ := as
    obtain ⟨bs⟩ := bs
    cases ha; cases hb; rfl
theorem step_ok {ρ : Ren} {H H' : Heap} {w : World} {tm : Tm} {ev : Operand → Value} {o : Oper} {co : COp} {a : AV} (hx : XR1 ρ tm ev) (h : WR ρ H w)
    (hcv : cvOp P o = some co) (hs : stepOp tm H co = some (a, H')) : StepOK P ρ w (execOp ev o) a H' := by
  unfold execOp
  cases e : o.op with
  | move x =>
    simp only [cvOp, e] at hcv; simp only [Option.bind_eq_bind, Option.bind_eq_some_iff, Option.pure_def, Option.some.injEq] at hcv
    obtain ⟨cx, h1, rfl⟩ := hcv
    simp only [stepOp, sMove, Option.some.injEq, Prod.mk.injEq] at hs
    obtain ⟨rfl, rfl⟩ := hs
    exact .now h rfl (hx _ _ h1)
  | assign x =>
    simp only [cvOp, e] at hcv; simp only [Option.bind_eq_bind, Option.bind_eq_some_iff, Option.pure_def, Option.some.injEq] at hcv
    obtain ⟨cx, h1, rfl⟩ := hcv
    simp only [stepOp, sMove, Option.some.injEq, Prod.mk.injEq] at hs
    obtain ⟨rfl, rfl⟩ := hs
    exact .now h rfl (hx _ _ h1)
  | pick c x y =>
    simp only [cvOp, e] at hcv; simp only [Option.bind_eq_bind, Option.bind_eq_some_iff, Option.pure_def, Option.some.injEq] at hcv
    obtain ⟨c1, h1, c2, h2, c3, h3, rfl⟩ := hcv
    exact pick_ok h (hx _ _ h1) (hx _ _ h2) (hx _ _ h3) hs
  | alloc t =>
    simp only [cvOp, e] at hcv; simp only [Option.bind_eq_bind, Option.bind_eq_some_iff, Option.pure_def, Option.some.injEq] at hcv
    obtain ⟨z, hz, rfl⟩ := hcv
    simp only [stepOp, sAlloc, Option.some.injEq, Prod.mk.injEq] at hs
    obtain ⟨rfl, rfl⟩ := hs
    exact .value (alloc_ok hz h)
  | box t x =>
    simp only [cvOp, e] at hcv; simp only [Option.bind_eq_bind, Option.bind_eq_some_iff, Option.pure_def, Option.some.injEq] at hcv
    obtain ⟨c1, h1, rfl⟩ := hcv
    simp only [stepOp, sBox] at hs
    split at hs
    · simp only [Option.some.injEq, Prod.mk.injEq] at hs
      obtain ⟨rfl, rfl⟩ := hs
      exact .value (box_ok (hx _ _ h1) h)
    · cases hs
  | build t parts =>
    simp only [cvOp, e] at hcv
    exact .value (build_ok hx h hcv hs)
  | buildSlice t len parts =>
    simp only [cvOp, e] at hcv
    exact .value (bslice_ok hx h hcv hs)
  | load t x =>
    simp only [cvOp, e] at hcv; simp only [Option.bind_eq_bind, Option.bind_eq_some_iff, Option.pure_def, Option.some.injEq] at hcv
    split at hcv
    · cases hcv
    · rename_i hd
      obtain ⟨d, hd⟩ := isNone_false hd
      simp only [Option.bind_eq_bind, Option.bind_eq_some_iff, Option.pure_def, Option.some.injEq] at hcv
      obtain ⟨c1, h1, rfl⟩ := hcv
      simp only [stepOp, sLoad] at hs
      have hv := hx _ _ h1
      generalize c1.ev tm = va at hs hv
      split at hs
      · split at hs
        · rename_i a' ha
          cases hs
          exact .value (load_ok hd h hv rfl ha)
        · cases hs
      · cases hs
  | store t x y =>
    simp only [cvOp, e] at hcv; simp only [Option.bind_eq_bind, Option.bind_eq_some_iff, Option.pure_def, Option.some.injEq] at hcv
    split at hcv
    · cases hcv
    · rename_i hd
      obtain ⟨d, hd⟩ := isNone_false hd
      simp only [Option.bind_eq_bind, Option.bind_eq_some_iff, Option.pure_def, Option.some.injEq] at hcv
      obtain ⟨c1, h1, c2, h2, rfl⟩ := hcv
      simp only [stepOp, sStore] at hs
      have hv := hx _ _ h1
      generalize c1.ev tm = va at hs hv
      split at hs
      · split at hs
        · rename_i hn
          split at hs
          · rename_i H1 hst
            cases hs
            obtain ⟨w', q1, q2, q3⟩ := store_ok hd h hv (hx _ _ h2) (Nat.eq_of_beq_eq_true hn) hst
            exact .unit ⟨rfl, ⟨w', q1, q2, q3⟩⟩
          · cases hs
        · cases hs
      · cases hs
  | nilCheck x =>
    simp only [cvOp, e] at hcv; simp only [Option.bind_eq_bind, Option.bind_eq_some_iff, Option.pure_def, Option.some.injEq] at hcv
    obtain ⟨c1, h1, rfl⟩ := hcv
    obtain ⟨rfl, hv, hk⟩ := nilchk_ok (hx _ _ h1) hs
    rcases hk with ⟨p, hp⟩ | ⟨t, v, hp⟩ | ⟨f, l, b, hp⟩
    · refine .now (v' := .pointer (some p)) h ?_ (hp ▸ hv)
      simp only [hp]; rfl
    · refine .now (v' := .iface t v) h ?_ (hp ▸ hv)
      simp only [hp]; rfl
    · refine .now (v' := .func (.func f) l b) h ?_ (hp ▸ hv)
      simp only [hp]; rfl
  | binOp op t x y sh =>
    simp only [cvOp, e] at hcv; simp only [Option.bind_eq_bind, Option.bind_eq_some_iff, Option.pure_def, Option.some.injEq] at hcv
    obtain ⟨c1, h1, c2, h2, rfl⟩ := hcv
    simp only [stepOp, sBin] at hs
    split at hs
    · rename_i v hv
      cases hs
      exact .value (bin_ok h (hx _ _ h1) (hx _ _ h2) hv)
    · cases hs
  | unOp op t x =>
    simp only [cvOp, e] at hcv; simp only [Option.bind_eq_bind, Option.bind_eq_some_iff, Option.pure_def, Option.some.injEq] at hcv
    obtain ⟨c1, h1, rfl⟩ := hcv
    simp only [stepOp, sUn] at hs
    split at hs
    · rename_i v hv
      cases hs
      exact .value (un_ok h (hx _ _ h1) hv)
    · cases hs
  | convert s d x =>
    simp only [cvOp, e] at hcv; simp only [Option.bind_eq_bind, Option.bind_eq_some_iff, Option.pure_def, Option.some.injEq] at hcv
    split at hcv
    · rename_i es ed
      simp only [Option.bind_eq_bind, Option.bind_eq_some_iff, Option.pure_def, Option.some.injEq] at hcv
      obtain ⟨c1, h1, rfl⟩ := hcv
      exact .value (i2i_ok es ed h (hx _ _ h1) hs)
    · rename_i es ed
      simp only [Option.bind_eq_bind, Option.bind_eq_some_iff, Option.pure_def, Option.some.injEq] at hcv
      obtain ⟨c1, h1, rfl⟩ := hcv
      exact .value (same_ok es ed h (hx _ _ h1) hs)
    · rename_i es ed
      split at hcv
      · rename_i he
        simp only [Option.bind_eq_bind, Option.bind_eq_some_iff, Option.pure_def, Option.some.injEq] at hcv
        obtain ⟨c1, h1, rfl⟩ := hcv
        exact .value (s2b_ok es ed he h (hx _ _ h1) hs)
      · cases hcv
    · rename_i es ed
      split at hcv
      · rename_i he
        simp only [Option.bind_eq_bind, Option.bind_eq_some_iff, Option.pure_def, Option.some.injEq] at hcv
        obtain ⟨c1, h1, rfl⟩ := hcv
        exact .value (b2s_ok es he ed h (hx _ _ h1) hs)
      · cases hcv
    · cases hcv
  | makeInterface t x =>
    simp only [cvOp, e] at hcv; simp only [Option.bind_eq_bind, Option.bind_eq_some_iff, Option.pure_def, Option.some.injEq] at hcv
    split at hcv
    · cases hcv
    · rename_i d hne hu
      simp only [Option.bind_eq_bind, Option.bind_eq_some_iff, Option.pure_def, Option.some.injEq] at hcv
      obtain ⟨c1, h1, rfl⟩ := hcv
      simp only [stepOp, sMkif, Option.some.injEq, Prod.mk.injEq] at hs
      obtain ⟨rfl, rfl⟩ := hs
      refine .value (.pure (v' := .iface t (ev x)) h ?_ (.iface (hx _ _ h1)))
      simp only [Instr.makeInterface, Sem.run_bind, run_under hu, Result.andThen_ok]
      cases d <;> first | rfl | exact absurd rfl (hne _)
    · cases hcv
  | makeFunc fn first caps =>
    cases fn <;> simp only [cvOp, e] at hcv <;> try (cases hcv; done)
    simp only [Option.bind_eq_bind, Option.bind_eq_some_iff, Option.pure_def, Option.some.injEq] at hcv
    obtain ⟨c1, h1, c2, h2, rfl⟩ := hcv
    simp only [stepOp, sMkfn, Option.some.injEq, Prod.mk.injEq] at hs
    obtain ⟨rfl, rfl⟩ := hs
    refine .value (.pure (v' := .func (.func _) (first.map ev) (caps.map ev)) h rfl (.func ?_ ?_))
    · simpa using hx.list _ _ h1
    · simpa using hx.list _ _ h2
  | makeMap t r =>
    cases r <;> simp only [cvOp, e] at hcv <;> try (cases hcv; done)
    simp only [Option.bind_eq_bind, Option.bind_eq_some_iff, Option.pure_def, Option.some.injEq] at hcv
    subst hcv
    simp only [stepOp, sMkmap, Option.some.injEq, Prod.mk.injEq] at hs
    obtain ⟨rfl, rfl⟩ := hs
    exact .value (mkmap_ok h)
  | makeSlice t l c =>
    simp only [cvOp, e] at hcv
    cases hu : P.underlying t with
    | none => simp [hu] at hcv
    | some dt =>
      simp only [hu] at hcv
      cases dt <;> simp only at hcv <;> try (cases hcv; done)
      simp only [Option.bind_eq_bind, Option.bind_eq_some_iff, Option.pure_def, Option.some.injEq] at hcv
      obtain ⟨z, hz, hcv⟩ := hcv
      split at hcv
      · simp at hcv
      · rename_i hn
        simp only [Option.bind_eq_bind, Option.bind_eq_some_iff, Option.pure_def, Option.some.injEq] at hcv
        obtain ⟨c1, h1, c2, h2, rfl⟩ := hcv
        exact .value (mkslice_ok hu hz (by simpa using hn) h (hx _ _ h1) (hx _ _ h2) hs)
  | slice t x lo hi mx =>
    simp only [cvOp, e] at hcv; simp only [Option.bind_eq_bind, Option.bind_eq_some_iff, Option.pure_def, Option.some.injEq] at hcv
    split at hcv
    · cases hcv
    · rename_i hm
      have hmh : ∀ {l l' : Option CX}, cvO mx = some l → cvO hi = some l' → l ≠ none → l' ≠ none := by
        intro l l' e1 e2 hl hl'
        apply hm
        have q1 := cvO_none e1
        have q2 := cvO_none e2
        subst hl'
        cases l with
        | none => exact absurd rfl hl
        | some l => cases mx <;> cases hi <;> simp_all
      try simp only [Option.bind_eq_bind, Option.bind_eq_some_iff, Option.pure_def, Option.some.injEq] at hcv
      split at hcv
      · rename_i hu
        split at hcv
        · cases hcv
        · rename_i hmx
          simp only [Option.bind_eq_bind, Option.bind_eq_some_iff, Option.pure_def, Option.some.injEq] at hcv
          obtain ⟨c1, h1, c2, h2, c3, h3, rfl⟩ := hcv
          have : mx = none := by cases mx <;> simp_all
          subst this
          exact .value (slstr_ok hu h (hx _ _ h1) (XO.of hx h2) (XO.of hx h3) hs)
      · rename_i el hu
        split at hcv
        · cases hcv
        · rename_i hi'
          simp only [Option.bind_eq_bind, Option.bind_eq_some_iff, Option.pure_def, Option.some.injEq] at hcv
          obtain ⟨c1, h1, c2, h2, c3, h3, c4, h4, rfl⟩ := hcv
          exact .value (slsl_ok hu (isNone_false hi') rfl h (hx _ _ h1) (XO.of hx h2) (XO.of hx h3) (XO.of hx h4) (hmh h4 h3) hs)
      · rename_i n el hu
        split at hcv
        · cases hcv
        · rename_i hi'
          simp only [Option.bind_eq_bind, Option.bind_eq_some_iff, Option.pure_def, Option.some.injEq] at hcv
          obtain ⟨c1, h1, c2, h2, c3, h3, c4, h4, rfl⟩ := hcv
          exact .value (slarr_ok hu (isNone_false hi') rfl h (hx _ _ h1) (XO.of hx h2) (XO.of hx h3) (XO.of hx h4) (hmh h4 h3) hs)
      · cases hcv
  | fieldAddr s x f =>
    simp only [cvOp, e] at hcv
    cases hu : P.underlying s with
    | none => simp [hu] at hcv
    | some dt =>
      simp only [hu] at hcv
      cases dt <;> simp only at hcv <;> try (cases hcv; done)
      simp only [Option.bind_eq_bind, Option.bind_eq_some_iff, Option.pure_def, Option.some.injEq] at hcv
      obtain ⟨fl, hf, hcv⟩ := hcv
      split at hcv
      · cases hcv
      · rename_i hn
        simp only [Option.bind_eq_bind, Option.bind_eq_some_iff, Option.pure_def, Option.some.injEq] at hcv
        obtain ⟨c1, h1, rfl⟩ := hcv
        exact .value (fld_ok hu hf hn rfl h (hx _ _ h1) hs)
  | field s x f =>
    simp only [cvOp, e] at hcv
    cases hu : P.underlying s with
    | none => simp [hu] at hcv
    | some dt =>
      simp only [hu] at hcv
      cases dt <;> simp only at hcv <;> try (cases hcv; done)
      simp only [Option.bind_eq_bind, Option.bind_eq_some_iff, Option.pure_def, Option.some.injEq] at hcv
      obtain ⟨fl, hf, hcv⟩ := hcv
      split at hcv
      · cases hcv
      · rename_i hn
        obtain ⟨d, hd⟩ := isNone_false hn
        simp only [Option.bind_eq_bind, Option.bind_eq_some_iff, Option.pure_def, Option.some.injEq] at hcv
        obtain ⟨c1, h1, rfl⟩ := hcv
        exact .value (fldv_ok hu hf hd h (hx _ _ h1) hs)
  | indexAddr t x i =>
    simp only [cvOp, e] at hcv; simp only [Option.bind_eq_bind, Option.bind_eq_some_iff, Option.pure_def, Option.some.injEq] at hcv
    split at hcv
    · rename_i n el hu
      split at hcv
      · cases hcv
      · rename_i hi'
        simp only [Option.bind_eq_bind, Option.bind_eq_some_iff, Option.pure_def, Option.some.injEq] at hcv
        obtain ⟨c1, h1, c2, h2, rfl⟩ := hcv
        exact .value (idxa_ok hu (isNone_false hi') rfl h (hx _ _ h1) (hx _ _ h2) hs)
    · rename_i el hu
      split at hcv
      · cases hcv
      · rename_i hi'
        simp only [Option.bind_eq_bind, Option.bind_eq_some_iff, Option.pure_def, Option.some.injEq] at hcv
        obtain ⟨c1, h1, c2, h2, rfl⟩ := hcv
        exact .value (idxs_ok hu (isNone_false hi') rfl h (hx _ _ h1) (hx _ _ h2) hs)
    · cases hcv
  | index t x i =>
    simp only [cvOp, e] at hcv; simp only [Option.bind_eq_bind, Option.bind_eq_some_iff, Option.pure_def, Option.some.injEq] at hcv
    split at hcv
    · rename_i n el hu
      split at hcv
      · cases hcv
      · rename_i hi'
        obtain ⟨d, hd⟩ := isNone_false hi'
        simp only [Option.bind_eq_bind, Option.bind_eq_some_iff, Option.pure_def, Option.some.injEq] at hcv
        obtain ⟨c1, h1, c2, h2, rfl⟩ := hcv
        exact .value (ixv_ok hu hd h (hx _ _ h1) (hx _ _ h2) hs)
    · rename_i hu
      simp only [Option.bind_eq_bind, Option.bind_eq_some_iff, Option.pure_def, Option.some.injEq] at hcv
      obtain ⟨c1, h1, c2, h2, rfl⟩ := hcv
      exact .value (ixs_ok hu h (hx _ _ h1) (hx _ _ h2) hs)
    · cases hcv
  | lookup t x i ok =>
    simp only [cvOp, e] at hcv
    cases hu : P.underlying t with
    | none => simp [hu] at hcv
    | some dt =>
      simp only [hu] at hcv
      cases dt <;> simp only at hcv <;> try (cases hcv; done)
      simp only [Option.bind_eq_bind, Option.bind_eq_some_iff, Option.pure_def, Option.some.injEq] at hcv
      obtain ⟨sh, hsh, z, hz, c1, h1, c2, h2, rfl⟩ := hcv
      exact .value (lookup_ok hu hsh hz h (hx _ _ h1) (hx _ _ h2) hs)
  | mapUpdate t m k v =>
    simp only [cvOp, e] at hcv
    cases hu : P.underlying t with
    | none => simp [hu] at hcv
    | some dt =>
      simp only [hu] at hcv
      cases dt <;> simp only at hcv <;> try (cases hcv; done)
      simp only [Option.bind_eq_bind, Option.bind_eq_some_iff, Option.pure_def, Option.some.injEq] at hcv
      obtain ⟨sh, hsh, c1, h1, c2, h2, c3, h3, rfl⟩ := hcv
      exact .unit (mapupd_ok hu hsh h (hx _ _ h1) (hx _ _ h2) (hx _ _ h3) hs)
  | insert t m k v =>
    simp only [cvOp, e] at hcv
    cases hu : P.underlying t with
    | none => simp [hu] at hcv
    | some dt =>
      simp only [hu] at hcv
      cases dt <;> simp only at hcv <;> try (cases hcv; done)
      simp only [Option.bind_eq_bind, Option.bind_eq_some_iff, Option.pure_def, Option.some.injEq] at hcv
      obtain ⟨sh, hsh, c1, h1, c2, h2, c3, h3, rfl⟩ := hcv
      exact .unit (mapupd_ok hu hsh h (hx _ _ h1) (hx _ _ h2) (hx _ _ h3) hs)
  | mapEntry t m k =>
    simp only [cvOp, e] at hcv
    cases hu : P.underlying t with
    | none => simp [hu] at hcv
    | some dt =>
      simp only [hu] at hcv
      cases dt <;> simp only at hcv <;> try (cases hcv; done)
      simp only [Option.bind_eq_bind, Option.bind_eq_some_iff, Option.pure_def, Option.some.injEq] at hcv
      obtain ⟨sh, hsh, z, hz, c1, h1, c2, h2, rfl⟩ := hcv
      exact .value (mapent_ok hu hsh hz h (hx _ _ h1) (hx _ _ h2) hs)
  | entryStore t m s v =>
    simp only [cvOp, e] at hcv; simp only [Option.bind_eq_bind, Option.bind_eq_some_iff, Option.pure_def, Option.some.injEq] at hcv
    obtain ⟨c1, h1, c2, h2, c3, h3, rfl⟩ := hcv
    exact .unit (entst_ok h (hx _ _ h1) (hx _ _ h2) (hx _ _ h3) hs)
  | range t x =>
    simp only [cvOp, e] at hcv; simp only [Option.bind_eq_bind, Option.bind_eq_some_iff, Option.pure_def, Option.some.injEq] at hcv
    split at hcv
    · rename_i hu
      simp only [Option.bind_eq_bind, Option.bind_eq_some_iff, Option.pure_def, Option.some.injEq] at hcv
      obtain ⟨c1, h1, rfl⟩ := hcv
      exact .value (rngm_ok hu h (hx _ _ h1) hs)
    · cases hcv
  | next x st =>
    simp only [cvOp, e] at hcv; simp only [Option.bind_eq_bind, Option.bind_eq_some_iff, Option.pure_def, Option.some.injEq] at hcv
    obtain ⟨c1, h1, rfl⟩ := hcv
    cases st with
    | true => simp [stepOp] at hs
    | false => exact .value (next_ok h (hx _ _ h1) hs)
  | entry x =>
    simp only [cvOp, e] at hcv; simp only [Option.bind_eq_bind, Option.bind_eq_some_iff, Option.pure_def, Option.some.injEq] at hcv
    obtain ⟨c1, h1, rfl⟩ := hcv
    exact .value (entry_ok h (hx _ _ h1) hs)
  | extract x i =>
    simp only [cvOp, e] at hcv; simp only [Option.bind_eq_bind, Option.bind_eq_some_iff, Option.pure_def, Option.some.injEq] at hcv
    obtain ⟨c1, h1, rfl⟩ := hcv
    exact .value (ext_ok h (hx _ _ h1) hs)
  | defer c =>
    simp only [cvOp, e] at hcv
    split at hcv
    · split at hcv
      · simp only [Option.bind_eq_bind, Option.bind_eq_some_iff, Option.pure_def, Option.some.injEq] at hcv
        obtain ⟨c1, h1, rfl⟩ := hcv
        simp [stepOp] at hs
      · cases hcv
    · cases hcv
  | call c =>
    obtain ⟨callee, args, ats⟩ := c
    cases callee with
    | builtin b =>
      rw [cvOp_call_builtin e rfl] at hcv
      simp only at hcv
      cases ea : cvXs args.toList with
      | none => simp [ea] at hcv
      | some as =>
        simp only [ea] at hcv
        have hvs := hx.list _ _ ea
        have := bi_ok (ty := o.type) (cs := args.map fun | .const _ => true | _ => false) hvs h hcv hs
        have hmap : args.map ev = (args.toList.map ev).toArray := by rw [← Array.toList_map]
        rw [← hmap] at this
        exact this
    | invoke r n => simp [cvOp, e] at hcv
    | value f =>
      simp only [cvOp, e] at hcv
      split at hcv
      · rename_i f' hf
        try simp only at hf
        cases hf
        split at hcv
        · rename_i fn as hfn has
          split at hcv
          · cases hcv
          · rename_i hng
            split at hcv
            · cases hcv
              simp [stepOp] at hs
            · rename_i hb
              split at hcv
              · cases hcv
              · rename_i ho
                split at hcv
                · rename_i k hk
                  cases hcv
                  have ho : fn.origin = "" := by simpa using ho
                  obtain ⟨q1, q2⟩ := x_found ho hk
                  have hvs := hx.list _ _ has
                  simp only [stepOp] at hs
                  have hmap : args.map ev = (args.toList.map ev).toArray := by rw [← Array.toList_map]
                  have hX := xcall_ok (P := P) h hvs hs
                  rw [← hmap] at hX
                  have hbn : fn.body.isNone = true := by cases hfb : fn.body <;> simp_all
                  have hnm : (fn.name == "runtime.NumGoroutine") = false := by simpa using hng
                  obtain ⟨v', w', ρ', r1, r2, r3, r4, r5, r6⟩ := hX.ex
                  refine ⟨.value v', w', ρ', ?_, .inl ⟨v', rfl, r4⟩, r2, r3, r5, r6⟩
                  have hc := run_callFunc_extern (P := P) hfn hnm hbn q1 q2 (args.map ev) w
                  rw [r1] at hc
                  have hf' := hx.fn f'
                  show Sem.run P (do let d ← Deferred.ofValue (ev (.func f')) (args.map ev); invoke d.target d.args) w = _
                  rw [hf']
                  show Sem.run P (callFunc f' (#[] ++ args.map ev ++ #[])) w = _
                  rw [Array.empty_append, Array.append_empty]
                  exact hc
                · cases hcv
        · cases hcv
      · simp only [Option.bind_eq_bind, Option.bind_eq_some_iff, Option.pure_def, Option.some.injEq] at hcv
        obtain ⟨c1, h1, c2, h2, rfl⟩ := hcv
        simp [stepOp] at hs
      · rename_i hf; cases hf
      · rename_i hf; cases hf
  | _ => simp [cvOp, e] at hcv
end Go.Ex
namespace Go.Ex
open Go
variable {P : Program}
theorem cvAppend_nc {e : TypeId} {x y : CX} {co : COp} (h : cvAppend P e x y = some co) : callOp co = false := by
  unfold cvAppend at h
  split at h
  · split at h
    · cases h
    · split at h
      · cases h
      · cases h; rfl
  · cases h
theorem cvBuiltin_nc {b : Builtin} {ats : Array TypeId} {args : List CX} {co : COp} (h : cvBuiltin P b ats args = some co) : callOp co = false := by
  unfold cvBuiltin at h
  split at h
  all_goals (try (cases h; done))
  all_goals (try (cases h; rfl))
  all_goals (split at h)
  all_goals (try (cases h; done))
  all_goals (try (cases h; rfl))
  all_goals (try (exact cvAppend_nc h))
  all_goals (split at h)
  all_goals (try (cases h; done))
  all_goals (try (cases h; rfl))
theorem cvOp_nc {o : Oper} {co : COp} (hcv : cvOp P o = some co) (hc : callOp co = true) : (∃ c, o.op = .call c) ∨ ∃ c, o.op = .defer c := by
  cases e : o.op
  case call c => exact .inl ⟨c, rfl⟩
  case defer c => exact .inr ⟨c, rfl⟩
  case makeFunc fn first caps =>
    exfalso
    cases fn <;> simp only [cvOp, e] at hcv <;> repeat' (first | (cases hcv; done) | (subst hcv; cases hc; done) | (cases hcv; cases hc; done) | (obtain ⟨_, _, hcv⟩ := hcv) | (simp only [Option.bind_eq_bind, Option.bind_eq_some_iff, Option.pure_def, Option.some.injEq] at hcv))
  case makeMap t r =>
    exfalso
    cases r <;> simp only [cvOp, e] at hcv <;> repeat' (first | (cases hcv; done) | (subst hcv; cases hc; done) | (cases hcv; cases hc; done) | (obtain ⟨_, _, hcv⟩ := hcv) | (simp only [Option.bind_eq_bind, Option.bind_eq_some_iff, Option.pure_def, Option.some.injEq] at hcv))
  all_goals exfalso
  all_goals simp only [cvOp, e] at hcv
  all_goals repeat' (first | (cases hcv; done) | (subst hcv; cases hc; done) | (cases hcv; cases hc; done) | (obtain ⟨_, _, hcv⟩ := hcv) | split at hcv | (simp only [Option.bind_eq_bind, Option.bind_eq_some_iff, Option.pure_def, Option.some.injEq] at hcv))
def CallOK (P : Program) (f : FuncId) : Prop := ∃ fn, P.funcs[f]? = some fn ∧ fn.name ≠ "runtime.NumGoroutine" ∧ fn.body.isSome = true
theorem cvOp_call {o : Oper} {f : Nat} {args : List CX} (hcv : cvOp P o = some (.call f args)) : ∃ c, o.op = .call c ∧ c.callee = .value (.func f) ∧ cvXs c.args.toList = some args ∧ CallOK P f := by
  rcases cvOp_nc hcv rfl with ⟨c, e⟩ | ⟨c, e⟩
  · obtain ⟨callee, as, ats⟩ := c
    refine ⟨_, e, ?_⟩
    cases callee with
    | builtin b =>
      rw [cvOp_call_builtin e rfl] at hcv
      simp only at hcv
      split at hcv
      · exact absurd (cvBuiltin_nc hcv) (by simp [callOp])
      · cases hcv
    | invoke r n => simp [cvOp, e] at hcv
    | value v =>
      simp only [cvOp, e] at hcv
      split at hcv
      · rename_i f' hf
        try simp only at hf
        cases hf
        split at hcv
        · rename_i fn as' hfn has
          split at hcv
          · cases hcv
          · rename_i hng
            split at hcv
            · rename_i hb
              cases hcv
              exact ⟨rfl, has, fn, hfn, hng, hb⟩
            · split at hcv
              · cases hcv
              · split at hcv
                · cases hcv
                · cases hcv
        · cases hcv
      · simp only [Option.bind_eq_bind, Option.bind_eq_some_iff, Option.pure_def, Option.some.injEq] at hcv
        obtain ⟨c1, h1, c2, h2, hh⟩ := hcv
        cases hh
      · rename_i hf; cases hf
      · rename_i hf; cases hf
  · simp only [cvOp, e] at hcv
    split at hcv
    · split at hcv
      · simp only [Option.bind_eq_bind, Option.bind_eq_some_iff, Option.pure_def, Option.some.injEq] at hcv
        obtain ⟨c1, h1, hh⟩ := hcv
        cases hh
      · cases hcv
    · cases hcv
theorem cvOp_callv {o : Oper} {x : CX} {args : List CX} (hcv : cvOp P o = some (.callv x args)) : ∃ c y, o.op = .call c ∧ c.callee = .value y ∧ cvX y = some x ∧ cvXs c.args.toList = some args := by
  rcases cvOp_nc hcv rfl with ⟨c, e⟩ | ⟨c, e⟩
  · obtain ⟨callee, as, ats⟩ := c
    cases callee with
    | builtin b =>
      rw [cvOp_call_builtin e rfl] at hcv
      simp only at hcv
      split at hcv
      · exact absurd (cvBuiltin_nc hcv) (by simp [callOp])
      · cases hcv
    | invoke r n => simp [cvOp, e] at hcv
    | value v =>
      refine ⟨_, v, e, rfl, ?_⟩
      simp only [cvOp, e] at hcv
      split at hcv
      · split at hcv
        · split at hcv
          · cases hcv
          · split at hcv
            · cases hcv
            · split at hcv
              · cases hcv
              · split at hcv
                · cases hcv
                · cases hcv
        · cases hcv
      · rename_i y hf
        try simp only at hf
        cases hf
        simp only [Option.bind_eq_bind, Option.bind_eq_some_iff, Option.pure_def, Option.some.injEq] at hcv
        obtain ⟨c1, h1, c2, h2, hh⟩ := hcv
        cases hh
        exact ⟨h1, h2⟩
      · rename_i hf; cases hf
      · rename_i hf; cases hf
  · simp only [cvOp, e] at hcv
    split at hcv
    · split at hcv
      · simp only [Option.bind_eq_bind, Option.bind_eq_some_iff, Option.pure_def, Option.some.injEq] at hcv
        obtain ⟨c1, h1, hh⟩ := hcv
        cases hh
      · cases hcv
    · cases hcv
theorem cvOp_defer {o : Oper} {x : CX} (hcv : cvOp P o = some (.defer x)) : ∃ c y, o.op = .defer c ∧ c.callee = .value y ∧ cvX y = some x ∧ c.args = #[] := by
  rcases cvOp_nc hcv rfl with ⟨c, e⟩ | ⟨c, e⟩
  · obtain ⟨callee, as, ats⟩ := c
    cases callee with
    | builtin b =>
      rw [cvOp_call_builtin e rfl] at hcv
      simp only at hcv
      split at hcv
      · exact absurd (cvBuiltin_nc hcv) (by simp [callOp])
      · cases hcv
    | invoke r n => simp [cvOp, e] at hcv
    | value v =>
      simp only [cvOp, e] at hcv
      split at hcv
      · split at hcv
        · split at hcv
          · cases hcv
          · split at hcv
            · cases hcv
            · split at hcv
              · cases hcv
              · split at hcv
                · cases hcv
                · cases hcv
        · cases hcv
      · simp only [Option.bind_eq_bind, Option.bind_eq_some_iff, Option.pure_def, Option.some.injEq] at hcv
        obtain ⟨c1, h1, c2, h2, hh⟩ := hcv
        cases hh
      · rename_i hf; cases hf
      · rename_i hf; cases hf
  · obtain ⟨callee, as, ats⟩ := c
    cases callee with
    | builtin b => simp [cvOp, e] at hcv
    | invoke r n => simp [cvOp, e] at hcv
    | value y =>
      simp only [cvOp, e] at hcv
      split at hcv
      · rename_i ha
        simp only [Option.bind_eq_bind, Option.bind_eq_some_iff, Option.pure_def, Option.some.injEq] at hcv
        obtain ⟨c1, h1, hh⟩ := hcv
        cases hh
        exact ⟨_, y, e, rfl, h1, by simpa using ha⟩
      · cases hcv
end Go.Ex
namespace Go.Ex
open Go
variable {P : Program}
inductive DRs (ρ : Ren) : List AV → List Deferred → Prop where
  | nil : DRs ρ [] []
  | cons {f : Nat} {as bs : List AV} {as' bs' : Array Value} {l : List AV} {ds : List Deferred} (ha : VRs ρ as as'.toList) (hb : VRs ρ bs bs'.toList) (t : DRs ρ l ds) :
      DRs ρ (.func f as bs :: l) ({ target := .fn (.func f) bs', args := as' } :: ds)
theorem DRs.mono {ρ ρ' : Ren} (hl : ρ.le ρ') : ∀ {l : List AV} {ds : List Deferred}, DRs ρ l ds → DRs ρ' l ds
  | _, _, .nil => .nil
  | _, _, .cons ha hb t => .cons (ha.mono hl) (hb.mono hl) (DRs.mono hl t)
structure SR (N : Nat) (ρ : Ren) (s : St) (a : Act) (w : World) : Prop where
  tm : TR ρ s.tm a.tmps
  size : N ≤ a.tmps.size
  wr : WR ρ s.h w
  df : DRs ρ s.df a.defers
theorem put_getD (a : Act) (d : Nat) (v : Value) (i : Nat) : (a.put (some d) v).tmps.getD i undef = if i = d ∧ d < a.tmps.size then v else a.tmps.getD i undef := by
  simp only [Act.put, Array.getD_eq_getD_getElem?]
  by_cases h : d = i
  · subst h
    by_cases h2 : d < a.tmps.size
    · simp [h2]
    · simp [h2, Array.getElem?_eq_none (Nat.le_of_not_lt h2)]
  · rw [Array.getElem?_setIfInBounds_ne h]
    have : ¬ i = d := fun e => h e.symm
    rw [if_neg (fun e => this e.1)]
theorem TR.put {N : Nat} {ρ : Ren} {tm : Tm} {a : Act} {d : Option Nat} {v : AV} {v' : Value} (h : TR ρ tm a.tmps) (hs : N ≤ a.tmps.size) (hd : okDst N d = true) (hv : VR ρ v v') :
    TR ρ (setDst tm d v) (a.put d v').tmps := by
  cases d with
  | none => exact h
  | some d =>
    have hd : d < N := by simpa [okDst] using hd
    intro i
    rw [setDst, ev_set, put_getD]
    by_cases e : i = d
    · have : d < a.tmps.size := by omega
      rw [if_pos e, if_pos ⟨e, this⟩]; exact hv
    · rw [if_neg e, if_neg (fun h => e h.1)]; exact h i
theorem put_size (a : Act) (d : Option Nat) (v : Value) : (a.put d v).tmps.size = a.tmps.size := by
  cases d <;> simp [Act.put]
theorem put_defers (a : Act) (d : Option Nat) (v : Value) : (a.put d v).defers = a.defers := by
  cases d <;> simp [Act.put]
theorem SR.put {N : Nat} {ρ : Ren} {s : St} {a : Act} {w : World} {d : Option Nat} {v : AV} {v' : Value} (h : SR N ρ s a w) (hd : okDst N d = true) (hv : VR ρ v v') :
    SR N ρ { s with tm := setDst s.tm d v } (a.put d v') w :=
  ⟨h.tm.put h.size hd hv, by rw [put_size]; exact h.size, h.wr, by rw [put_defers]; exact h.df⟩
structure RT (N : Nat) (ρ : Ren) (w : World) (s' : St) (a' : Act) (w' : World) : Prop where
  intro ::
  ex : ∃ ρ', ρ.le ρ' ∧ ρ.newer ρ' w ∧ SR N ρ' s' a' w' ∧ Fr ρ w w'
theorem RT.refl {N : Nat} {ρ : Ren} {s : St} {a : Act} {w : World} (h : SR N ρ s a w) : RT N ρ w s a w := ⟨ρ, ρ.le_refl, ρ.newer_refl w, h, Fr.refl ρ w⟩
theorem RT.trans {N : Nat} {ρ ρ' : Ren} {s' : St} {a' : Act} {w w' w'' : World} (h1 : ρ.le ρ') (h2 : ρ.newer ρ' w) (h3 : Fr ρ w w') (h : RT N ρ' w' s' a' w'') : RT N ρ w s' a' w'' := by
  obtain ⟨ρ'', g1, g2, g3, g4⟩ := h.ex
  exact ⟨ρ'', Ren.le_trans h1 g1, Ren.newer_trans h2 h3.size g2, g3, h3.trans h2 g4⟩
inductive XRel : XR → Exit → Prop where
  | normal : XRel .normal .normal
  | exit (i : Nat) : XRel (.exit i) (.exit i)
  | ret : XRel .ret .ret
def PostC (N : Nat) (ρ : Ren) (w : World) (x : XR) (s' : St) (e : Exit) (a' : Act) (w' : World) : Prop := XRel x e ∧ RT N ρ w s' a' w'
theorem PostC.trans {N : Nat} {ρ ρ' : Ren} {x : XR} {s' : St} {e : Exit} {a' : Act} {w w' w'' : World} (h1 : ρ.le ρ') (h2 : ρ.newer ρ' w) (h3 : Fr ρ w w') (h : PostC N ρ' w' x s' e a' w'') : PostC N ρ w x s' e a' w'' :=
  ⟨h.1, .trans h1 h2 h3 h.2⟩
def CallPost (ρ : Ren) (w : World) (v : AV) (h' : Heap) (e : Ending) (w' : World) : Prop :=
  ∃ v' ρ', e = .returned v' ∧ ρ.le ρ' ∧ ρ.newer ρ' w ∧ VR ρ' v v' ∧ WR ρ' h' w' ∧ Fr ρ w w'
structure EOK (P : Program) (E : Env) : Prop where
  fns : ∀ f F, E.fns f = some F → ∃ fn, P.funcs[f]? = some fn ∧ cvF P fn = some F
  orc : ∀ f args h v h', E.orc f args h = some (v, h') → CallOK P f ∧ ∀ ρ w args', WR ρ h w → VRs ρ args args'.toList → Calls P f args' w (CallPost ρ w v h')
theorem wanted_ok {ρ : Ren} {tm : Tm} {tmps : Array Value} {ops : Array Oper} {o : Oper} {g : Option (Nat × Bool)} (h : TR ρ tm tmps)
    (hg : (match o.guard with
      | none => some none
      | some (j, b) => do
        let d ← (← ops[j]?).dst
        some (some (d, b))) = some g) : wanted tm g = Region.wanted o (yielded ops tmps) := by
  unfold Region.wanted
  cases e : o.guard with
  | none => simp only [e, Option.some.injEq] at hg; subst hg; rfl
  | some jb =>
    obtain ⟨j, b⟩ := jb
    simp only [e, Option.bind_eq_bind, Option.bind_eq_some_iff, Option.some.injEq] at hg
    obtain ⟨oj, h1, d, h2, rfl⟩ := hg
    have hd := h d
    have hy : yielded ops tmps j = match tmps[d]? with
        | some (.bool b) => some b
        | _ => none := by
      unfold yielded
      simp only [h1, h2, Option.bind_some]
      rfl
    simp only [hy]
    simp only [wanted, CX.ev] at hd ⊢
    rw [Array.getD_eq_getD_getElem?] at hd
    cases e2 : tm.get d with
    | none =>
      simp only [e2] at hd ⊢
      cases e3 : tmps[d]? with
      | none => rfl
      | some x =>
        simp only [e3, Option.getD_some] at hd
        cases hd
        rfl
    | some v =>
      simp only [e2] at hd ⊢
      cases e3 : tmps[d]? with
      | none =>
        simp only [e3, Option.getD_none] at hd
        cases hd
        rfl
      | some x =>
        simp only [e3, Option.getD_some] at hd
        cases hd <;> rfl
theorem cvCI_inv {ops : Array Oper} {o : Oper} {c : CI} (h : cvCI P ops o = some c) : c.dst = o.dst ∧ c.op = (cvOp P o).getD .bad ∧
    (match o.guard with
      | none => some none
      | some (j, b) => do
        let d ← (← ops[j]?).dst
        some (some (d, b))) = some c.guard := by
  unfold cvCI at h
  simp only [Option.bind_eq_bind, Option.pure_def] at h
  split at h
  · rename_i e
    simp only [Option.bind_some, Option.some.injEq] at h
    subst h
    exact ⟨rfl, rfl, by simp [e]⟩
  · rename_i j b e
    simp only [Option.bind_eq_some_iff, Option.some.injEq] at h
    obtain ⟨oj, h1, d, h2, g, h3, h4⟩ := h
    subst h3; subst h4
    exact ⟨rfl, rfl, by simp [e, h1, h2]⟩
def OpW (P : Program) (ρ : Ren) (o : Oper) (ev : Operand → Value) (dl : List Deferred) (w : World) (v : AV) (s' : St) : Prop :=
  ∀ (a : Act) (next : Act → World → Prop) (Q : Exit → Act → World → Prop), execOp a.eval o = execOp ev o → a.defers = dl →
    (∀ dl' w' v' ρ', ρ.le ρ' → ρ.newer ρ' w → VR ρ' v v' → WR ρ' s'.h w' → DRs ρ' s'.df dl' → Fr ρ w w' → next (({ a with defers := dl' } : Act).put o.dst v') w') → o.wp P a w next Q
def OpS (P : Program) (call : CallF) : Prop :=
  ∀ (o : Oper) (co : COp), cvOp P o = some co → ∀ (s : St) (v : AV) (s' : St), execOp1 call co s = some (v, s') →
    s'.tm = s.tm ∧ ∀ (ρ : Ren) (ev : Operand → Value) (dl : List Deferred) (w : World), XR1 ρ s.tm ev → WR ρ s.h w → DRs ρ s.df dl → OpW P ρ o ev dl w v s'
def CallS (P : Program) (call : CallF) : Prop :=
  ∀ (f : Nat) (args : List AV) (h : Heap) (v : AV) (h' : Heap), call f args h = some (v, h') → CallOK P f ∧
    ∀ (ρ : Ren) (w : World) (args' : Array Value), WR ρ h w → VRs ρ args args'.toList → Calls P f args' w (CallPost ρ w v h')
theorem run_callFunc {f : FuncId} {args : Array Value} {w : World} (h : CallOK P f) : (callFunc f args).run P w = .ok (.enter f args) w := by
  obtain ⟨fn, h1, h2, h3⟩ := h
  have h4 : fn.body.isNone = false := by cases e : fn.body <;> simp_all
  have h5 : (fn.name == "runtime.NumGoroutine") = false := by simpa using h2
  have h6 : ¬ fn.body = none := by intro e; rw [e] at h3; cases h3
  simp [callFunc, h1, h2, h6, Sem.run]
theorem stepOp_ok {call : CallF} {co : COp} {s s' : St} {v : AV} (hc : callOp co = false) (h : execOp1 call co s = some (v, s')) :
    ∃ h', stepOp s.tm s.h co = some (v, h') ∧ s' = { s with h := h' } := by
  have key : ∀ r : Option (AV × Heap), (match r with
      | some (v, h) => some (v, { s with h := h })
      | none => none) = some (v, s') → ∃ h', r = some (v, h') ∧ s' = { s with h := h' } := by
    intro r hr
    cases r with
    | none => cases hr
    | some p =>
      obtain ⟨v1, h1⟩ := p
      simp only [Option.some.injEq, Prod.mk.injEq] at hr
      obtain ⟨rfl, rfl⟩ := hr
      exact ⟨h1, rfl, rfl⟩
  cases co <;> first | (cases hc; done) | exact key _ h
theorem opS_step {call : CallF} {o : Oper} {co : COp} {s s' : St} {v : AV} (hcv : cvOp P o = some co) (hc : callOp co = false) (h : execOp1 call co s = some (v, s')) :
    s'.tm = s.tm ∧ ∀ (ρ : Ren) (ev : Operand → Value) (dl : List Deferred) (w : World), XR1 ρ s.tm ev → WR ρ s.h w → DRs ρ s.df dl → OpW P ρ o ev dl w v s' := by
  obtain ⟨h', h1, rfl⟩ := stepOp_ok hc h
  refine ⟨rfl, fun ρ ev dl w hx hw hd a next Q he ha hk => ?_⟩
  obtain ⟨nx, w', ρ', r1, r2, r3, r4, r5, r6⟩ := (step_ok hx hw hcv h1).ex
  unfold Oper.wp
  rw [he, r1]
  have hd' := hd.mono r3
  have hk' := fun v' hv => hk dl w' v' ρ' r3 r4 hv r5 hd' r6
  have hae : ({ a with defers := dl } : Act) = a := by rw [← ha]
  rw [hae] at hk'
  rcases r2 with ⟨v', rfl, hv⟩ | ⟨rfl, rfl⟩
  · exact hk' v' hv
  · exact hk' undef (.undef ρ')
theorem call_wp {f : Nat} {o : Oper} {c : Call} {s : St} {ev : Operand → Value} {dl : List Deferred} {w : World} {ρ : Ren} {v : AV} {h' : Heap} {d : Deferred} {args' : Array Value} (e : o.op = .call c)
    (hd : DRs ρ s.df dl) (hok : CallOK P f) (hr : (resolve ev c o.type).run P w = .ok d w) (hi : invoke d.target d.args = callFunc f args') (hc : Calls P f args' w (CallPost ρ w v h')) :
    OpW P ρ o ev dl w v { s with h := h' } := by
  intro a next Q he ha hk
  unfold Oper.wp
  have : (execOp ev o).run P w = .ok (.enter f args') w := by
    unfold execOp
    simp only [e]
    rw [Sem.run_bind, hr]
    simp only [Result.andThen_ok]
    rw [hi, run_callFunc hok]
  rw [he, this]
  refine Calls.mono hc fun e w' he => ?_
  obtain ⟨v', ρ', rfl, h1, h2, h3, h4, h5⟩ := he
  have := hk dl w' v' ρ' h1 h2 h3 h4 (hd.mono h1) h5
  have hae : ({ a with defers := dl } : Act) = a := by rw [← ha]
  rw [hae] at this
  exact this
theorem opS {call : CallF} (hC : CallS P call) : OpS P call := by
  intro o co hcv s v s' h
  · by_cases hc : callOp co = true
    · cases co <;> try (cases hc; done)
      case bad => simp [execOp1, stepOp] at h
      case call f args =>
        obtain ⟨c, e1, e2, e3, e4⟩ := cvOp_call hcv
        simp only [execOp1] at h
        split at h
        · rename_i v1 h1 hx
          simp only [Option.some.injEq, Prod.mk.injEq] at h
          obtain ⟨rfl, rfl⟩ := h
          refine ⟨rfl, fun ρ ev dl w hx1 hw hd => ?_⟩
          have hvs := hx1.list _ _ e3
          have hf := hx1.fn f
          obtain ⟨hok, hcalls⟩ := hC _ _ _ _ _ hx
          refine call_wp (d := { target := .fn (.func f) #[], args := #[] ++ c.args.map ev }) (args' := #[] ++ c.args.map ev ++ #[]) e1 hd hok ?_ rfl (hcalls ρ w _ hw ?_)
          · simp only [resolve, e2, hf]; rfl
          · simpa using hvs
        · cases h
      case callv x args =>
        obtain ⟨c, y, e1, e2, e3, e4⟩ := cvOp_callv hcv
        simp only [execOp1] at h
        split at h
        · rename_i f first caps hx
          split at h
          · rename_i v1 h1 hxc
            simp only [Option.some.injEq, Prod.mk.injEq] at h
            obtain ⟨rfl, rfl⟩ := h
            refine ⟨rfl, fun ρ ev dl w hx1 hw hd => ?_⟩
            have hvs := hx1.list _ _ e4
            have hy := hx1 y x e3
            rw [hx] at hy
            generalize ey : ev y = y' at hy
            cases hy with
            | func ha hb =>
              rename_i as' bs'
              obtain ⟨hok, hcalls⟩ := hC _ _ _ _ _ hxc
              refine call_wp (d := { target := .fn (.func f) bs', args := as' ++ c.args.map ev }) (args' := as' ++ c.args.map ev ++ bs') e1 hd hok ?_ rfl (hcalls ρ w _ hw ?_)
              · simp only [resolve, e2, ey]; rfl
              · simpa using (ha.append (hvs.append hb))
          · cases h
        · cases h
      case defer x =>
        obtain ⟨c, y, e1, e2, e3, e4⟩ := cvOp_defer hcv
        simp only [execOp1] at h
        split at h
        · rename_i f first caps hx
          simp only [Option.some.injEq, Prod.mk.injEq] at h
          obtain ⟨rfl, rfl⟩ := h
          refine ⟨rfl, fun ρ ev dl w hx1 hw hd a next Q he ha hk => ?_⟩
          have hy := hx1 y x e3
          rw [hx] at hy
          generalize ey : ev y = y' at hy
          cases hy with
          | func ha' hb =>
            rename_i as' bs'
            unfold Oper.wp
            have : (execOp ev o).run P w = .ok (.defer { target := .fn (.func f) bs', args := as' ++ #[] }) w := by
              unfold execOp
              simp only [e1, resolve, e2, e4, ey, Array.map_empty]
              rfl
            rw [he, this, Oper.upon_defer, ha]
            exact hk _ w undef ρ ρ.le_refl (ρ.newer_refl w) (.undef ρ) hw (.cons (by simpa using ha') hb hd) (Fr.refl ρ w)
        · cases h
    · exact opS_step hcv (by simpa using hc) h
end Go.Ex
namespace Go.Ex
open Go
variable {P : Program}
theorem wpOps_next {ops : Array Oper} {Q : Exit → Act → World → Prop} {i : Nat} {rest : List Nat} {o : Oper} {a : Act} {w : World} (ho : ops[i]? = some o)
    (h : if Region.wanted o (yielded ops a.tmps) then o.wp P a w (wpOps P ops Q rest) Q else wpOps P ops Q rest (a.put o.dst undef) w) : wpOps P ops Q (i :: rest) a w := by
  simp only [wpOps, ho]
  split
  · rename_i hw; rw [if_pos hw] at h; exact .inl h
  · rename_i hw; rw [if_neg hw] at h; exact h
theorem range'_cons (i n : Nat) : List.range' i (n + 1) = i :: List.range' (i + 1) n := rfl
theorem execOp1_cv {call : CallF} {o : Oper} {s : St} {r : AV × St} (h : execOp1 call ((cvOp P o).getD .bad) s = some r) : ∃ co, cvOp P o = some co ∧ execOp1 call co s = some r := by
  cases e : cvOp P o with
  | some co => exact ⟨co, rfl, by simpa [e] using h⟩
  | none =>
    simp only [e, Option.getD_none] at h
    simp [execOp1, stepOp] at h
theorem ops_wp {call : CallF} {N : Nat} (hO : OpS P call) {ops : Array Oper} : ∀ (l : List Oper) (i : Nat) (cs : List CI),
    (∀ k o, l[k]? = some o → ops[i + k]? = some o) → l.mapM (cvCI P ops) = some cs → (cs.all fun c => okDst N c.dst) = true →
    ∀ (s s' : St), execOps call cs s = some s' → ∀ (ρ : Ren) (a : Act) (w : World), SR N ρ s a w → ∀ Q : Exit → Act → World → Prop,
    (∀ a' w', RT N ρ w s' a' w' → Q .normal a' w') → wpOps P ops Q (List.range' i l.length) a w := by
  intro l
  induction l with
    | nil =>
      intro i cs hl hcs hok s s' h ρ a w hs Q hQ
      simp only [List.mapM_nil, Option.pure_def, Option.some.injEq] at hcs
      subst hcs
      simp only [execOps, Option.some.injEq] at h
      subst h
      exact hQ a w (.refl hs)
    | cons o l ih =>
      intro i cs hl hcs hok s s' h ρ a w hs Q hQ
      simp only [List.mapM_cons, Option.bind_eq_bind, Option.bind_eq_some_iff, Option.pure_def, Option.some.injEq] at hcs
      obtain ⟨c, hc, cs', hcs', rfl⟩ := hcs
      obtain ⟨e1, e2, e3⟩ := cvCI_inv hc
      simp only [List.all_cons, Bool.and_eq_true] at hok
      have ho : ops[i]? = some o := by simpa using hl 0 o (by simp)
      have hl' : ∀ k o', l[k]? = some o' → ops[i + 1 + k]? = some o' := fun k o' hk => by
        have := hl (k + 1) o' (by simpa using hk)
        rw [show i + 1 + k = i + (k + 1) by omega]; exact this
      have hwant := wanted_ok hs.tm e3
      rw [List.length_cons, range'_cons]
      refine wpOps_next ho ?_
      simp only [execOps] at h
      rw [hwant] at h
      split
      · rename_i hw
        rw [if_pos hw] at h
        split at h
        · rename_i v s1 hx
          rw [e2] at hx
          obtain ⟨co, hco, hx⟩ := execOp1_cv hx
          obtain ⟨htm, hop⟩ := hO o co hco s v s1 hx
          refine hop ρ a.eval a.defers w (XR1.of hs.tm) hs.wr hs.df a _ Q rfl rfl fun dl' w' v' ρ' h1 h2 h3 h4 h4' h5 => ?_
          have hsr : SR N ρ' s1 { a with defers := dl' } w' := ⟨by rw [htm]; exact hs.tm.mono h1, hs.size, h4, h4'⟩
          have hp := hsr.put (d := o.dst) (by rw [← e1]; exact hok.1) h3
          rw [e1] at h
          exact ih (i + 1) cs' hl' hcs' hok.2 _ s' h ρ' _ w' hp Q fun a' w'' hr => hQ a' w'' (.trans h1 h2 h5 hr)
        · cases h
      · rename_i hw
        rw [if_neg hw] at h
        have hp := hs.put (d := o.dst) (by rw [← e1]; exact hok.1) (.undef ρ)
        rw [e1] at h
        exact ih (i + 1) cs' hl' hcs' hok.2 _ s' h ρ _ w hp Q hQ
def DregS (P : Program) (call : CallF) : Prop :=
  ∀ (N : Nat) (ops : Array Oper) (l : List (CI × List Chk)), cvDreg P ops = some l → (l.all fun c => okDst N c.1.dst) = true → ∀ (s s' : St), execD call l s = some s' →
    ∀ (ρ : Ren) (a : Act) (w : World), SR N ρ s a w → ∀ id, (Code.region id ops true).wp P (PostC N ρ w .normal s') a w
theorem wp_loop_n {c : Code} {Q : Exit → Act → World → Prop} {a : Act} {w : World} {J : Nat → Act → World → Prop} {n : Nat} (h0 : J n a w)
    (round : ∀ n a w, J n a w → c.wp P (Exit.then (fun a' w' => ∃ m, m < n ∧ J m a' w') Q) a w) : (Code.loop c).wp P Q a w := by
  classical
  have hmin : ∀ a w, (∃ n, J n a w) → ∃ m, J m a w ∧ ∀ k, J k a w → m ≤ k := by
    intro a w ⟨n, hn⟩
    induction n using Nat.strongRecOn with
    | _ n ih =>
      by_cases hk : ∃ k, k < n ∧ J k a w
      · obtain ⟨k, h1, h2⟩ := hk; exact ih k h1 h2
      · exact ⟨n, hn, fun k h2 => Nat.le_of_not_lt fun h1 => hk ⟨k, h1, h2⟩⟩
  let μ : Act → World → Nat := fun a w => if h : ∃ n, J n a w then Classical.choose (hmin a w h) else 0
  refine wp_loop (fun a w => ∃ n, J n a w) μ ⟨n, h0⟩ fun a w hI => ?_
  have hm := Classical.choose_spec (hmin a w hI)
  refine wp_mono (round _ a w hm.1) fun e a' w' h => ?_
  cases e with
  | normal =>
    obtain ⟨m, hlt, hJ⟩ := h
    refine ⟨⟨m, hJ⟩, ?_⟩
    have h2 := Classical.choose_spec (hmin a' w' ⟨m, hJ⟩)
    show μ a' w' < μ a w
    simp only [μ, dif_pos hI, dif_pos (⟨m, hJ⟩ : ∃ n, J n a' w')]
    exact Nat.lt_of_le_of_lt (h2.2 m hJ) hlt
  | _ => exact h
theorem cvC_seq {x y : Code} {cc : CC} (h : cvC P (.seq x y) = some cc) : ∃ a b, cvC P x = some a ∧ cvC P y = some b ∧ cc = .seq a b := by
  simp only [cvC, Option.bind_eq_bind, Option.bind_eq_some_iff, Option.pure_def, Option.some.injEq] at h
  obtain ⟨a, h1, b, h2, rfl⟩ := h
  exact ⟨a, b, h1, h2, rfl⟩
theorem exec_wp {call : CallF} {lf N : Nat} (hO : OpS P call) (hD : DregS P call) : ∀ (c : Code) (cc : CC), cvC P c = some cc → okC N cc = true →
    ∀ (s : St) (x : XR) (s' : St), exec call lf cc s = some (x, s') → ∀ (ρ : Ren) (a : Act) (w : World), SR N ρ s a w → c.wp P (PostC N ρ w x s') a w := by
  intro c
  induction c with
  | skip =>
    intro cc hcv hok s x s' h ρ a w hs
    simp only [cvC, Option.some.injEq] at hcv; subst hcv
    simp only [exec, Option.some.injEq, Prod.mk.injEq] at h
    obtain ⟨rfl, rfl⟩ := h
    exact wp_skip ⟨.normal, .refl hs⟩
  | exit id =>
    intro cc hcv hok s x s' h ρ a w hs
    simp only [cvC, Option.some.injEq] at hcv; subst hcv
    simp only [exec, Option.some.injEq, Prod.mk.injEq] at h
    obtain ⟨rfl, rfl⟩ := h
    exact wp_exit ⟨.exit id, .refl hs⟩
  | ret =>
    intro cc hcv hok s x s' h ρ a w hs
    simp only [cvC, Option.some.injEq] at hcv; subst hcv
    simp only [exec, Option.some.injEq, Prod.mk.injEq] at h
    obtain ⟨rfl, rfl⟩ := h
    exact wp_ret ⟨.ret, .refl hs⟩
  | scope b _ =>
    intro cc hcv hok s x s' h ρ a w hs
    simp only [cvC, Option.bind_eq_bind, Option.bind_eq_some_iff, Option.pure_def, Option.some.injEq] at hcv
    obtain ⟨b', _, rfl⟩ := hcv
    simp [okC] at hok
  | region id ops d =>
    intro cc hcv hok s x s' h ρ a w hs
    cases d with
    | false =>
      simp only [cvC, Option.bind_eq_bind, Option.bind_eq_some_iff, Option.pure_def, Option.some.injEq] at hcv
      obtain ⟨l, hl, rfl⟩ := hcv
      simp only [exec] at h
      split at h
      · rename_i s1 hx
        simp only [Option.some.injEq, Prod.mk.injEq] at h
        obtain ⟨rfl, rfl⟩ := h
        refine wp_region ?_
        rw [List.range_eq_range', ← Array.length_toList]
        exact ops_wp hO ops.toList 0 l (fun k o hk => by simpa using hk) hl (by simpa [okC] using hok) s s1 hx ρ a w hs _ fun a' w' hr => ⟨.normal, hr⟩
      · cases h
    | true =>
      simp only [cvC, Option.bind_eq_bind, Option.bind_eq_some_iff, Option.pure_def, Option.some.injEq] at hcv
      obtain ⟨l, hl, rfl⟩ := hcv
      simp only [exec] at h
      split at h
      · rename_i s1 hx
        simp only [Option.some.injEq, Prod.mk.injEq] at h
        obtain ⟨rfl, rfl⟩ := h
        exact hD N ops l hl (by simpa [okC] using hok) s s1 hx ρ a w hs id
      · cases h
  | seq y z ihy ihz =>
    intro cc hcv hok s x s' h ρ a w hs
    obtain ⟨ya, za, h1, h2, rfl⟩ := cvC_seq hcv
    simp only [okC, Bool.and_eq_true] at hok
    refine wp_seq ?_
    simp only [exec] at h
    split at h
    · rename_i s1 hx
      refine wp_mono (ihy ya h1 hok.1 s .normal s1 hx ρ a w hs) fun e a' w' hp => ?_
      obtain ⟨hx', hr⟩ := hp
      cases hx'
      obtain ⟨ρ', g1, g2, g3, g4⟩ := hr.ex
      exact wp_mono (ihz za h2 hok.2 s1 x s' h ρ' a' w' g3) fun e a'' w'' hp => .trans g1 g2 g4 hp
    · rename_i hne
      have hne' : x ≠ .normal := fun e => hne s' (by rw [h, e])
      refine wp_mono (ihy ya h1 hok.1 s x s' h ρ a w hs) fun e a' w' hp => ?_
      have hx' := hp.1
      cases hx' with
      | normal => exact absurd rfl hne'
      | exit i => exact hp
      | ret => exact hp
  | cond c y z ihy ihz =>
    intro cc hcv hok s x s' h ρ a w hs
    simp only [cvC, Option.bind_eq_bind, Option.bind_eq_some_iff, Option.pure_def, Option.some.injEq] at hcv
    obtain ⟨cx, h0, ya, h1, za, h2, rfl⟩ := hcv
    simp only [okC, Bool.and_eq_true] at hok
    have hv := XR1.of hs.tm c cx h0
    simp only [exec] at h
    split at h
    · rename_i hb
      rw [hb] at hv
      generalize ec : a.eval c = c' at hv
      cases hv
      exact wp_cond_true ec (ihy ya h1 hok.1 s x s' h ρ a w hs)
    · rename_i hb
      rw [hb] at hv
      generalize ec : a.eval c = c' at hv
      cases hv
      exact wp_cond_false ec (ihz za h2 hok.2 s x s' h ρ a w hs)
    · cases h
  | block id b ih =>
    intro cc hcv hok s x s' h ρ a w hs
    simp only [cvC, Option.bind_eq_bind, Option.bind_eq_some_iff, Option.pure_def, Option.some.injEq] at hcv
    obtain ⟨ba, h1, rfl⟩ := hcv
    simp only [okC] at hok
    refine wp_block ?_
    simp only [exec] at h
    split at h
    · rename_i i s1 hx
      refine wp_mono (ih ba h1 hok s (.exit i) s1 hx ρ a w hs) fun e a' w' hp => ?_
      obtain ⟨hx', hr⟩ := hp
      cases hx'
      simp only [Exit.inBlock]
      by_cases hi : Nat.beq i id = true
      · rw [if_pos hi] at h
        simp only [Option.some.injEq, Prod.mk.injEq] at h
        obtain ⟨rfl, rfl⟩ := h
        rw [if_pos (Nat.eq_of_beq_eq_true hi)]
        exact ⟨.normal, hr⟩
      · rw [if_neg hi] at h
        simp only [Option.some.injEq, Prod.mk.injEq] at h
        obtain ⟨rfl, rfl⟩ := h
        have : ¬ i = id := fun e => hi (by rw [e]; exact Nat.beq_refl id)
        rw [if_neg this]
        exact ⟨.exit i, hr⟩
    · rename_i hne
      refine wp_mono (ih ba h1 hok s x s' h ρ a w hs) fun e a' w' hp => ?_
      have hx' := hp.1
      cases hx' with
      | normal => exact hp
      | exit i => exact absurd h (hne i s')
      | ret => exact hp
  | loop b ih =>
    intro cc hcv hok s x s' h ρ a w hs
    simp only [cvC, Option.bind_eq_bind, Option.bind_eq_some_iff, Option.pure_def, Option.some.injEq] at hcv
    obtain ⟨ba, h1, rfl⟩ := hcv
    have hok' : okC N ba = true := by simpa [okC] using hok
    simp only [exec] at h
    refine wp_loop_n (J := fun m a1 w1 => ∃ s1 ρ1, loopN (exec call lf ba) m s1 = some (x, s') ∧ ρ.le ρ1 ∧ ρ.newer ρ1 w ∧ Fr ρ w w1 ∧ SR N ρ1 s1 a1 w1) (n := lf)
      ⟨s, ρ, h, ρ.le_refl, ρ.newer_refl w, Fr.refl ρ w, hs⟩ ?_
    intro m a1 w1 ⟨s1, ρ1, hx1, g1, g2, g3, g4⟩
    cases m with
    | zero => simp [loopN] at hx1
    | succ m =>
      have ihm := ih ba h1 hok'
      simp only [loopN] at hx1
      split at hx1
      · rename_i s2 hx2
        refine wp_mono (ihm s1 .normal s2 hx2 ρ1 a1 w1 g4) fun e a2 w2 hp => ?_
        obtain ⟨hx', hr⟩ := hp
        cases hx'
        obtain ⟨ρ2, q1, q2, q3, q4⟩ := hr.ex
        exact ⟨m, Nat.lt_succ_self m, s2, ρ2, hx1, Ren.le_trans g1 q1, Ren.newer_trans g2 g3.size q2, g3.trans g2 q4, q3⟩
      · rename_i hne
        have hne' : x ≠ .normal := fun e => hne s' (by rw [hx1, e])
        refine wp_mono (ihm s1 x s' hx1 ρ1 a1 w1 g4) fun e a2 w2 hp => ?_
        have hp := PostC.trans g1 g2 g3 hp
        have hx' := hp.1
        cases hx' with
        | normal => exact absurd rfl hne'
        | exit i => exact hp
        | ret => exact hp
  | _ => intro cc hcv; simp [cvC] at hcv
end Go.Ex
namespace Go.Ex
open Go
variable {P : Program}
theorem load_var {ρ : Ren} {H : Heap} {w : World} {t : TypeId} {d : TypeDesc} {n r v o c : Nat} {B : Blk} {a : AV} (hd : P.underlying t = some d) (h : WR ρ H w)
    (hB : ρ r v = some B) (hc : (c : Int) = o + B.s) (hn : n = if isAggT P t then P.cellsOf t else 1) (hl : ldVar H (isAggT P t) n r v o = some a) :
    ∃ v', (loadVar t ⟨B.b, c, none⟩).run P w = .ok v' w ∧ VR ρ a v' := by
  unfold ldVar at hl
  cases e : ldC H r v o n with
  | none => simp [e] at hl
  | some l =>
    simp only [e] at hl
    obtain ⟨xs, h1, h2⟩ := ldC_run (P := P) h e hB hc
    by_cases ha : isAggT P t = true
    · simp only [ha, if_true, Option.some.injEq] at hl hn
      subst hl
      refine ⟨.agg xs.toArray, ?_, .agg (by simpa using h2)⟩
      simp only [loadVar, Sem.run_bind, Sem.run_pure, Result.andThen_ok, run_isAgg hd, ha, if_true, run_size' hd]
      rw [← hn, h1]; rfl
    · simp only [ha] at hl hn
      simp only [Bool.false_eq_true, if_false] at hl hn
      subst hn
      split at hl
      · rename_i y
        cases hl
        cases h2 with
        | cons hv ht =>
          cases ht
          rename_i z
          refine ⟨z, ?_, hv⟩
          simp only [loadVar, Sem.run_bind, Sem.run_pure, Result.andThen_ok, run_isAgg hd, ha, Bool.false_eq_true, if_false]
          simp only [loadCells, loadCellsFrom, Sem.run_bind, add_none, Nat.add_zero, Sem.run_pure] at h1
          cases e2 : (Go.load ⟨B.b, c, none⟩).run P w with
          | ok a w2 => rw [e2] at h1; simp at h1; rw [h1.1, h1.2]
          | halt a w2 => rw [e2] at h1; simp at h1
      · cases hl
def resF (tmps : Array Value) (r : ResultVar) : Sem Value :=
  match r with
  | .tmp t => pure (tmps.getD t undef)
  | .cell a t => do loadVar t (← asAddr (tmps.getD a undef))
theorem results_eq (fn : Func) (tmps : Array Value) : results fn tmps = (do
    let vs ← fn.results.mapM (resF tmps)
    pure (if h : vs.size = 1 then vs[0] else .tuple vs)) := rfl
theorem results_list {ρ : Ren} {h : Heap} {w : World} {tm : Tm} {tmps : Array Value} (hw : WR ρ h w) (ht : TR ρ tm tmps) : ∀ (rs : List ResultVar) (crs : List CR) (l : List AV),
    cvRes P rs = some crs → resOf h tm crs = some l → ∃ vs, (rs.mapM (resF tmps)).run P w = .ok vs w ∧ VRs ρ l vs
  | [], crs, l, h1, h2 => by
    simp only [cvRes, Option.some.injEq] at h1; subst h1
    simp only [resOf, Option.some.injEq] at h2; subst h2
    exact ⟨[], rfl, .nil⟩
  | .tmp t :: rs, crs, l, h1, h2 => by
    simp only [cvRes] at h1
    split at h1
    · rename_i crs' e1
      simp only [Option.some.injEq] at h1; subst h1
      simp only [resOf] at h2
      split at h2
      · rename_i l' e2
        simp only [Option.some.injEq] at h2; subst h2
        obtain ⟨vs, g1, g2⟩ := results_list hw ht rs crs' l' e1 e2
        refine ⟨tmps.getD t undef :: vs, ?_, .cons (ht t) g2⟩
        have e3 : (resF tmps (.tmp t)).run P w = .ok (tmps.getD t undef) w := rfl
        rw [List.mapM_cons, Sem.run_bind, e3, Result.andThen_ok, Sem.run_bind, g1]; rfl
      · cases h2
    · cases h1
  | .cell a t :: rs, crs, l, h1, h2 => by
    simp only [cvRes] at h1
    split at h1
    · cases h1
    · rename_i hu
      obtain ⟨d, hd⟩ := isNone_false hu
      split at h1
      · rename_i crs' e1
        simp only [Option.some.injEq] at h1; subst h1
        simp only [resOf] at h2
        split at h2
        · rename_i r v o ep
          split at h2
          · rename_i x l' e3 e2
            simp only [Option.some.injEq] at h2; subst h2
            obtain ⟨vs, g1, g2⟩ := results_list hw ht rs crs' l' e1 e2
            have hp := ht a
            rw [ep] at hp
            generalize eq : tmps.getD a undef = q at hp
            cases hp with
            | ptr hB hc =>
              obtain ⟨v', q1, q2⟩ := load_var (P := P) hd hw hB hc rfl e3
              refine ⟨v' :: vs, ?_, .cons q2 g2⟩
              have e4 : (resF tmps (.cell a t)).run P w = .ok v' w := by
                show Sem.run P (do loadVar t (← asAddr (tmps.getD a undef))) w = _
                rw [eq]
                exact q1
              rw [List.mapM_cons, Sem.run_bind, e4, Result.andThen_ok, Sem.run_bind, g1]; rfl
          · cases h2
        · cases h2
      · cases h1
theorem results_ok {ρ : Ren} {h : Heap} {w : World} {tm : Tm} {tmps : Array Value} {fn : Func} {crs : List CR} {l : List AV} (hw : WR ρ h w) (ht : TR ρ tm tmps)
    (h1 : cvRes P fn.results.toList = some crs) (h2 : resOf h tm crs = some l) : ∃ v', (results fn tmps).run P w = .ok v' w ∧ VR ρ (resVal l) v' := by
  obtain ⟨vs, g1, g2⟩ := results_list hw ht _ _ _ h1 h2
  rw [results_eq]
  refine ⟨if h : vs.toArray.size = 1 then vs.toArray[0] else .tuple vs.toArray, ?_, ?_⟩
  · rw [Array.mapM_eq_mapM_toList, Sem.run_bind, Sem.run_map, g1]
    rfl
  · cases g2 with
    | nil => exact .tup .nil
    | cons hv t =>
      cases t with
      | nil => exact hv
      | cons hv2 t2 =>
        simp only [List.size_toArray, List.length_cons]
        rw [dif_neg (by omega)]
        exact .tup (by simpa using VRs.cons hv (.cons hv2 t2))
theorem argTm_ev : ∀ (as : List AV) (k : Nat) (t : Tm) (i : Nat), (CX.t i).ev (argTm as k t) = if k ≤ i ∧ i < k + as.length then as.getD (i - k) .undef else (CX.t i).ev t
  | [], k, t, i => by
    have : ¬ (k ≤ i ∧ i < k + 0) := by omega
    simp only [argTm, List.length_nil, this, if_false]
  | a :: as, k, t, i => by
    rw [argTm, argTm_ev as (k + 1), ev_set]
    simp only [List.length_cons]
    by_cases h1 : k + 1 ≤ i ∧ i < k + 1 + as.length
    · rw [if_pos h1, if_pos (by omega), show i - k = (i - (k + 1)) + 1 by omega, List.getD_cons_succ]
    · rw [if_neg h1]
      by_cases h2 : i = k
      · subst h2
        rw [if_pos rfl, if_pos (by omega), Nat.sub_self, List.getD_cons_zero]
      · rw [if_neg h2, if_neg (by omega)]
theorem start_ok {ρ : Ren} {h : Heap} {w : World} {args : List AV} {args' : Array Value} {n : Nat} (hw : WR ρ h w) (ha : VRs ρ args args'.toList) :
    SR n ρ { tm := argTm args 0 .leaf, h := h, df := [] } { tmps := args' ++ Array.replicate (n - args'.size) undef, defers := [] } w := by
  refine ⟨fun i => ?_, by simp; omega, hw, .nil⟩
  have hlen : args.length = args'.size := by simpa using ha.length
  simp only [argTm_ev, Nat.zero_le, true_and, Nat.zero_add, Nat.sub_zero, Array.getD_eq_getD_getElem?]
  by_cases hi : i < args.length
  · rw [if_pos hi]
    obtain ⟨v, h1, h2⟩ := ha.get i (args.getD i .undef) (by rw [List.getD_eq_getElem?_getD, List.getElem?_eq_getElem hi]; rfl)
    rw [Array.getElem?_append_left (by omega)]
    have : args'[i]? = some v := by simpa using h1
    rw [this]
    exact h2
  · rw [if_neg hi]
    have e1 : (CX.t i).ev (.leaf : Tm) = .undef := by simp [CX.ev, T.get_leaf]
    rw [e1, Array.getElem?_append_right (by omega)]
    by_cases h3 : i - args'.size < n - args'.size
    · rw [Array.getElem?_replicate, if_pos h3]; exact .undef ρ
    · rw [Array.getElem?_replicate, if_neg h3]; exact .undef ρ
theorem cvF_inv {fn : Func} {F : CF} (h : cvF P fn = some F) : ∃ b, fn.body = some b ∧ cvC P b = some F.body ∧ okC fn.ntmps F.body = true ∧ fn.name ≠ "runtime.NumGoroutine" ∧ cvRes P fn.results.toList = some F.res := by
  unfold cvF at h
  split at h
  · cases h
  · rename_i b hb
    split at h
    · cases h
    · rename_i body hbody
      split at h
      · rename_i hk
        simp only [Bool.and_eq_true, Bool.not_eq_true', beq_eq_false_iff_ne, ne_eq] at hk
        split at h
        · rename_i res hres
          simp only [Option.some.injEq] at h
          subst h
          exact ⟨b, hb, hbody, hk.1, hk.2, hres⟩
        · cases h
      · cases h
theorem nonexit {x : XR} (h : ∀ i, x ≠ .exit i) {e : Exit} (hx : XRel x e) : e = .normal ∨ e = .ret := by
  cases hx with
  | normal => exact .inl rfl
  | ret => exact .inr rfl
  | exit i => exact absurd rfl (h i)
theorem df_ok {E : Env} (hE : EOK P E) {call : CallF} {lf : Nat} (hO : OpS P call) (hD : DregS P call) : ∀ (ds : List AV) (h h2 : Heap), execDf E.fns call lf ds h = some h2 →
    ∀ (ρ : Ren) (w : World) (dl : List Deferred), WR ρ h w → DRs ρ ds dl → ∀ (fn : Func) (tmps : Array Value) (R : Ending → World → Prop),
    (∀ ρ' w', ρ.le ρ' → ρ.newer ρ' w → WR ρ' h2 w' → Fr ρ w w' → ∃ v, (results fn tmps).run P w' = .ok v w' ∧ R (.returned v) w') → Leaves P fn tmps R dl .returning w := by
  intro ds
  induction ds with
  | nil =>
    intro h h2 he ρ w dl hw hd fn tmps R hR
    cases hd
    simp only [execDf, Option.some.injEq] at he
    subst he
    exact hR ρ w ρ.le_refl (ρ.newer_refl w) hw (Fr.refl ρ w)
  | cons d0 l ih =>
    intro h h2 he ρ w dl hw hd fn tmps R hR
    cases hd with
    | cons ha hb ht =>
      rename_i f as bs as' bs' ds'
      simp only [execDf] at he
      split at he
      · cases he
      · rename_i F hF
        obtain ⟨fn', hfn', hcvF⟩ := hE.fns f F hF
        obtain ⟨b, hb1, hb2, hb3, hb4, hb5⟩ := cvF_inv hcvF
        split at he
        · cases he
        · rename_i x s hnx hx
          split at he
          · rename_i hdf
            split at he
            · rename_i lres hres
              have hok : CallOK P f := ⟨fn', hfn', hb4, by rw [hb1]; rfl⟩
              have hargs : VRs ρ (as ++ bs) (as' ++ bs').toList := by simpa using ha.append hb
              refine leaves_cons (f := f) (args := as' ++ bs') (by intro e; cases e) (run_callFunc hok) ?_
              have hwp := exec_wp hO hD b F.body hb2 hb3 _ x s hx ρ _ w (start_ok (n := fn'.ntmps) hw hargs)
              refine CallsD.mono (callsD_of_wp (R := fun e w' => ∃ v ρ', e = .returned v ∧ ρ.le ρ' ∧ ρ.newer ρ' w ∧ WR ρ' s.h w' ∧ Fr ρ w w') hfn' hb1 (wp_mono hwp fun e a' w' hp => ?_)) fun e u' w' he' => ?_
              · obtain ⟨hx', hr⟩ := hp
                obtain ⟨ρ', g1, g2, g3, g4⟩ := hr.ex
                have hde : a'.defers = [] := by
                  have := g3.df
                  rw [hdf] at this
                  cases hda : a'.defers with
                  | nil => rfl
                  | cons d dl => rw [hda] at this; cases this
                obtain ⟨v', r1, r2⟩ := results_ok (P := P) g3.wr g3.tm hb5 hres
                rcases nonexit (fun i e => hnx i e) hx' with rfl | rfl
                · exact ⟨hde, v', r1, v', ρ', rfl, g1, g2, g3.wr, g4⟩
                · exact ⟨hde, v', r1, v', ρ', rfl, g1, g2, g3.wr, g4⟩
              · obtain ⟨rfl, v, ρ', rfl, g1, g2, g3, g4⟩ := he'
                exact ih s.h h2 he ρ' w' ds' g3 (ht.mono g1) fn tmps R fun ρ'' w'' q1 q2 q3 q4 =>
                  hR ρ'' w'' (Ren.le_trans g1 q1) (Ren.newer_trans g2 g4.size q2) q3 (g4.trans g2 q4)
            · cases he
          · cases he
        · cases he
theorem callS {E : Env} (hE : EOK P E) {lf n : Nat} (hO : OpS P (callN E lf n)) (hD : DregS P (callN E lf n)) : CallS P (callN E lf (n + 1)) := by
  intro f args h v h' he
  simp only [callN] at he
  split at he
  · rename_i r hr
    simp only [Option.some.injEq] at he
    subst he
    exact hE.orc f args h v h' hr
  · split at he
    · cases he
    · rename_i F hF
      obtain ⟨fn, hfn, hcvF⟩ := hE.fns f F hF
      obtain ⟨b, hb1, hb2, hb3, hb4, hb5⟩ := cvF_inv hcvF
      split at he
      · cases he
      · rename_i x s hnx hx
        split at he
        · rename_i h2 hdf
          split at he
          · rename_i l hres
            simp only [Option.some.injEq, Prod.mk.injEq] at he
            obtain ⟨rfl, rfl⟩ := he
            refine ⟨⟨fn, hfn, hb4, by rw [hb1]; rfl⟩, fun ρ w args' hw ha => ?_⟩
            refine calls_of_wp_defers hfn hb1 (wp_mono (exec_wp hO hD b F.body hb2 hb3 _ x s hx ρ _ w (start_ok (n := fn.ntmps) hw ha)) fun e a' w' hp => ?_)
            obtain ⟨hx', hr⟩ := hp
            obtain ⟨ρ', g1, g2, g3, g4⟩ := hr.ex
            have hl : Leaves P fn a'.tmps (CallPost ρ w (resVal l) h2) a'.defers .returning w' :=
              df_ok hE hO hD s.df s.h h2 hdf ρ' w' a'.defers g3.wr g3.df fn a'.tmps _ fun ρ'' w'' q1 q2 q3 q4 => by
                obtain ⟨v', r1, r2⟩ := results_ok (P := P) q3 (g3.tm.mono q1) hb5 hres
                exact ⟨v', r1, v', ρ'', rfl, Ren.le_trans g1 q1, Ren.newer_trans g2 g4.size q2, r2, q3, g4.trans g2 q4⟩
            rcases nonexit (fun i e => hnx i e) hx' with rfl | rfl
            · exact hl
            · exact hl
          · cases he
        · cases he
      · cases he
theorem call_sound {E : Env} (hE : EOK P E) {lf : Nat} (hDreg : ∀ call, OpS P call → DregS P call) : ∀ n, CallS P (callN E lf n)
  | 0 => by intro f args h v h' he; simp [callN] at he
  | n + 1 => callS hE (opS (call_sound hE hDreg n)) (hDreg _ (opS (call_sound hE hDreg n)))
end Go.Ex
namespace Go.Ex
open Go
def Agree (tm tm' : Tm) (l : List CX) : Prop := ∀ x, x ∈ l → x.ev tm = x.ev tm'
theorem Agree.map {tm tm' : Tm} {l : List CX} (h : Agree tm tm' l) : l.map (·.ev tm) = l.map (·.ev tm') := List.map_congr_left h
theorem fill_congr {tm tm' : Tm} : ∀ (ps : List (Nat × Nat × CX)) (cs : List AV), Agree tm tm' (ps.map (·.2.2)) → fillParts tm cs ps = fillParts tm' cs ps
  | [], _, _ => rfl
  | (off, n, x) :: ps, cs, h => by
    have hx : x.ev tm = x.ev tm' := h x (by simp)
    have ih := fun cs => fill_congr ps cs fun y hy => h y (by simp only [List.map_cons, List.mem_cons]; exact .inr hy)
    simp only [fillParts, hx, ih]
theorem opt_congr {tm tm' : Tm} {o : Option CX} {d : Nat} (h : Agree tm tm' (oReads o)) : optIdx tm o d = optIdx tm' o d := by
  cases o with
  | none => rfl
  | some x => simp only [optIdx]; rw [h x (by simp [oReads])]
theorem slice_congr {tm tm' : Tm} {n r v o len capk : Nat} {lo hi mx : Option CX} {mk : Nat → Nat → Nat → Nat → AV} (h1 : Agree tm tm' (oReads lo)) (h2 : Agree tm tm' (oReads hi)) (h3 : Agree tm tm' (oReads mx)) :
    sliceIt n r v o len capk tm lo hi mx mk = sliceIt n r v o len capk tm' lo hi mx mk := by
  unfold sliceIt
  rw [opt_congr h1, opt_congr h2]
  cases mx with
  | none => cases optIdx tm' lo 0 <;> cases optIdx tm' hi len <;> rfl
  | some m =>
    have e := h3 m (by simp [oReads])
    cases optIdx tm' lo 0 <;> cases optIdx tm' hi len <;> first | rfl | simp only [e]
theorem xcall_congr {k : XK} {as : List CX} {tm tm' : Tm} {h : Heap} (hr : Agree tm tm' as) : sXcall k as tm h = sXcall k as tm' h := by
  unfold sXcall
  cases k <;> (rcases as with _ | ⟨x, _ | ⟨y, _ | ⟨z, l⟩⟩⟩ <;> first | rfl | (simp only [hr x (by simp), hr y (by simp)]))
theorem stepOp_congr {tm tm' : Tm} {h : Heap} {co : COp} (hr : Agree tm tm' co.reads) : stepOp tm h co = stepOp tm' h co := by
  cases co
  case xcall k as => exact xcall_congr hr
  case build z ps => simp only [stepOp, sBuild, fill_congr ps _ hr]
  case bslice n z l ps => simp only [stepOp, sBslice, fill_congr ps _ hr]
  case mkfn f a b =>
    have h1 : Agree tm tm' a := fun x hx => hr x (by simp [COp.reads, hx])
    have h2 : Agree tm tm' b := fun x hx => hr x (by simp [COp.reads, hx])
    simp only [stepOp, sMkfn, h1.map, h2.map]
  case mx as => have h1 : Agree tm tm' as := hr; simp only [stepOp, sMx, h1.map]
  case mn as => have h1 : Agree tm tm' as := hr; simp only [stepOp, sMn, h1.map]
  case slstr x lo hi =>
    have h0 : x.ev tm = x.ev tm' := hr x (by simp [COp.reads])
    have h1 : Agree tm tm' (oReads lo) := fun y hy => hr y (by simp [COp.reads, hy])
    have h2 : Agree tm tm' (oReads hi) := fun y hy => hr y (by simp [COp.reads, hy])
    simp only [stepOp, sSlstr, h0, opt_congr h1, opt_congr h2]
  case slsl n x lo hi mx =>
    have h0 : x.ev tm = x.ev tm' := hr x (by simp [COp.reads])
    have h1 : Agree tm tm' (oReads lo) := fun y hy => hr y (by simp [COp.reads, hy])
    have h2 : Agree tm tm' (oReads hi) := fun y hy => hr y (by simp [COp.reads, hy])
    have h3 : Agree tm tm' (oReads mx) := fun y hy => hr y (by simp [COp.reads, hy])
    simp only [stepOp, sSlsl, h0, opt_congr h1, opt_congr h2, slice_congr h1 h2 h3]
    cases x.ev tm' <;> try rfl
    cases mx with
    | none => rcases optIdx tm' lo 0 with _ | (_ | l) <;> rcases optIdx tm' hi 0 with _ | (_ | l') <;> rfl
    | some m =>
      have e := h3 m (by simp [oReads])
      rcases optIdx tm' lo 0 with _ | (_ | l) <;> rcases optIdx tm' hi 0 with _ | (_ | l') <;> first | rfl | simp only [e]
  case slarr len n x lo hi mx =>
    have h0 : x.ev tm = x.ev tm' := hr x (by simp [COp.reads])
    have h1 : Agree tm tm' (oReads lo) := fun y hy => hr y (by simp [COp.reads, hy])
    have h2 : Agree tm tm' (oReads hi) := fun y hy => hr y (by simp [COp.reads, hy])
    have h3 : Agree tm tm' (oReads mx) := fun y hy => hr y (by simp [COp.reads, hy])
    simp only [stepOp, sSlarr, h0, slice_congr h1 h2 h3]
  case next str x =>
    have h0 : x.ev tm = x.ev tm' := hr x (by simp [COp.reads])
    cases str <;> simp only [stepOp, sNext, h0]
  case call | callv | defer | bad | alloc | mkmap => rfl
  case pick c a b =>
    have h0 : c.ev tm = c.ev tm' := hr c (by simp [COp.reads])
    have h1 : a.ev tm = a.ev tm' := hr a (by simp [COp.reads])
    have h2 : b.ev tm = b.ev tm' := hr b (by simp [COp.reads])
    simp only [stepOp, sPick, h0, h1, h2]
  case mapupd kn m k v =>
    have h0 : m.ev tm = m.ev tm' := hr m (by simp [COp.reads])
    have h1 : k.ev tm = k.ev tm' := hr k (by simp [COp.reads])
    have h2 : v.ev tm = v.ev tm' := hr v (by simp [COp.reads])
    simp only [stepOp, sMapupd, h0, h1, h2]
  case entst m s v =>
    have h0 : m.ev tm = m.ev tm' := hr m (by simp [COp.reads])
    have h1 : s.ev tm = s.ev tm' := hr s (by simp [COp.reads])
    have h2 : v.ev tm = v.ev tm' := hr v (by simp [COp.reads])
    simp only [stepOp, sEntst, h0, h1, h2]
  case store n x v =>
    have h0 : x.ev tm = x.ev tm' := hr x (by simp [COp.reads])
    have h1 : v.ev tm = v.ev tm' := hr v (by simp [COp.reads])
    simp only [stepOp, sStore, h0, h1]
  case bin op ek cst x y =>
    have h0 : x.ev tm = x.ev tm' := hr x (by simp [COp.reads])
    have h1 : y.ev tm = y.ev tm' := hr y (by simp [COp.reads])
    simp only [stepOp, sBin, h0, h1]
  case mkslice by' z l c =>
    have h0 : l.ev tm = l.ev tm' := hr l (by simp [COp.reads])
    have h1 : c.ev tm = c.ev tm' := hr c (by simp [COp.reads])
    simp only [stepOp, sMkslice, h0, h1]
  case idxa len n x i =>
    have h0 : x.ev tm = x.ev tm' := hr x (by simp [COp.reads])
    have h1 : i.ev tm = i.ev tm' := hr i (by simp [COp.reads])
    simp only [stepOp, sIdxa, h0, h1]
  case idxs n x i =>
    have h0 : x.ev tm = x.ev tm' := hr x (by simp [COp.reads])
    have h1 : i.ev tm = i.ev tm' := hr i (by simp [COp.reads])
    simp only [stepOp, sIdxs, h0, h1]
  case ixv ag len n x i =>
    have h0 : x.ev tm = x.ev tm' := hr x (by simp [COp.reads])
    have h1 : i.ev tm = i.ev tm' := hr i (by simp [COp.reads])
    simp only [stepOp, sIxv, h0, h1]
  case ixs x i =>
    have h0 : x.ev tm = x.ev tm' := hr x (by simp [COp.reads])
    have h1 : i.ev tm = i.ev tm' := hr i (by simp [COp.reads])
    simp only [stepOp, sIxs, h0, h1]
  case lookup kn z ok x i =>
    have h0 : x.ev tm = x.ev tm' := hr x (by simp [COp.reads])
    have h1 : i.ev tm = i.ev tm' := hr i (by simp [COp.reads])
    simp only [stepOp, sLookup, h0, h1]
  case mapent kn z m k =>
    have h0 : m.ev tm = m.ev tm' := hr m (by simp [COp.reads])
    have h1 : k.ev tm = k.ev tm' := hr k (by simp [COp.reads])
    simp only [stepOp, sMapent, h0, h1]
  case append n b x y =>
    have h0 : x.ev tm = x.ev tm' := hr x (by simp [COp.reads])
    have h1 : y.ev tm = y.ev tm' := hr y (by simp [COp.reads])
    simp only [stepOp, sAppend, h0, h1]
  case copy n x y =>
    have h0 : x.ev tm = x.ev tm' := hr x (by simp [COp.reads])
    have h1 : y.ev tm = y.ev tm' := hr y (by simp [COp.reads])
    simp only [stepOp, sCopy, h0, h1]
  case delete kn m k =>
    have h0 : m.ev tm = m.ev tm' := hr m (by simp [COp.reads])
    have h1 : k.ev tm = k.ev tm' := hr k (by simp [COp.reads])
    simp only [stepOp, sDelete, h0, h1]
  case clears n z x =>
    have h0 : x.ev tm = x.ev tm' := hr x (by simp [COp.reads])
    simp only [stepOp, sClears, h0]
  case ext x i =>
    have h0 : x.ev tm = x.ev tm' := hr x (by simp [COp.reads])
    simp only [stepOp, sExt, h0]
  all_goals
    rename_i x
    first
      | (have h0 : x.ev tm = x.ev tm' := hr x (by simp [COp.reads]); simp only [stepOp, sMove, sLoad, sNilchk, sUn, sI2i, sS2b, sB2s, sSame, sMkif, sFld, sFldv, sRngm, sRngs, sEntry, sExt, sLen, sClearm, sCap, sBox, h0]; done)
theorem execOp1_congr {call : CallF} {co : COp} {s s' : St} {tm' : Tm} {v : AV} (hr : Agree s.tm tm' co.reads) (h : execOp1 call co s = some (v, s')) :
    execOp1 call co { s with tm := tm' } = some (v, { s' with tm := tm' }) := by
  · by_cases hc : callOp co = true
    · cases co <;> try (cases hc; done)
      case bad => simp [execOp1, stepOp] at h
      case call f as =>
        have h1 : Agree s.tm tm' as := hr
        simp only [execOp1, h1.map] at h ⊢
        split at h
        · rename_i v1 h1 hx
          simp only [Option.some.injEq, Prod.mk.injEq] at h
          obtain ⟨rfl, rfl⟩ := h
          first | rfl | simp only [hx]
        · cases h
      case callv x as =>
        have h0 : x.ev s.tm = x.ev tm' := hr x (by simp [COp.reads])
        have h1 : Agree s.tm tm' as := fun y hy => hr y (by simp [COp.reads, hy])
        simp only [execOp1, h1.map, h0] at h ⊢
        split at h
        · rename_i f a b e
          try simp only [e]
          split at h
          · rename_i v1 h1 hx
            simp only [Option.some.injEq, Prod.mk.injEq] at h
            obtain ⟨rfl, rfl⟩ := h
            first | rfl | (simp only [hx]; done) | simp only [e, hx]
          · cases h
        · cases h
      case defer x =>
        have h0 : x.ev s.tm = x.ev tm' := hr x (by simp [COp.reads])
        simp only [execOp1, h0] at h ⊢
        split at h
        · rename_i f a b e
          simp only [Option.some.injEq, Prod.mk.injEq] at h
          obtain ⟨rfl, rfl⟩ := h
          first | rfl | simp only [e]
        · cases h
    · have hc : callOp co = false := by simpa using hc
      obtain ⟨h', h1, rfl⟩ := stepOp_ok hc h
      rw [stepOp_congr hr] at h1
      cases co <;> first | (cases hc; done) | (simp only [execOp1]; rw [h1])
theorem stillO {α : Type} {o : Option α} {f : α → AV} {h h' : Heap} {v : AV} (e : (match o with
    | some a => some (f a, h)
    | none => none) = some (v, h')) : h' = h := by
  cases o with
  | none => cases e
  | some a => simp only [Option.some.injEq, Prod.mk.injEq] at e; exact e.2.symm
theorem still_heap {tm : Tm} {h h' : Heap} {co : COp} {v : AV} (hc : co.still = true) (e : stepOp tm h co = some (v, h')) : h' = h := by
  cases co <;> try (cases hc; done)
  all_goals simp only [stepOp, sMove, sPick, sBuild, sLoad, sNilchk, sBin, sUn, sI2i, sB2s, sSame, sMkif, sMkfn, sSlstr, sSlsl, sSlarr, sFld, sFldv, sIdxa, sIdxs, sIxv, sIxs, sLookup, sEntry, sExt, sLen, sMx, sMn, sCap] at e
  all_goals repeat' (first | (cases e; done) | (cases e; rfl) | split at e)
theorem blind_heap {tm : Tm} {h h' h2 : Heap} {co : COp} {v : AV} (hc : co.blind = true) (e : stepOp tm h co = some (v, h')) : stepOp tm h2 co = some (v, h2) := by
  cases co <;> try (cases hc; done)
  case len k x =>
    cases k <;> try (cases hc; done)
    all_goals simp only [stepOp, sLen] at e ⊢
    all_goals (generalize x.ev tm = a at e ⊢; cases a <;> first | (cases e; done) | (cases e; rfl))
  all_goals simp only [stepOp, sMove, sPick, sBuild, sNilchk, sBin, sUn, sI2i, sSame, sMkif, sMkfn, sSlstr, sSlsl, sFld, sFldv, sIdxa, sIdxs, sIxv, sIxs, sExt, sMx, sMn, sCap] at e ⊢
  all_goals repeat' (first | (cases e; done) | (cases e; rfl) | (cases e; simp only [*]; done) | (cases e; simp_all; done) | split at e)
mutual
theorem AV.beq_eq : ∀ (a b : AV), AV.beq a b = true → a = b
  | .bool a, b, h => by cases b <;> simp_all [AV.beq]
  | .int k a, b, h => by cases b <;> simp_all [AV.beq]
  | .str a, b, h => by cases b <;> simp_all [AV.beq]
  | .ptr r v o, b, h => by
    cases b <;> simp [AV.beq] at h
    obtain ⟨⟨h1, h2⟩, h3⟩ := h
    subst h1; subst h2; subst h3; rfl
  | .nilp, b, h => by cases b <;> simp_all [AV.beq]
  | .slice r v o n c e, b, h => by
    cases b <;> simp [AV.beq] at h
    obtain ⟨⟨⟨⟨⟨h1, h2⟩, h3⟩, h4⟩, h5⟩, h6⟩ := h
    subst h1; subst h2; subst h3; subst h4; subst h5; subst h6; rfl
  | .nils, b, h => by cases b <;> simp_all [AV.beq]
  | .opq u n k, b, h => by
    cases b <;> simp [AV.beq] at h
    obtain ⟨⟨h1, h2⟩, h3⟩ := h
    subst h1; subst h2; subst h3; rfl
  | .map r, b, h => by
    cases b <;> simp [AV.beq] at h
    subst h; rfl
  | .nilm, b, h => by cases b <;> simp_all [AV.beq]
  | .func f x y, b, h => by
    cases b <;> simp [AV.beq] at h
    obtain ⟨⟨h1, h2⟩, h3⟩ := h
    rw [h1, AV.beqs_eq _ _ h2, AV.beqs_eq _ _ h3]
  | .nilf, b, h => by cases b <;> simp_all [AV.beq]
  | .iface t v, b, h => by
    cases b <;> simp [AV.beq] at h
    rw [h.1, AV.beq_eq _ _ h.2]
  | .nili, b, h => by cases b <;> simp_all [AV.beq]
  | .agg x, b, h => by
    cases b <;> simp [AV.beq] at h
    rw [AV.beqs_eq _ _ h]
  | .tup x, b, h => by
    cases b <;> simp [AV.beq] at h
    rw [AV.beqs_eq _ _ h]
theorem AV.beqs_eq : ∀ (a b : List AV), AV.beqs a b = true → a = b
  | [], b, h => by cases b <;> simp_all [AV.beqs]
  | a :: l, b, h => by
    cases b with
    | nil => simp [AV.beqs] at h
    | cons b l' =>
      simp [AV.beqs] at h
      rw [AV.beq_eq _ _ h.1, AV.beqs_eq _ _ h.2]
end
end Go.Ex
namespace Go.Ex
open Go
variable {P : Program}
structure DK (R : Reg) : Prop where
  posLt : ∀ i, i < R.n → R.pos i < R.n
  atPos : ∀ i, i < R.n → R.opAt (R.pos i) = i
  atLt : ∀ q, q < R.n → R.opAt q < R.n
  posAt : ∀ q, q < R.n → R.pos (R.opAt q) = q
  edges : ∀ i, i < R.n → ∀ e, e ∈ R.aft i → Region.binds .any e = true → e.on < R.n ∧ R.pos e.on < R.pos i
  ebit : ∀ i, i < R.n → ∀ e, e ∈ R.aft i → Region.binds .any e = true → R.bit i e.on = true
  cert : ∀ i j, i < R.n → j < R.n → R.bit i j = true → ∃ e, e ∈ R.aft i ∧ Region.binds .any e = true ∧ (e.on = j ∨ R.bit e.on j = true)
  dsts : ∀ i j, i < R.n → j < R.n → i ≠ j → ∀ d, (R.ci i).dst = some d → (R.ci j).dst ≠ some d
  reads : ∀ i j, i < R.n → j < R.n → R.bit i j = false → ∀ d, (R.ci j).dst = some d → (R.ci i).gr d = false ∧ ((R.opReads i d = false ∧ (R.ci i).opr d = false) ∨ (R.bit j i = true ∧ (R.ci i).op.strict = false))
  order : ∀ i j, i < R.n → j < R.n → (R.ci i).op.pend = false → (R.ci i).op.fl = false → (R.ci j).op.still = false → R.pos j < R.pos i → R.bit i j = true ∨ (R.swap i j = true ∧ ∀ k, k < R.n → R.swap k i = false ∧ R.swap j k = false)
  trans : ∀ i j k, i < R.n → j < R.n → R.bit i j = true → R.bit j k = true → R.bit i k = true
  pends : ∀ i j, i < R.n → j < R.n → R.bit i j = true → (R.ci i).op.pend = true → (R.ci j).op.pend = true → ∃ k, k < R.n ∧ (R.ci k).op.still = false ∧ (R.ci k).op.pend = false ∧ R.bit i k = true ∧ R.bit k j = true
theorem blt_iff {a b : Nat} : Nat.blt a b = true ↔ a < b := by simp
theorem DK.of {R : Reg} (h : R.ok = true) : DK R := by
  unfold Reg.ok at h
  simp only [Bool.and_eq_true, List.all_eq_true, List.mem_range] at h
  obtain ⟨hc, ha⟩ := h
  have h1 : ∀ i, i < R.n → R.oneOK i = true := fun i hi => (ha i hi).1
  have h2 : ∀ i j, i < R.n → j < R.n → R.pairOK i j = true := fun i j hi hj => (ha i hi).2 j hj
  unfold Reg.oneOK at h1
  unfold Reg.pairOK at h2
  simp only [Bool.and_eq_true, blt_iff, Bool.or_eq_true, Bool.not_eq_true', List.all_eq_true] at h1
  simp only [Bool.and_eq_true, Bool.or_eq_true, Bool.not_eq_true'] at h2
  refine ⟨fun i hi => (h1 i hi).1.1.1.1, fun i hi => Nat.eq_of_beq_eq_true (h1 i hi).1.1.1.2, fun i hi => (h1 i hi).1.1.2, fun i hi => Nat.eq_of_beq_eq_true (h1 i hi).1.2,
    fun i hi e he hb => ?_, fun i hi e he hb => ?_, fun i j hi hj hb => ?_, fun i j hi hj hne d hd hd' => ?_, fun i j hi hj hb d hd => ?_, fun i j hi hj g1 g2 g3 g4 => ?_, fun i j k hi hj hb hb2 => ?_, fun i j hi hj hb q1 q2 => ?_⟩
  · rcases (h1 i hi).2 e he with h | h
    · rw [hb] at h; cases h
    · exact h.1
  · rcases (h1 i hi).2 e he with h | h
    · rw [hb] at h; cases h
    · exact h.2
  · rcases (h2 i j hi hj).1.1.1.1 with h | h
    · rw [hb] at h; cases h
    · simp only [List.any_eq_true, Bool.and_eq_true, Bool.or_eq_true] at h
      obtain ⟨e, he, h3, h4⟩ := h
      exact ⟨e, he, h3, h4.imp (fun q => Nat.eq_of_beq_eq_true q) id⟩
  · rcases (h2 i j hi hj).1.1.1.2 with h | h
    · exact hne (Nat.eq_of_beq_eq_true h)
    · rw [hd, hd'] at h
      simp at h
  · rcases (h2 i j hi hj).1.1.2 with h | h
    · rw [hb] at h; cases h
    · rw [hd] at h
      simp only [Bool.and_eq_true, Bool.not_eq_true', Bool.or_eq_true] at h
      exact h
  · rcases (h2 i j hi hj).1.2 with ((((h | h) | h) | h) | h) | h
    · rw [g1] at h; cases h
    · rw [g2] at h; cases h
    · rw [g3] at h; cases h
    · have : Nat.blt (R.pos j) (R.pos i) = true := blt_iff.2 g4
      rw [this] at h; cases h
    · exact .inl h
    · simp only [List.all_eq_true, List.mem_range, Bool.and_eq_true, Bool.not_eq_true'] at h
      exact .inr h
  · rcases (h2 i j hi hj).2 with h | h
    · rw [hb] at h; cases h
    · have h := Nat.eq_of_beq_eq_true h.1
      unfold Reg.bit at hb2 ⊢
      rw [← h, Nat.testBit_or, hb2, Bool.or_true]
  · rcases (h2 i j hi hj).2 with h | h
    · rw [hb] at h; cases h
    · rcases h.2 with (h | h) | h
      · rw [q1] at h; cases h
      · rw [q2] at h; cases h
      · simp only [List.any_eq_true, List.mem_range, Bool.and_eq_true, Bool.not_eq_true'] at h
        obtain ⟨k, h3, ⟨⟨h4, h5⟩, h6⟩, h7⟩ := h
        exact ⟨k, h3, h4, h5, h6, h7⟩
theorem DK.posInj {R : Reg} (K : DK R) {i j : Nat} (hi : i < R.n) (hj : j < R.n) (h : R.pos i = R.pos j) : i = j := by
  rw [← K.atPos i hi, h, K.atPos j hj]
theorem DK.bitPos {R : Reg} (K : DK R) : ∀ (k i j : Nat), R.pos i = k → i < R.n → j < R.n → R.bit i j = true → R.pos j < R.pos i := by
  intro k
  induction k using Nat.strongRecOn with
  | _ k ih =>
    intro i j hk hi hj hb
    obtain ⟨e, he, h1, h2⟩ := K.cert i j hi hj hb
    obtain ⟨h3, h4⟩ := K.edges i hi e he h1
    rcases h2 with rfl | h2
    · exact h4
    · have := ih (R.pos e.on) (by omega) e.on j rfl h3 hj h2
      omega
def Closed (R : Reg) (L : Nat → Prop) : Prop := ∀ i, i < R.n → L i → ∀ e, e ∈ R.aft i → Region.binds .any e = true → L e.on
theorem DK.bitClosed {R : Reg} (K : DK R) {L : Nat → Prop} (hL : Closed R L) : ∀ (k i j : Nat), R.pos i = k → i < R.n → j < R.n → (∀ e, e ∈ R.aft i → Region.binds .any e = true → L e.on) → R.bit i j = true → L j := by
  intro k
  induction k using Nat.strongRecOn with
  | _ k ih =>
    intro i j hk hi hj hr hb
    obtain ⟨e, he, h1, h2⟩ := K.cert i j hi hj hb
    obtain ⟨h3, h4⟩ := K.edges i hi e he h1
    rcases h2 with rfl | h2
    · exact hr e he h1
    · exact ih (R.pos e.on) (by omega) e.on j rfl h3 hj (hL e.on h3 (hr e he h1)) h2
def StepD (call : CallF) (c : CI) (chk : List Chk) (s s1 : St) : Prop :=
  (wanted s.tm c.guard = true ∧ ∃ v s2, execOp1 call c.op s = some (v, s2) ∧ s1 = { s2 with tm := setDst s2.tm c.dst v } ∧ recheck s1.tm s1.h chk = true) ∨
  (wanted s.tm c.guard = false ∧ s1 = { s with tm := setDst s.tm c.dst .undef })
theorem execD_states {call : CallF} : ∀ (l : List (CI × List Chk)) (s s' : St), execD call l s = some s' →
    ∃ S : Nat → St, S 0 = s ∧ S l.length = s' ∧ ∀ q c chk, l[q]? = some (c, chk) → StepD call c chk (S q) (S (q + 1)) := by
  intro l
  induction l with
  | nil =>
    intro s s' h
    simp only [execD, Option.some.injEq] at h
    subst h
    exact ⟨fun _ => s, rfl, rfl, fun q c chk hq => by simp at hq⟩
  | cons p l ih =>
    intro s s' h
    obtain ⟨c, chk⟩ := p
    have key : ∀ s1, execD call l s1 = some s' → StepD call c chk s s1 → ∃ S : Nat → St, S 0 = s ∧ S ((c, chk) :: l).length = s' ∧ ∀ q c' chk', ((c, chk) :: l)[q]? = some (c', chk') → StepD call c' chk' (S q) (S (q + 1)) := by
      intro s1 h1 hst
      obtain ⟨S, e1, e2, e3⟩ := ih s1 s' h1
      refine ⟨fun q => match q with
        | 0 => s
        | q + 1 => S q, rfl, e2, fun q c' chk' hq => ?_⟩
      cases q with
      | zero =>
        simp only [List.getElem?_cons_zero, Option.some.injEq, Prod.mk.injEq] at hq
        obtain ⟨rfl, rfl⟩ := hq
        simp only [e1]
        exact hst
      | succ q => exact e3 q c' chk' (by simpa using hq)
    simp only [execD] at h
    split at h
    · rename_i hw
      split at h
      · rename_i v s2 hx
        split at h
        · rename_i hr
          exact key _ h (.inl ⟨hw, v, s2, hx, rfl, hr⟩)
        · cases h
      · cases h
    · rename_i hw
      exact key _ h (.inr ⟨by simpa using hw, rfl⟩)
theorem execOp1_tm {call : CallF} {co : COp} {s s' : St} {v : AV} (h : execOp1 call co s = some (v, s')) : s'.tm = s.tm := by
  · by_cases hc : callOp co = true
    · cases co <;> try (cases hc; done)
      case bad => simp [execOp1, stepOp] at h
      case call f as =>
        simp only [execOp1] at h
        split at h
        · simp only [Option.some.injEq, Prod.mk.injEq] at h; rw [← h.2]
        · cases h
      case callv x as =>
        simp only [execOp1] at h
        split at h
        · split at h
          · simp only [Option.some.injEq, Prod.mk.injEq] at h; rw [← h.2]
          · cases h
        · cases h
      case defer x =>
        simp only [execOp1] at h
        split at h
        · simp only [Option.some.injEq, Prod.mk.injEq] at h; rw [← h.2]
        · cases h
    · obtain ⟨h', h1, rfl⟩ := stepOp_ok (by simpa using hc) h
      rfl
theorem still_call {co : COp} (h : co.still = true) : callOp co = false := by cases co <;> first | rfl | cases h
theorem pend_call {co : COp} (h : co.pend = true) : callOp co = false := by cases co <;> first | rfl | cases h
theorem pend_still {co : COp} (h : co.pend = true) : co.still = false := by cases co <;> first | rfl | cases h
theorem fl_still {co : COp} (h : co.fl = true) : co.still = true := by cases co <;> first | rfl | cases h
theorem ev_setDst (tm : Tm) (d : Option Nat) (v : AV) (t : Nat) (h : d ≠ some t) : (CX.t t).ev (setDst tm d v) = (CX.t t).ev tm := by
  cases d with
  | none => rfl
  | some d =>
    rw [setDst, ev_set, if_neg]
    rintro rfl; exact h rfl
theorem ev_setDst_self (tm : Tm) (d : Nat) (v : AV) : (CX.t d).ev (setDst tm (some d) v) = v := by
  rw [setDst, ev_set, if_pos rfl]
def layTm (tm : Tm) (l : List (Nat × AV)) : Tm := l.foldl (fun tm p => tm.set (p.1 + 1) p.1 p.2) tm
theorem layTm_out : ∀ (l : List (Nat × AV)) (tm : Tm) (t : Nat), (∀ v, (t, v) ∉ l) → (CX.t t).ev (layTm tm l) = (CX.t t).ev tm
  | [], tm, t, _ => rfl
  | (d, v) :: l, tm, t, h => by
    have ih := layTm_out l (tm.set (d + 1) d v) t fun v' hv => h v' (List.mem_cons_of_mem _ hv)
    simp only [layTm, List.foldl_cons] at ih ⊢
    rw [ih, ev_set, if_neg]
    rintro rfl
    exact h v (List.mem_cons_self ..)
theorem layTm_in : ∀ (l : List (Nat × AV)) (tm : Tm) (t : Nat) (v : AV), (t, v) ∈ l → (∀ v', (t, v') ∈ l → v' = v) → (CX.t t).ev (layTm tm l) = v
  | [], tm, t, v, h, _ => by cases h
  | (d, u) :: l, tm, t, v, h, hu => by
    by_cases hm : ∃ v', (t, v') ∈ l
    · obtain ⟨v', hv'⟩ := hm
      have e := hu v' (List.mem_cons_of_mem _ hv')
      subst e
      exact layTm_in l (tm.set (d + 1) d u) t v' hv' fun v2 h2 => hu v2 (List.mem_cons_of_mem _ h2)
    · have hm' : ∀ v', (t, v') ∉ l := fun v' h' => hm ⟨v', h'⟩
      cases h with
      | tail _ h => exact absurd h (hm' v)
      | head =>
        have := layTm_out l (tm.set (d + 1) d u) d hm'
        simp only [layTm, List.foldl_cons] at this ⊢
        rw [this, ev_set, if_pos rfl]
def eraseArr (a : Array Value) (l : List Nat) : Array Value := Array.ofFn (n := a.size) fun k => if k.1 ∈ l then undef else a.getD k.1 undef
theorem eraseArr_getD (a : Array Value) (l : List Nat) (t : Nat) : (eraseArr a l).getD t undef = if t ∈ l then undef else a.getD t undef := by
  unfold eraseArr
  by_cases h : t < a.size
  · simp [Array.getD_eq_getD_getElem?, h]
  · have h2 : a.size ≤ t := Nat.le_of_not_lt h
    simp [Array.getD_eq_getD_getElem?, h2]
end Go.Ex
end
