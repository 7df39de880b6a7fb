/- A part of the proof (made by program out of smaller texts). -/
import Derived.ChangeArms
import Derived.Deep.Slices
import Derived.Below
import Derived.Handed
import Derived.Test.YtkaoplgfhmihpaaGreatDoorExD
noncomputable section
set_option linter.all false
namespace Go.Ex
open Go
theorem ev_dst (tm : Tm) (d i : Nat) (v : AV) : (CX.t i).ev (setDst tm (some d) v) = if i = d then v else (CX.t i).ev tm := ev_set tm d v i
theorem ev_c (tm : Tm) (v : AV) : (CX.c v).ev tm = v := rfl
theorem dst_none (tm : Tm) (v : AV) : setDst tm none v = tm := rfl
def wantA (a : AV) (b : Bool) : Bool := match a with
  | .bool c => c == b
  | _ => false
theorem wantA_bool (c b : Bool) : wantA (.bool c) b = (c == b) := rfl
theorem wanted_some (tm : Tm) (j : Nat) (b : Bool) : wanted tm (some (j, b)) = wantA ((CX.t j).ev tm) b := by
  simp only [wanted, CX.ev, wantA]
  cases tm.get j with
  | none => rfl
  | some v => cases v <;> rfl
section
variable (call : CallF) (lf : Nat)
theorem x_skip (s : St) : exec call lf .skip s = some (.normal, s) := rfl
theorem x_reg (ops : List CI) (s : St) : exec call lf (.reg ops) s = match execOps call ops s with
    | some s => some (.normal, s)
    | none => none := rfl
theorem x_dreg (ops : List (CI × List Chk)) (s : St) : exec call lf (.dreg ops) s = match execD call ops s with
    | some s => some (.normal, s)
    | none => none := rfl
theorem x_seq (a b : CC) (s : St) : exec call lf (.seq a b) s = match exec call lf a s with
    | some (.normal, s) => exec call lf b s
    | r => r := rfl
theorem x_cond (c : CX) (a b : CC) (s : St) : exec call lf (.cond c a b) s = match c.ev s.tm with
    | .bool true => exec call lf a s
    | .bool false => exec call lf b s
    | _ => none := rfl
theorem x_block (id : Nat) (b : CC) (s : St) : exec call lf (.block id b) s = match exec call lf b s with
    | some (.exit i, s) => if Nat.beq i id then some (.normal, s) else some (.exit i, s)
    | r => r := rfl
theorem x_exit (id : Nat) (s : St) : exec call lf (.exit id) s = some (.exit id, s) := rfl
theorem x_scope (b : CC) (s : St) : exec call lf (.scope b) s = exec call lf b s := rfl
theorem x_ret (s : St) : exec call lf .ret s = some (.ret, s) := rfl
theorem x_loop (b : CC) (s : St) : exec call lf (.loop b) s = loopN (exec call lf b) lf s := rfl
def loA (h : Heap) (agg : Bool) (n : Nat) (a : AV) : Option AV := match a with
  | .ptr r v o => ldVar h agg n r v o
  | _ => none
def stA (h : Heap) (n : Nat) (a v : AV) : Option Heap := match a with
  | .ptr r ver o => if Nat.beq v.cells.length n then stCells h r ver o v.cells else none
  | _ => none
def fldA (off : Nat) (a : AV) : Option AV := match a with
  | .ptr r v o => some (.ptr r v (o + off))
  | _ => none
def idxA (n : Nat) (a i : AV) : Option AV := match a, asIdx i with
  | .slice r v o len _ e, some i => if Nat.blt i len && Nat.beq n e then some (.ptr r v (o + i * n)) else none
  | _, _ => none
def lenA (a : AV) : Option AV := match a with
  | .slice _ _ _ n _ _ => some (goI n)
  | .nils => some (goI 0)
  | _ => none
def pickA (c a b : AV) : Option AV := match c with
  | .bool true => some a
  | .bool false => some b
  | _ => none
def extA (a : AV) (i : Nat) : Option AV := match a with
  | .tup l => match l.drop i with
    | a :: _ => some a
    | [] => none
  | _ => none
def lkA (h : Heap) (zero : AV) (ok : Bool) (m k : AV) : Option AV := match m with
  | .map r => match h.get r with
    | some (.map es _) => match findKey (.base .i) k es 0 with
      | some (some (_, e)) => some (if ok then .tup [e.val, .bool true] else e.val)
      | some none => some (if ok then .tup [zero, .bool false] else zero)
      | none => none
    | _ => none
  | _ => none
def muA (h : Heap) (m k v : AV) : Option Heap := match mapOf h m with
  | some (r, es, clock) => match findKey (.base .i) k es 0 with
    | some (some (i, _)) => some (h.put r (.map (modAt es i fun e => { e with key := k, val := v }) clock))
    | some none => some (h.put r (.map (es ++ [⟨k, v, clock⟩]) (clock + 1)))
    | none => none
  | none => none
def slA (a i : AV) : Option AV := match a, asIdx i with
  | .slice r v o len 0 e, some i => if Nat.beq 11 e && Nat.ble i len then some (.slice r v o i 0 e) else none
  | _, _ => none
theorem o_nil (s : St) : execOps call [] s = some s := rfl
theorem o_move (d : Option Nat) (x : CX) (cs : List CI) (tm : Tm) (h : Heap) (df : List AV) :
    execOps call (⟨d, none, .move x⟩ :: cs) ⟨tm, h, df⟩ = execOps call cs ⟨setDst tm d (x.ev tm), h, df⟩ := rfl
theorem o_load (d : Option Nat) (agg : Bool) (n : Nat) (x : CX) (cs : List CI) (tm : Tm) (h : Heap) (df : List AV) :
    execOps call (⟨d, none, .load agg n x⟩ :: cs) ⟨tm, h, df⟩ = match loA h agg n (x.ev tm) with
      | some v => execOps call cs ⟨setDst tm d v, h, df⟩
      | none => none := by
  simp only [execOps, wanted, if_true, execOp1, stepOp, sLoad, loA]
  cases x.ev tm <;> try rfl
  rename_i r v o
  simp only []
  cases ldVar h agg n r v o <;> rfl
theorem o_store (d : Option Nat) (n : Nat) (x v : CX) (cs : List CI) (tm : Tm) (h : Heap) (df : List AV) :
    execOps call (⟨d, none, .store n x v⟩ :: cs) ⟨tm, h, df⟩ = match stA h n (x.ev tm) (v.ev tm) with
      | some h' => execOps call cs ⟨setDst tm d .undef, h', df⟩
      | none => none := by
  simp only [execOps, wanted, if_true, execOp1, stepOp, sStore, stA]
  cases x.ev tm <;> try rfl
  rename_i r ver o
  simp only []
  cases Nat.beq (v.ev tm).cells.length n
  · rfl
  · simp only [if_true]
    cases stCells h r ver o (v.ev tm).cells <;> rfl
theorem o_alloc (d : Option Nat) (z : List AV) (cs : List CI) (tm : Tm) (h : Heap) (df : List AV) :
    execOps call (⟨d, none, .alloc z⟩ :: cs) ⟨tm, h, df⟩ = execOps call cs ⟨setDst tm d (.ptr h.next 0 0), (h.new (.row (freshCells z) 0)).2, df⟩ := rfl
theorem o_mkmap (d : Option Nat) (cs : List CI) (tm : Tm) (h : Heap) (df : List AV) :
    execOps call (⟨d, none, .mkmap⟩ :: cs) ⟨tm, h, df⟩ = execOps call cs ⟨setDst tm d (.map h.next), (h.new (.map [] 0)).2, df⟩ := rfl
theorem o_fld (d : Option Nat) (off : Nat) (x : CX) (cs : List CI) (tm : Tm) (h : Heap) (df : List AV) :
    execOps call (⟨d, none, .fld off x⟩ :: cs) ⟨tm, h, df⟩ = match fldA off (x.ev tm) with
      | some v => execOps call cs ⟨setDst tm d v, h, df⟩
      | none => none := by
  simp only [execOps, wanted, if_true, execOp1, stepOp, sFld, fldA]
  cases x.ev tm <;> rfl
theorem o_bin (d : Option Nat) (op : BinOp) (ek : EK) (c : Bool) (x y : CX) (cs : List CI) (tm : Tm) (h : Heap) (df : List AV) :
    execOps call (⟨d, none, .bin op ek c x y⟩ :: cs) ⟨tm, h, df⟩ = match aBin op ek c (x.ev tm) (y.ev tm) with
      | some v => execOps call cs ⟨setDst tm d v, h, df⟩
      | none => none := by
  simp only [execOps, wanted, if_true, execOp1, stepOp, sBin]
  cases aBin op ek c (x.ev tm) (y.ev tm) <;> rfl
theorem o_un (d : Option Nat) (op : UnOp) (x : CX) (cs : List CI) (tm : Tm) (h : Heap) (df : List AV) :
    execOps call (⟨d, none, .un op x⟩ :: cs) ⟨tm, h, df⟩ = match aUn op (x.ev tm) with
      | some v => execOps call cs ⟨setDst tm d v, h, df⟩
      | none => none := by
  simp only [execOps, wanted, if_true, execOp1, stepOp, sUn]
  cases aUn op (x.ev tm) <;> rfl
theorem o_len (d : Option Nat) (x : CX) (cs : List CI) (tm : Tm) (h : Heap) (df : List AV) :
    execOps call (⟨d, none, .len .slice x⟩ :: cs) ⟨tm, h, df⟩ = match lenA (x.ev tm) with
      | some v => execOps call cs ⟨setDst tm d v, h, df⟩
      | none => none := by
  simp only [execOps, wanted, if_true, execOp1, stepOp, sLen, lenA]
  cases x.ev tm <;> rfl
theorem o_pick (d : Option Nat) (c a b : CX) (cs : List CI) (tm : Tm) (h : Heap) (df : List AV) :
    execOps call (⟨d, none, .pick c a b⟩ :: cs) ⟨tm, h, df⟩ = match pickA (c.ev tm) (a.ev tm) (b.ev tm) with
      | some v => execOps call cs ⟨setDst tm d v, h, df⟩
      | none => none := by
  simp only [execOps, wanted, if_true, execOp1, stepOp, sPick, pickA]
  cases c.ev tm <;> try rfl
  rename_i t; cases t <;> rfl
theorem o_ext (d : Option Nat) (x : CX) (i : Nat) (cs : List CI) (tm : Tm) (h : Heap) (df : List AV) :
    execOps call (⟨d, none, .ext x i⟩ :: cs) ⟨tm, h, df⟩ = match extA (x.ev tm) i with
      | some v => execOps call cs ⟨setDst tm d v, h, df⟩
      | none => none := by
  simp only [execOps, wanted, if_true, execOp1, stepOp, sExt, extA]
  cases x.ev tm <;> try rfl
  rename_i l
  simp only []
  cases l.drop i <;> rfl
theorem o_idxs (d : Option Nat) (n : Nat) (x i : CX) (cs : List CI) (tm : Tm) (h : Heap) (df : List AV) :
    execOps call (⟨d, none, .idxs n x i⟩ :: cs) ⟨tm, h, df⟩ = match idxA n (x.ev tm) (i.ev tm) with
      | some v => execOps call cs ⟨setDst tm d v, h, df⟩
      | none => none := by
  simp only [execOps, wanted, if_true, execOp1, stepOp, sIdxs, idxA]
  cases x.ev tm <;> try rfl
  cases asIdx (i.ev tm) <;> try rfl
  rename_i r v o len cap e j
  simp only []
  cases Nat.blt j len && Nat.beq n e <;> rfl
theorem o_lookup (d : Option Nat) (z : AV) (ok : Bool) (m k : CX) (cs : List CI) (tm : Tm) (h : Heap) (df : List AV) (hm : m.ev tm ≠ .nilm) :
    execOps call (⟨d, none, .lookup (.base .i) z ok m k⟩ :: cs) ⟨tm, h, df⟩ = match lkA h z ok (m.ev tm) (k.ev tm) with
      | some v => execOps call cs ⟨setDst tm d v, h, df⟩
      | none => none := by
  simp only [execOps, wanted, if_true, execOp1, stepOp, sLookup, lkA]
  cases e : m.ev tm <;> try rfl
  · rename_i r
    simp only []
    cases h.get r with
    | none => rfl
    | some o =>
      cases o <;> try rfl
      simp only []
      cases findKey (.base .i) (k.ev tm) _ 0 with
      | none => rfl
      | some q => cases q <;> rfl
  · exact absurd e hm
theorem o_mapupd (d : Option Nat) (m k v : CX) (cs : List CI) (tm : Tm) (h : Heap) (df : List AV) :
    execOps call (⟨d, none, .mapupd (.base .i) m k v⟩ :: cs) ⟨tm, h, df⟩ = match muA h (m.ev tm) (k.ev tm) (v.ev tm) with
      | some h' => execOps call cs ⟨setDst tm d .undef, h', df⟩
      | none => none := by
  simp only [execOps, wanted, if_true, execOp1, stepOp, sMapupd, muA]
  cases mapOf h (m.ev tm) with
  | none => rfl
  | some q =>
    obtain ⟨r, es, cl⟩ := q
    simp only []
    cases findKey (.base .i) (k.ev tm) es 0 with
    | none => rfl
    | some q => cases q <;> rfl
theorem o_slsl (d : Option Nat) (x i : CX) (cs : List CI) (tm : Tm) (h : Heap) (df : List AV) {a : AV} (hs : slA (x.ev tm) (i.ev tm) = some a) :
    execOps call (⟨d, none, .slsl 11 x none (some i) none⟩ :: cs) ⟨tm, h, df⟩ = execOps call cs ⟨setDst tm d a, h, df⟩ := by
  revert hs
  simp only [execOps, wanted, if_true, execOp1, stepOp, sSlsl, slA]
  cases x.ev tm <;> try (intro hs; cases hs; done)
  rename_i r v o len cap e
  cases cap with
  | succ c => intro hs; cases hs
  | zero =>
    cases hi : asIdx (i.ev tm) with
    | none => intro hs; cases hs
    | some j =>
      simp only []
      cases h1 : Nat.beq 11 e with
      | false => intro hs; cases hs
      | true =>
        simp only [Bool.true_and, if_true, sliceIt, optIdx, hi]
        cases h2 : Nat.ble j len with
        | false => intro hs; simp at hs
        | true =>
          intro hs
          have hz : Nat.beq 0 0 = true := rfl
          have hl : Nat.ble 0 j = true := by simp
          simp only [if_true, Option.some.injEq] at hs
          simp only [hz, if_true, h2, hl, Bool.and_true]
          simp only [Nat.zero_mul, Nat.add_zero, Nat.sub_zero]
          rw [hs]
theorem o_call (d : Option Nat) (f : Nat) (ags : List CX) (cs : List CI) (tm : Tm) (h : Heap) (df : List AV) :
    execOps call (⟨d, none, .call f ags⟩ :: cs) ⟨tm, h, df⟩ = match call f (ags.map (·.ev tm)) h with
      | some (v, h') => execOps call cs ⟨setDst tm d v, h', df⟩
      | none => none := by
  simp only [execOps, wanted, if_true, execOp1]
  cases call f (ags.map (·.ev tm)) h with
  | none => rfl
  | some q => rfl
theorem o_guard (d : Option Nat) (j : Nat) (b : Bool) (o : COp) (cs : List CI) (s : St) :
    execOps call (⟨d, some (j, b), o⟩ :: cs) s = match wantA ((CX.t j).ev s.tm) b with
      | true => execOps call (⟨d, none, o⟩ :: cs) s
      | false => execOps call cs { s with tm := setDst s.tm d .undef } := by
  simp only [execOps, wanted_some]
  cases wantA ((CX.t j).ev s.tm) b <;> rfl
theorem d_nil (s : St) : execD call [] s = some s := rfl
theorem d_cons (c : CI) (cs : List (CI × List Chk)) (s : St) : execD call ((c, []) :: cs) s = match execOps call [c] s with
    | some s => execD call cs s
    | none => none := by
  simp only [execD, execOps, recheck]
  cases wanted s.tm c.guard with
  | false => rfl
  | true =>
    simp only [if_true]
    cases execOp1 call c.op s <;> rfl
theorem d_chk (c : CI) (k : Chk) (ks : List Chk) (cs : List (CI × List Chk)) (s : St) (hg : c.guard = none) : execD call ((c, k :: ks) :: cs) s = match execOps call [c] s with
    | some s => if recheck s.tm s.h (k :: ks) then execD call cs s else none
    | none => none := by
  simp only [execD, execOps, hg, wanted, if_true]
  cases execOp1 call c.op s <;> rfl
end
theorem recheck_nil (tm : Tm) (h : Heap) : recheck tm h [] = true := rfl
theorem recheck_load (tm : Tm) (h : Heap) (d : Nat) (x : CX) (n : Nat) (cs : List Chk) {v : AV} (h1 : loA h false n (x.ev tm) = some v) (h2 : AV.beq v ((CX.t d).ev tm) = true) (h3 : recheck tm h cs = true) :
    recheck tm h (.re ⟨some d, none, .load false n x⟩ :: cs) = true := by
  simp only [recheck, wanted, if_true, stepOp, sLoad, loA] at h1 ⊢
  cases e : x.ev tm <;> rw [e] at h1 <;> try (cases h1; done)
  simp only [] at h1 ⊢
  rw [h1]
  simp only [h2, h3, Bool.and_self]
theorem b_eql (ek : EK) (c : Bool) (k : IntKind) (x y : Int) : aBin .eql ek c (.int k x) (.int k y) = some (.bool (decide (x = y))) := by
  simp only [aBin, decide_true, if_true, aInt]
  by_cases h : x = y <;> simp [h]
theorem b_neq (ek : EK) (c : Bool) (k : IntKind) (x y : Int) : aBin .neq ek c (.int k x) (.int k y) = some (.bool (decide (¬ x = y))) := by
  simp only [aBin, decide_true, if_true, aInt]
  by_cases h : x = y <;> simp [h]
theorem b_lss (ek : EK) (c : Bool) (k : IntKind) (x y : Int) : aBin .lss ek c (.int k x) (.int k y) = some (.bool (decide (x < y))) := by
  simp only [aBin, decide_true, if_true, aInt]
theorem b_gtr (ek : EK) (c : Bool) (k : IntKind) (x y : Int) : aBin .gtr ek c (.int k x) (.int k y) = some (.bool (decide (y < x))) := by
  simp only [aBin, decide_true, if_true, aInt]
theorem wrapS {x : Int} (h0 : 0 ≤ x) (h1 : x < 1000000) : IntKind.i64.wrap x = x := by
  simp [IntKind.wrap, IntKind.bits, IntKind.signed]
  omega
theorem b_lssI (ek : EK) (c : Bool) (x y : Nat) : aBin .lss ek c (goI x) (goI y) = some (.bool (decide (x < y))) := by
  unfold goI; rw [b_lss]; congr 2; simp
theorem b_gtrI (ek : EK) (c : Bool) (x y : Nat) : aBin .gtr ek c (goI x) (goI y) = some (.bool (decide (y < x))) := by
  unfold goI; rw [b_gtr]; congr 2; simp
theorem b_addI (ek : EK) (c : Bool) (x y : Nat) (h : x < 1000) (h' : y < 1000) : aBin .add ek c (goI x) (goI y) = some (goI (x + y)) := by
  simp only [aBin, decide_true, if_true, aInt, goI]
  rw [wrapS (by simp; omega) (by simp; omega)]
  rfl
end Go.Ex
namespace Go.Ex
open Go
def B6_0 : CC :=
 (.seq
  (.reg [⟨(some 13), none, .bin .lss (.base .i) false (.t 12) (.t 11)⟩])
  (.seq
   (.cond (.t 13)
    .skip
    (.exit 0))
   (.seq
    (.block 1
     (.seq
      (.reg [⟨(some 14), none, .idxs 11 (.t 10) (.t 12)⟩,
        ⟨(some 15), none, .load true 11 (.t 14)⟩,
        ⟨(some 9), none, .alloc [(.int .i64 0), (.int .i64 0), (.int .i64 0), (.int .i64 0), (.int .i64 0), (.str []), (.str []), (.int .i64 0), (.int .i64 0), (.str []), .nils]⟩,
        ⟨none, none, .store 11 (.t 9) (.t 15)⟩])
      (.seq
       (.reg [⟨(some 16), none, .fld 2 (.t 9)⟩,
         ⟨(some 17), none, .load false 1 (.t 16)⟩,
         ⟨(some 18), none, .move (.t 1)⟩,
         ⟨(some 19), none, .bin .eql (.base .i) false (.t 17) (.t 18)⟩,
         ⟨(some 20), none, .move (.t 19)⟩,
         ⟨(some 21), (some (20, true)), .fld 3 (.t 9)⟩,
         ⟨(some 22), (some (20, true)), .load false 1 (.t 21)⟩,
         ⟨(some 23), (some (20, true)), .move (.t 2)⟩,
         ⟨(some 24), (some (20, true)), .bin .eql (.base .i) false (.t 22) (.t 23)⟩,
         ⟨(some 25), none, .pick (.t 20) (.t 24) (.c (.bool false))⟩])
       (.cond (.t 25)
        (.reg [⟨(some 26), none, .move (.t 7)⟩,
          ⟨(some 27), none, .bin .add (.base .i) true (.t 26) (.c (.int .i64 1))⟩,
          ⟨(some 7), none, .move (.t 27)⟩])
        .skip))))
    (.reg [⟨(some 28), none, .bin .add (.base .i) true (.t 12) (.c (.int .i64 1))⟩,
      ⟨(some 12), none, .move (.t 28)⟩]))))
def C6 : CC :=
 (.seq
  (.reg [⟨(some 6), none, .move (.c (.int .i64 0))⟩])
  (.seq
   (.reg [⟨(some 7), none, .move (.c (.int .i64 0))⟩])
   (.seq
    (.seq
     (.reg [⟨(some 10), none, .move (.t 0)⟩,
       ⟨(some 11), none, .len .slice (.t 10)⟩,
       ⟨(some 12), none, .move (.c (.int .i64 0))⟩])
     (.block 0
      (.loop B6_0)))
    (.seq
     (.reg [⟨(some 29), none, .move (.t 7)⟩,
       ⟨(some 6), none, .move (.t 29)⟩])
     .ret))))
def F6 : CF := ⟨C6, [(.tmp 6)]⟩
def B8_0 : CC :=
 (.seq
  (.reg [⟨(some 10), none, .bin .lss (.base .i) false (.t 9) (.t 8)⟩])
  (.seq
   (.cond (.t 10)
    .skip
    (.exit 0))
   (.seq
    (.block 1
     (.seq
      (.reg [⟨(some 11), none, .idxs 11 (.t 7) (.t 9)⟩,
        ⟨(some 12), none, .load true 11 (.t 11)⟩,
        ⟨(some 5), none, .alloc [(.int .i64 0), (.int .i64 0), (.int .i64 0), (.int .i64 0), (.int .i64 0), (.str []), (.str []), (.int .i64 0), (.int .i64 0), (.str []), .nils]⟩,
        ⟨none, none, .store 11 (.t 5) (.t 12)⟩])
      (.seq
       (.reg [⟨(some 13), none, .fld 2 (.t 5)⟩,
         ⟨(some 14), none, .load false 1 (.t 13)⟩])
       (.block 2
        (.seq
         (.reg [⟨(some 16), none, .bin .eql (.base .i) true (.t 14) (.c (.int .i64 7))⟩,
           ⟨(some 15), none, .move (.t 16)⟩])
         (.cond (.t 15)
          (.seq
           (.seq
            (.reg [⟨(some 17), none, .move (.t 3)⟩,
              ⟨(some 18), none, .fld 3 (.t 5)⟩,
              ⟨(some 19), none, .load false 1 (.t 18)⟩,
              ⟨(some 20), none, .lookup (.base .i) (.int .i64 0) false (.t 17) (.t 19)⟩,
              ⟨(some 21), none, .bin .gtr (.base .i) true (.t 20) (.c (.int .i64 0))⟩])
            (.cond (.t 21)
             (.seq
              (.reg [⟨(some 2), none, .move (.c (.int .i64 5))⟩])
              .ret)
             .skip))
           (.reg [⟨(some 22), none, .move (.t 3)⟩,
             ⟨(some 23), none, .fld 3 (.t 5)⟩,
             ⟨(some 24), none, .load false 1 (.t 23)⟩,
             ⟨none, none, .mapupd (.base .i) (.t 22) (.t 24) (.c (.int .i64 1))⟩]))
          (.seq
           (.seq
            (.reg [⟨(some 26), none, .bin .eql (.base .i) true (.t 14) (.c (.int .i64 8))⟩,
              ⟨(some 25), none, .move (.t 26)⟩])
            (.cond (.t 25)
             .skip
             (.seq
              (.reg [⟨(some 27), none, .bin .eql (.base .i) true (.t 14) (.c (.int .i64 9))⟩,
                ⟨(some 25), none, .move (.t 27)⟩])
              (.cond (.t 25)
               .skip
               (.reg [⟨(some 28), none, .bin .eql (.base .i) true (.t 14) (.c (.int .i64 10))⟩,
                 ⟨(some 25), none, .move (.t 28)⟩])))))
           (.cond (.t 25)
            (.seq
             (.seq
              (.reg [⟨(some 29), none, .move (.t 3)⟩,
                ⟨(some 30), none, .fld 3 (.t 5)⟩,
                ⟨(some 31), none, .load false 1 (.t 30)⟩,
                ⟨(some 32), none, .lookup (.base .i) (.int .i64 0) false (.t 29) (.t 31)⟩])
              (.block 3
               (.seq
                (.reg [⟨(some 34), none, .bin .eql (.base .i) true (.t 32) (.c (.int .i64 0))⟩,
                  ⟨(some 33), none, .move (.t 34)⟩])
                (.cond (.t 33)
                 (.seq
                  (.reg [⟨(some 2), none, .move (.c (.int .i64 4))⟩])
                  .ret)
                 (.seq
                  (.reg [⟨(some 36), none, .bin .eql (.base .i) true (.t 32) (.c (.int .i64 2))⟩,
                    ⟨(some 35), none, .move (.t 36)⟩])
                  (.cond (.t 35)
                   (.seq
                    (.reg [⟨(some 2), none, .move (.c (.int .i64 181))⟩])
                    .ret)
                   .skip))))))
             (.reg [⟨(some 37), none, .move (.t 3)⟩,
               ⟨(some 38), none, .fld 3 (.t 5)⟩,
               ⟨(some 39), none, .load false 1 (.t 38)⟩,
               ⟨none, none, .mapupd (.base .i) (.t 37) (.t 39) (.c (.int .i64 2))⟩]))
            .skip))))))))
    (.reg [⟨(some 40), none, .bin .add (.base .i) true (.t 9) (.c (.int .i64 1))⟩,
      ⟨(some 9), none, .move (.t 40)⟩]))))
def C8 : CC :=
 (.seq
  (.reg [⟨(some 2), none, .move (.c (.int .i64 0))⟩])
  (.seq
   (.reg [⟨(some 6), none, .mkmap⟩,
     ⟨(some 3), none, .move (.t 6)⟩])
   (.seq
    (.seq
     (.reg [⟨(some 7), none, .move (.t 0)⟩,
       ⟨(some 8), none, .len .slice (.t 7)⟩,
       ⟨(some 9), none, .move (.c (.int .i64 0))⟩])
     (.block 0
      (.loop B8_0)))
    (.seq
     (.reg [⟨(some 2), none, .move (.c (.int .i64 0))⟩])
     .ret))))
def F8 : CF := ⟨C8, [(.tmp 2)]⟩
def B9_0 : CC :=
 (.seq
  (.reg [⟨(some 10), none, .bin .lss (.base .i) false (.t 9) (.t 8)⟩])
  (.seq
   (.cond (.t 10)
    .skip
    (.exit 0))
   (.seq
    (.block 1
     (.seq
      (.reg [⟨(some 11), none, .idxs 11 (.t 7) (.t 9)⟩,
        ⟨(some 12), none, .load true 11 (.t 11)⟩,
        ⟨(some 5), none, .alloc [(.int .i64 0), (.int .i64 0), (.int .i64 0), (.int .i64 0), (.int .i64 0), (.str []), (.str []), (.int .i64 0), (.int .i64 0), (.str []), .nils]⟩,
        ⟨none, none, .store 11 (.t 5) (.t 12)⟩])
      (.seq
       (.reg [⟨(some 13), none, .move (.t 3)⟩,
         ⟨(some 6), none, .move (.t 13)⟩])
       (.seq
        (.seq
         (.reg [⟨(some 14), none, .fld 2 (.t 5)⟩,
           ⟨(some 15), none, .load false 1 (.t 14)⟩])
         (.block 2
          (.seq
           (.reg [⟨(some 17), none, .bin .eql (.base .i) true (.t 15) (.c (.int .i64 2))⟩,
             ⟨(some 16), none, .move (.t 17)⟩])
           (.cond (.t 16)
            (.reg [⟨(some 6), none, .move (.c (.int .i64 0))⟩])
            (.seq
             (.reg [⟨(some 19), none, .bin .eql (.base .i) true (.t 15) (.c (.int .i64 3))⟩,
               ⟨(some 18), none, .move (.t 19)⟩])
             (.cond (.t 18)
              (.reg [⟨(some 6), none, .move (.c (.int .i64 1))⟩])
              (.seq
               (.seq
                (.reg [⟨(some 21), none, .bin .eql (.base .i) true (.t 15) (.c (.int .i64 4))⟩,
                  ⟨(some 20), none, .move (.t 21)⟩])
                (.cond (.t 20)
                 .skip
                 (.seq
                  (.reg [⟨(some 22), none, .bin .eql (.base .i) true (.t 15) (.c (.int .i64 5))⟩,
                    ⟨(some 20), none, .move (.t 22)⟩])
                  (.cond (.t 20)
                   .skip
                   (.reg [⟨(some 23), none, .bin .eql (.base .i) true (.t 15) (.c (.int .i64 6))⟩,
                     ⟨(some 20), none, .move (.t 23)⟩])))))
               (.cond (.t 20)
                (.reg [⟨(some 6), none, .move (.c (.int .i64 2))⟩])
                (.exit 1)))))))))
        (.seq
         (.seq
          (.reg [⟨(some 24), none, .move (.t 3)⟩,
            ⟨(some 25), none, .move (.t 6)⟩,
            ⟨(some 26), none, .bin .neq (.base .i) false (.t 24) (.t 25)⟩])
          (.cond (.t 26)
           (.seq
            (.reg [⟨(some 2), none, .move (.c (.int .i64 7))⟩])
            .ret)
           .skip))
         (.reg [⟨(some 27), none, .move (.t 3)⟩,
           ⟨(some 28), none, .bin .add (.base .i) true (.t 27) (.c (.int .i64 1))⟩,
           ⟨(some 29), none, .bin .rem (.base .i) true (.t 28) (.c (.int .i64 3))⟩,
           ⟨(some 3), none, .move (.t 29)⟩]))))))
    (.reg [⟨(some 30), none, .bin .add (.base .i) true (.t 9) (.c (.int .i64 1))⟩,
      ⟨(some 9), none, .move (.t 30)⟩]))))
def C9 : CC :=
 (.seq
  (.reg [⟨(some 2), none, .move (.c (.int .i64 0))⟩])
  (.seq
   (.reg [⟨(some 3), none, .move (.c (.int .i64 0))⟩])
   (.seq
    (.seq
     (.reg [⟨(some 7), none, .move (.t 0)⟩,
       ⟨(some 8), none, .len .slice (.t 7)⟩,
       ⟨(some 9), none, .move (.c (.int .i64 0))⟩])
     (.block 0
      (.loop B9_0)))
    (.seq
     (.reg [⟨(some 2), none, .move (.c (.int .i64 0))⟩])
     .ret))))
def F9 : CF := ⟨C9, [(.tmp 2)]⟩
def R4 : CC :=
 (.dreg [(⟨(some 29), none, .move (.t 6)⟩, []),
   (⟨(some 30), none, .fld 3 (.t 5)⟩, []),
   (⟨(some 31), none, .load false 1 (.t 30)⟩, []),
   (⟨(some 33), none, .move (.t 6)⟩, []),
   (⟨(some 34), none, .fld 3 (.t 5)⟩, []),
   (⟨(some 35), none, .load false 1 (.t 34)⟩, []),
   (⟨(some 38), none, .move (.t 6)⟩, []),
   (⟨(some 39), none, .fld 3 (.t 5)⟩, []),
   (⟨(some 40), none, .load false 1 (.t 39)⟩, []),
   (⟨(some 32), none, .call 6 [(.t 29), (.c (.int .i64 8)), (.t 31)]⟩, [(.re ⟨(some 35), none, .load false 1 (.t 34)⟩), (.re ⟨(some 40), none, .load false 1 (.t 39)⟩)]),
   (⟨(some 36), none, .call 6 [(.t 33), (.c (.int .i64 9)), (.t 35)]⟩, [(.re ⟨(some 40), none, .load false 1 (.t 39)⟩)]),
   (⟨(some 37), none, .bin .add (.base .i) false (.t 32) (.t 36)⟩, []),
   (⟨(some 41), none, .call 6 [(.t 38), (.c (.int .i64 10)), (.t 40)]⟩, []),
   (⟨(some 42), none, .bin .add (.base .i) false (.t 37) (.t 41)⟩, []),
   (⟨(some 7), none, .move (.t 42)⟩, [])])
def W4 : CC :=
 (.block 2
  (.seq
   (.reg [⟨(some 48), none, .fld 2 (.t 5)⟩,
     ⟨(some 49), none, .load false 1 (.t 48)⟩,
     ⟨(some 50), none, .bin .eql (.base .i) true (.t 49) (.c (.int .i64 7))⟩,
     ⟨(some 51), none, .move (.t 50)⟩,
     ⟨(some 52), (some (51, true)), .move (.t 8)⟩,
     ⟨(some 53), (some (51, true)), .bin .gtr (.base .i) true (.t 52) (.c (.int .i64 0))⟩,
     ⟨(some 54), none, .pick (.t 51) (.t 53) (.c (.bool false))⟩,
     ⟨(some 47), none, .move (.t 54)⟩])
   (.cond (.t 47)
    (.reg [⟨(some 3), none, .move (.c (.int .i64 5))⟩])
    (.seq
     (.reg [⟨(some 56), none, .fld 2 (.t 5)⟩,
       ⟨(some 57), none, .load false 1 (.t 56)⟩,
       ⟨(some 58), none, .bin .eql (.base .i) true (.t 57) (.c (.int .i64 8))⟩,
       ⟨(some 59), none, .move (.t 58)⟩,
       ⟨(some 60), (some (59, false)), .fld 2 (.t 5)⟩,
       ⟨(some 61), (some (59, false)), .load false 1 (.t 60)⟩,
       ⟨(some 62), (some (59, false)), .bin .eql (.base .i) true (.t 61) (.c (.int .i64 9))⟩,
       ⟨(some 63), none, .pick (.t 59) (.c (.bool true)) (.t 62)⟩,
       ⟨(some 64), none, .move (.t 63)⟩,
       ⟨(some 65), (some (64, false)), .fld 2 (.t 5)⟩,
       ⟨(some 66), (some (64, false)), .load false 1 (.t 65)⟩,
       ⟨(some 67), (some (64, false)), .bin .eql (.base .i) true (.t 66) (.c (.int .i64 10))⟩,
       ⟨(some 68), none, .pick (.t 64) (.c (.bool true)) (.t 67)⟩,
       ⟨(some 55), none, .move (.t 68)⟩])
     (.cond (.t 55)
      (.seq
       (.reg [⟨(some 69), none, .move (.t 8)⟩,
         ⟨(some 70), none, .bin .eql (.base .i) true (.t 69) (.c (.int .i64 0))⟩])
       (.cond (.t 70)
        (.reg [⟨(some 3), none, .move (.c (.int .i64 4))⟩])
        (.seq
         (.reg [⟨(some 71), none, .move (.t 7)⟩,
           ⟨(some 72), none, .bin .gtr (.base .i) true (.t 71) (.c (.int .i64 0))⟩])
         (.cond (.t 72)
          (.reg [⟨(some 3), none, .move (.c (.int .i64 181))⟩])
          .skip))))
      .skip)))))
def B4_0 : CC :=
 (.seq
  (.reg [⟨(some 22), none, .bin .lss (.base .i) false (.t 21) (.t 20)⟩])
  (.seq
   (.cond (.t 22)
    .skip
    (.exit 0))
   (.seq
    (.block 1
     (.seq
      (.reg [⟨(some 23), none, .move (.t 21)⟩,
        ⟨(some 24), none, .idxs 11 (.t 19) (.t 21)⟩,
        ⟨(some 25), none, .load true 11 (.t 24)⟩,
        ⟨(some 5), none, .alloc [(.int .i64 0), (.int .i64 0), (.int .i64 0), (.int .i64 0), (.int .i64 0), (.str []), (.str []), (.int .i64 0), (.int .i64 0), (.str []), .nils]⟩,
        ⟨(some 4), none, .move (.t 23)⟩,
        ⟨none, none, .store 11 (.t 5) (.t 25)⟩])
      (.seq
       (.reg [⟨(some 26), none, .move (.t 0)⟩,
         ⟨(some 27), none, .move (.t 4)⟩,
         ⟨(some 28), none, .slsl 11 (.t 26) none (some (.t 27)) none⟩,
         ⟨(some 6), none, .move (.t 28)⟩])
       (.seq
        R4
        (.seq
         (.reg [⟨(some 43), none, .move (.t 6)⟩,
           ⟨(some 44), none, .fld 3 (.t 5)⟩,
           ⟨(some 45), none, .load false 1 (.t 44)⟩,
           ⟨(some 46), none, .call 6 [(.t 43), (.c (.int .i64 7)), (.t 45)]⟩,
           ⟨(some 8), none, .move (.t 46)⟩])
         (.seq
          W4
          (.seq
           (.reg [⟨(some 73), none, .move (.t 3)⟩,
             ⟨(some 74), none, .bin .neq (.base .i) true (.t 73) (.c (.int .i64 0))⟩])
           (.cond (.t 74)
            (.exit 0)
            .skip))))))))
    (.reg [⟨(some 75), none, .bin .add (.base .i) true (.t 21) (.c (.int .i64 1))⟩,
      ⟨(some 21), none, .move (.t 75)⟩]))))
def B4_1 : CC :=
 (.seq
  (.reg [⟨(some 79), none, .bin .lss (.base .i) false (.t 78) (.t 77)⟩])
  (.seq
   (.cond (.t 79)
    .skip
    (.exit 3))
   (.seq
    (.block 4
     (.seq
      (.reg [⟨(some 80), none, .idxs 11 (.t 76) (.t 78)⟩,
        ⟨(some 81), none, .load true 11 (.t 80)⟩,
        ⟨(some 12), none, .alloc [(.int .i64 0), (.int .i64 0), (.int .i64 0), (.int .i64 0), (.int .i64 0), (.str []), (.str []), (.int .i64 0), (.int .i64 0), (.str []), .nils]⟩,
        ⟨none, none, .store 11 (.t 12) (.t 81)⟩])
      (.seq
       (.reg [⟨(some 13), none, .move (.c (.int .i64 0))⟩])
       (.seq
        (.seq
         (.reg [⟨(some 82), none, .fld 2 (.t 12)⟩,
           ⟨(some 83), none, .load false 1 (.t 82)⟩])
         (.block 5
          (.seq
           (.reg [⟨(some 85), none, .bin .eql (.base .i) true (.t 83) (.c (.int .i64 2))⟩,
             ⟨(some 84), none, .move (.t 85)⟩])
           (.cond (.t 84)
            .skip
            (.seq
             (.reg [⟨(some 87), none, .bin .eql (.base .i) true (.t 83) (.c (.int .i64 3))⟩,
               ⟨(some 86), none, .move (.t 87)⟩])
             (.cond (.t 86)
              (.reg [⟨(some 13), none, .move (.c (.int .i64 1))⟩])
              (.seq
               (.seq
                (.reg [⟨(some 89), none, .bin .eql (.base .i) true (.t 83) (.c (.int .i64 4))⟩,
                  ⟨(some 88), none, .move (.t 89)⟩])
                (.cond (.t 88)
                 .skip
                 (.seq
                  (.reg [⟨(some 90), none, .bin .eql (.base .i) true (.t 83) (.c (.int .i64 5))⟩,
                    ⟨(some 88), none, .move (.t 90)⟩])
                  (.cond (.t 88)
                   .skip
                   (.reg [⟨(some 91), none, .bin .eql (.base .i) true (.t 83) (.c (.int .i64 6))⟩,
                     ⟨(some 88), none, .move (.t 91)⟩])))))
               (.cond (.t 88)
                (.reg [⟨(some 13), none, .move (.c (.int .i64 2))⟩])
                (.exit 4)))))))))
        (.seq
         (.seq
          (.reg [⟨(some 92), none, .move (.t 13)⟩,
            ⟨(some 93), none, .move (.t 9)⟩,
            ⟨(some 94), none, .bin .rem (.base .i) true (.t 93) (.c (.int .i64 3))⟩,
            ⟨(some 95), none, .bin .neq (.base .i) false (.t 92) (.t 94)⟩,
            ⟨(some 96), none, .move (.t 95)⟩,
            ⟨(some 97), (some (96, true)), .move (.t 10)⟩,
            ⟨(some 98), (some (96, true)), .bin .eql (.base .i) true (.t 97) (.c (.int .i64 0))⟩,
            ⟨(some 99), none, .pick (.t 96) (.t 98) (.c (.bool false))⟩])
          (.cond (.t 99)
           (.reg [⟨(some 10), none, .move (.c (.int .i64 7))⟩])
           .skip))
         (.reg [⟨(some 100), none, .move (.t 9)⟩,
           ⟨(some 101), none, .bin .add (.base .i) true (.t 100) (.c (.int .i64 1))⟩,
           ⟨(some 9), none, .move (.t 101)⟩]))))))
    (.reg [⟨(some 102), none, .bin .add (.base .i) true (.t 78) (.c (.int .i64 1))⟩,
      ⟨(some 78), none, .move (.t 102)⟩]))))
def C4 : CC :=
 (.seq
  (.reg [⟨(some 2), none, .move (.c (.bool false))⟩])
  (.seq
   (.seq
    (.reg [⟨(some 14), none, .call 5 []⟩,
      ⟨(some 15), none, .un .not (.t 14)⟩])
    (.cond (.t 15)
     (.seq
      (.reg [⟨(some 2), none, .move (.c (.bool false))⟩])
      .ret)
     .skip))
   (.seq
    (.seq
     (.reg [⟨(some 16), none, .move (.t 0)⟩,
       ⟨(some 17), none, .len .slice (.t 16)⟩,
       ⟨(some 18), none, .bin .gtr (.base .i) true (.t 17) (.c (.int .i64 60))⟩])
     (.cond (.t 18)
      (.seq
       (.reg [⟨(some 2), none, .move (.c (.bool true))⟩])
       .ret)
      .skip))
    (.seq
     (.reg [⟨(some 3), none, .move (.c (.int .i64 0))⟩])
     (.seq
      (.seq
       (.reg [⟨(some 19), none, .move (.t 0)⟩,
         ⟨(some 20), none, .len .slice (.t 19)⟩,
         ⟨(some 21), none, .move (.c (.int .i64 0))⟩])
       (.block 0
        (.loop B4_0)))
      (.seq
       (.reg [⟨(some 9), none, .move (.c (.int .i64 0))⟩,
         ⟨(some 10), none, .move (.c (.int .i64 0))⟩])
       (.seq
        (.seq
         (.reg [⟨(some 76), none, .move (.t 0)⟩,
           ⟨(some 77), none, .len .slice (.t 76)⟩,
           ⟨(some 78), none, .move (.c (.int .i64 0))⟩])
         (.block 3
          (.loop B4_1)))
        (.seq
         (.reg [⟨(some 103), none, .move (.t 0)⟩,
           ⟨(some 104), none, .call 8 [(.t 103)]⟩,
           ⟨(some 105), none, .move (.t 3)⟩,
           ⟨(some 106), none, .bin .eql (.base .i) false (.t 104) (.t 105)⟩,
           ⟨(some 107), none, .move (.t 106)⟩,
           ⟨(some 108), (some (107, true)), .move (.t 0)⟩,
           ⟨(some 109), (some (107, true)), .call 9 [(.t 108)]⟩,
           ⟨(some 110), (some (107, true)), .move (.t 10)⟩,
           ⟨(some 111), (some (107, true)), .bin .eql (.base .i) false (.t 109) (.t 110)⟩,
           ⟨(some 112), none, .pick (.t 107) (.t 111) (.c (.bool false))⟩,
           ⟨(some 2), none, .move (.t 112)⟩])
         .ret))))))))
def F4 : CF := ⟨C4, [(.tmp 2)]⟩
end Go.Ex
namespace Go.Ex
open Go
structure Ev where
  id : Int
  time : Int
  kind : Int
  a : Int
  b : Int
  name : List Nat
  text : List Nat
  vk : Int
  vn : Int
  vs : List Nat
  vl : AV
  ok : vl.isCell = true
def Ev.cells (e : Ev) : List AV := [.int .i64 e.id, .int .i64 e.time, .int .i64 e.kind, .int .i64 e.a, .int .i64 e.b, .str e.name, .str e.text, .int .i64 e.vk, .int .i64 e.vn, .str e.vs, e.vl]
def nrow (h : Heap) (e : Ev) : Heap := (h.new (.row (freshCells [(.int .i64 0), (.int .i64 0), (.int .i64 0), (.int .i64 0), (.int .i64 0), (.str []), (.str []), (.int .i64 0), (.int .i64 0), (.str []), .nils]) 0)).2.put h.next (.row (freshCells e.cells) 0)
theorem st_new (h : Heap) (e : Ev) : stA (h.new (.row (freshCells [(.int .i64 0), (.int .i64 0), (.int .i64 0), (.int .i64 0), (.int .i64 0), (.str []), (.str []), (.int .i64 0), (.int .i64 0), (.str []), .nils]) 0)).2 11 (.ptr h.next 0 0) (.agg e.cells) = some (nrow h e) := by
  have h1 : (AV.agg e.cells).cells = e.cells := rfl
  simp only [stA, h1]
  rw [if_pos (by rfl)]
  unfold stCells
  rw [Heap.get_new, if_pos rfl]
  simp only []
  rw [if_pos (by rfl)]
  have h2 : stAt 0 (freshCells [(.int .i64 0), (.int .i64 0), (.int .i64 0), (.int .i64 0), (.int .i64 0), (.str []), (.str []), (.int .i64 0), (.int .i64 0), (.str []), .nils]) 0 e.cells = some (freshCells e.cells) := by
    simp only [stAt, freshCells, Ev.cells, List.map_cons, List.map_nil, stList, e.ok, if_true]
    rfl
  rw [h2]
  rfl
theorem nrow_next (h : Heap) (e : Ev) : (nrow h e).next = h.next + 1 := rfl
theorem nrow_get (h : Heap) (e : Ev) (j : Nat) : (nrow h e).get j = if j = h.next then some (.row (freshCells e.cells) 0) else h.get j := by
  unfold nrow
  rw [Heap.get_put, Heap.get_new]
  by_cases hj : j = h.next <;> simp [hj]
theorem loA_congr {h h' : Heap} {r : Nat} (e : h'.get r = h.get r) (agg : Bool) (n v o : Nat) : loA h' agg n (.ptr r v o) = loA h agg n (.ptr r v o) := by
  simp only [loA, ldVar, ldC, e]
theorem lo_time (h : Heap) (e : Ev) : loA (nrow h e) false 1 (.ptr h.next 0 1) = some (.int .i64 e.time) := by
  simp only [loA, ldVar, ldC, nrow_get, if_true]; rfl
theorem lo_kind (h : Heap) (e : Ev) : loA (nrow h e) false 1 (.ptr h.next 0 2) = some (.int .i64 e.kind) := by
  simp only [loA, ldVar, ldC, nrow_get, if_true]; rfl
theorem lo_a (h : Heap) (e : Ev) : loA (nrow h e) false 1 (.ptr h.next 0 3) = some (.int .i64 e.a) := by
  simp only [loA, ldVar, ldC, nrow_get, if_true]; rfl
theorem lo_b (h : Heap) (e : Ev) : loA (nrow h e) false 1 (.ptr h.next 0 4) = some (.int .i64 e.b) := by
  simp only [loA, ldVar, ldC, nrow_get, if_true]; rfl
def HL (h : Heap) (evs : List Ev) : Prop := (∃ o, h.get 0 = some (.ro (freshCells (evs.flatMap Ev.cells)) o)) ∧ 0 < h.next
theorem ldList_fresh : ∀ (l : List AV) (n : Nat), n ≤ l.length → ldList 0 (freshCells l) n = some (l.take n)
  | _, 0, _ => by simp [ldList]
  | [], n + 1, h => by simp at h
  | a :: l, n + 1, h => by
    have ih := ldList_fresh l n (by simpa using h)
    have : Nat.ble 0 0 = true := rfl
    simp only [freshCells, List.map_cons, ldList, this, if_true] at ih ⊢
    rw [ih]; rfl
theorem freshCells_drop (l : List AV) (n : Nat) : (freshCells l).drop n = freshCells (l.drop n) := by simp [freshCells, List.map_drop]
theorem flat_at : ∀ (evs : List Ev) (i : Nat) (hi : i < evs.length), ((evs.flatMap Ev.cells).drop (i * 11)).take 11 = (evs[i]).cells
  | e :: l, 0, _ => by
    have : e.cells.length = 11 := rfl
    simp [this]
  | e :: l, i + 1, h => by
    have h1 : e.cells.length = 11 := rfl
    have ih := flat_at l i (by simpa using h)
    have : (i + 1) * 11 = 11 + i * 11 := by omega
    rw [this, List.flatMap_cons, ← List.drop_drop, List.drop_left' h1]
    exact ih
theorem flat_length (evs : List Ev) : (evs.flatMap Ev.cells).length = evs.length * 11 := by
  induction evs with
  | nil => rfl
  | cons e l ih =>
    have : e.cells.length = 11 := rfl
    simp only [List.flatMap_cons, List.length_append, this, ih, List.length_cons]; omega
theorem HL.ld {h : Heap} {evs : List Ev} (hl : HL h evs) {i : Nat} (hi : i < evs.length) : loA h true 11 (.ptr 0 0 (i * 11)) = some (.agg (evs[i]).cells) := by
  have h1 : 11 ≤ ((evs.flatMap Ev.cells).drop (i * 11)).length := by simp only [List.length_drop, flat_length]; omega
  obtain ⟨⟨o, ho⟩, _⟩ := hl
  simp only [loA, ldVar, ldC, ho, freshCells_drop]
  rw [ldList_fresh _ _ h1, flat_at _ _ hi]
  rfl
structure Keep (h h' : Heap) : Prop where
  next : h.next ≤ h'.next
  get : ∀ j, j < h.next → h'.get j = h.get j
theorem Keep.refl (h : Heap) : Keep h h := ⟨Nat.le_refl _, fun _ _ => rfl⟩
theorem Keep.trans {a b c : Heap} (h : Keep a b) (h' : Keep b c) : Keep a c :=
  ⟨Nat.le_trans h.next h'.next, fun j hj => (h'.get j (Nat.lt_of_lt_of_le hj h.next)).trans (h.get j hj)⟩
theorem Keep.nrow (h : Heap) (e : Ev) : Keep h (nrow h e) := ⟨by rw [nrow_next]; omega, fun j hj => by rw [nrow_get, if_neg (by omega)]⟩
theorem Keep.new (h : Heap) (o : AObj) : Keep h (h.new o).2 := ⟨by rw [Heap.new_next]; omega, fun j hj => by rw [Heap.get_new, if_neg (by omega)]⟩
theorem HL.keep {h h' : Heap} {evs : List Ev} (hl : HL h evs) (k : Keep h h') : HL h' evs := ⟨let ⟨o, ho⟩ := hl.1; ⟨o, (k.get 0 hl.2).trans ho⟩, Nat.lt_of_lt_of_le hl.2 k.next⟩
theorem Keep.lo {h h' : Heap} (k : Keep h h') {r : Nat} (hr : r < h.next) (agg : Bool) (n v o : Nat) : loA h' agg n (.ptr r v o) = loA h agg n (.ptr r v o) := loA_congr (k.get r hr) agg n v o
theorem loop_run {body : St → Option (XR × St)} {n : Nat} {I : Nat → St → Prop} {Q : XR → St → Prop}
    (hstep : ∀ i s, i < n → I i s → (∃ s', body s = some (.normal, s') ∧ I (i + 1) s') ∨ (∃ x s', body s = some (x, s') ∧ x ≠ .normal ∧ Q x s'))
    (hend : ∀ s, I n s → ∃ x s', body s = some (x, s') ∧ x ≠ .normal ∧ Q x s') :
    ∀ (k i : Nat) (s : St), i + k = n → I i s → ∀ lf, k < lf → ∃ x s', loopN body lf s = some (x, s') ∧ Q x s' := by
  have stop : ∀ {s x s'} {lf : Nat}, body s = some (x, s') → x ≠ .normal → Q x s' → ∃ x s', loopN body (lf + 1) s = some (x, s') ∧ Q x s' := by
    intro s x s' lf h1 h2 h3
    refine ⟨x, s', ?_, h3⟩
    simp only [loopN, h1]
    cases x <;> first | rfl | exact absurd rfl h2
  intro k
  induction k with
  | zero =>
    intro i s hi hI lf hlf
    obtain ⟨lf, rfl⟩ : ∃ m, lf = m + 1 := ⟨lf - 1, by omega⟩
    have : i = n := by omega
    subst this
    obtain ⟨x, s', h1, h2, h3⟩ := hend s hI
    exact stop h1 h2 h3
  | succ k ih =>
    intro i s hi hI lf hlf
    obtain ⟨lf, rfl⟩ : ∃ m, lf = m + 1 := ⟨lf - 1, by omega⟩
    rcases hstep i s (by omega) hI with ⟨s', h1, h2⟩ | ⟨x, s', h1, h2, h3⟩
    · obtain ⟨x, s'', h4, h5⟩ := ih (i + 1) s' (by omega) h2 lf (by omega)
      refine ⟨x, s'', ?_, h5⟩
      simp only [loopN, h1]
      exact h4
    · exact stop h1 h2 h3
theorem call_body {E : Env} {lf d f : Nat} {args : List AV} {h : Heap} {F : CF} {x : XR} {s : St} {l : List AV} (ho : E.orc f args h = none) (hf : E.fns f = some F)
    (hx : exec (callN E lf d) lf F.body { tm := argTm args 0 .leaf, h := h, df := [] } = some (x, s)) (hn : ∀ i, x ≠ .exit i) (hd : s.df = []) (hr : resOf s.h s.tm F.res = some l) :
    callN E lf (d + 1) f args h = some (resVal l, s.h) := by
  simp only [callN, ho, hf, hx]
  cases x with
  | exit i => exact absurd rfl (hn i)
  | normal => simp only [hd, execDf, hr]
  | ret => simp only [hd, execDf, hr]
theorem res_tmp (h : Heap) (tm : Tm) (i : Nat) : resOf h tm [.tmp i] = some [(CX.t i).ev tm] := rfl
theorem ev_leaf (i : Nat) : (CX.t i).ev (.leaf : Tm) = .undef := rfl
theorem argTm_nil (i : Nat) (t : Tm) : argTm [] i t = t := rfl
theorem argTm_cons (a : AV) (ags : List AV) (i : Nat) (t : Tm) : argTm (a :: ags) i t = argTm ags (i + 1) (setDst t (some i) a) := rfl
def cnt (l : List Ev) (k a : Int) : Nat := (l.filter fun e => decide (e.kind = k ∧ e.a = a)).length
theorem cnt_snoc (l : List Ev) (e : Ev) (k a : Int) : cnt (l ++ [e]) k a = cnt l k a + if e.kind = k ∧ e.a = a then 1 else 0 := by
  unfold cnt
  rw [List.filter_append, List.length_append]
  congr 1
  by_cases h : e.kind = k ∧ e.a = a <;> simp [List.filter, h]
theorem cnt_le (l : List Ev) (k a : Int) : cnt l k a ≤ l.length := List.length_filter_le _ _
theorem take_snoc {α : Type} (l : List α) {i : Nat} (hi : i < l.length) : l.take (i + 1) = l.take i ++ [l[i]] := by
  rw [List.take_append_getElem hi]
end Go.Ex
namespace Go.Ex
open Go
structure I6 (evs : List Ev) (m : Nat) (k a : Int) (h0 : Heap) (i : Nat) (s : St) : Prop where
  t1 : (CX.t 1).ev s.tm = .int .i64 k
  t2 : (CX.t 2).ev s.tm = .int .i64 a
  t7 : (CX.t 7).ev s.tm = goI (cnt (evs.take i) k a)
  t10 : (CX.t 10).ev s.tm = .slice 0 0 0 m 0 11
  t11 : (CX.t 11).ev s.tm = goI m
  t12 : (CX.t 12).ev s.tm = goI i
  df : s.df = []
  hp : Keep h0 s.h
structure Q6 (evs : List Ev) (m : Nat) (k a : Int) (h0 : Heap) (x : XR) (s : St) : Prop where
  x : x = .exit 0
  t7 : (CX.t 7).ev s.tm = goI (cnt (evs.take m) k a)
  df : s.df = []
  hp : Keep h0 s.h
theorem asIdx_goI (n : Nat) : asIdx (goI n) = some n := rfl
theorem idxA_list {m i : Nat} (h : i < m) : idxA 11 (.slice 0 0 0 m 0 11) (goI i) = some (.ptr 0 0 (i * 11)) := by
  simp only [idxA, asIdx_goI, Nat.zero_add]
  have : Nat.blt i m = true := by simp only [Nat.blt]; exact Nat.ble_eq.symm ▸ h
  rw [this]; rfl
theorem goI_one : AV.int .i64 1 = goI 1 := rfl
theorem step6 {call : CallF} {lf : Nat} {evs : List Ev} {m : Nat} {k a : Int} {h0 : Heap} (hl : HL h0 evs) (hm : m ≤ evs.length) (hb : m ≤ 60) {i : Nat} {s : St} (hi : i < m) (I : I6 evs m k a h0 i s) :
    ∃ s', exec call lf B6_0 s = some (.normal, s') ∧ I6 evs m k a h0 (i + 1) s' := by
  obtain ⟨tm, h, df⟩ := s
  obtain ⟨t1, t2, t7, t10, t11, t12, rfl, hp⟩ := I
  simp only at t1 t2 t7 t10 t11 t12 hp
  have hlen : i < evs.length := by omega
  have hld := (hl.keep hp).ld hlen
  have hidx := idxA_list hi
  have hc : cnt (evs.take i) k a < 1000 := by have := cnt_le (evs.take i) k a; simp at this; omega
  have hsn := cnt_snoc (evs.take i) evs[i] k a
  rw [← take_snoc evs hlen] at hsn
  have hi' : i < 1000 := by omega
  have h1 : (1 : Nat) < 1000 := by decide
  have hm' : ∀ {x y : Int}, ¬ x = y → decide (x = y) = false := fun h => decide_eq_false h
  generalize evs[i] = e at *
  by_cases hk : e.kind = k
  · by_cases ha : e.a = a
    · simp only [hk, ha, and_self, if_true] at hsn
      refine ⟨?s1, ?a, ?b⟩
      case a =>
        unfold B6_0
        simp only [x_seq, x_reg, x_cond, x_block, x_skip, o_move, o_bin, o_idxs, o_load, o_alloc, o_store, o_fld, o_pick, o_guard, o_nil, ev_dst, ev_c, dst_none, t1, t2, t7, t10, t11, t12, b_lssI, hi, hidx, hld, st_new, fldA, Nat.zero_add, lo_kind, lo_a, b_eql, hk, ha,
          decide_true, wantA_bool, beq_self_eq_true, pickA, goI_one, b_addI _ _ _ _ hc h1, b_addI _ _ _ _ hi' h1, Nat.reduceEqDiff, if_true, if_false]
        rfl
      case b =>
        refine ⟨?_, ?_, ?_, ?_, ?_, ?_, rfl, hp.trans (Keep.nrow _ _)⟩ <;> simp only [ev_dst, Nat.reduceEqDiff, if_true, if_false, t1, t2, t10, t11, hsn]
    · simp only [ha, and_false, if_false, Nat.add_zero] at hsn
      refine ⟨?s2, ?a, ?b⟩
      case a =>
        unfold B6_0
        simp only [x_seq, x_reg, x_cond, x_block, x_skip, o_move, o_bin, o_idxs, o_load, o_alloc, o_store, o_fld, o_pick, o_guard, o_nil, ev_dst, ev_c, dst_none, t1, t2, t7, t10, t11, t12, b_lssI, hi, hidx, hld, st_new, fldA, Nat.zero_add, lo_kind, lo_a, b_eql, hk, ha,
          decide_true, decide_false, wantA_bool, beq_self_eq_true, pickA, goI_one, b_addI _ _ _ _ hc h1, b_addI _ _ _ _ hi' h1, Nat.reduceEqDiff, if_true, if_false]
        rfl
      case b =>
        refine ⟨?_, ?_, ?_, ?_, ?_, ?_, rfl, hp.trans (Keep.nrow _ _)⟩ <;> simp only [ev_dst, Nat.reduceEqDiff, if_true, if_false, t1, t2, t7, t10, t11, hsn]
  · simp only [hk, false_and, if_false, Nat.add_zero] at hsn
    refine ⟨?s3, ?a, ?b⟩
    case a =>
      unfold B6_0
      simp only [x_seq, x_reg, x_cond, x_block, x_skip, o_move, o_bin, o_idxs, o_load, o_alloc, o_store, o_fld, o_pick, o_guard, o_nil, ev_dst, ev_c, dst_none, t1, t2, t7, t10, t11, t12, b_lssI, hi, hidx, hld, st_new, fldA, Nat.zero_add, lo_kind, lo_a, b_eql, hk,
        decide_true, decide_false, wantA_bool, beq_self_eq_true, Bool.false_beq, Bool.not_true, pickA, goI_one, b_addI _ _ _ _ hc h1, b_addI _ _ _ _ hi' h1, Nat.reduceEqDiff, if_true, if_false]
      rfl
    case b =>
      refine ⟨?_, ?_, ?_, ?_, ?_, ?_, rfl, hp.trans (Keep.nrow _ _)⟩ <;> simp only [ev_dst, Nat.reduceEqDiff, if_true, if_false, t1, t2, t7, t10, t11, hsn]
theorem end6 {call : CallF} {lf : Nat} {evs : List Ev} {m : Nat} {k a : Int} {h0 : Heap} {s : St} (I : I6 evs m k a h0 m s) :
    ∃ x s', exec call lf B6_0 s = some (x, s') ∧ x ≠ .normal ∧ Q6 evs m k a h0 x s' := by
  obtain ⟨tm, h, df⟩ := s
  obtain ⟨t1, t2, t7, t10, t11, t12, rfl, hp⟩ := I
  simp only at t1 t2 t7 t10 t11 t12 hp
  refine ⟨?x, ?s, ?a, ?c, ?b⟩
  case a =>
    unfold B6_0
    simp only [x_seq, x_reg, x_cond, x_exit, o_bin, o_nil, ev_dst, t11, t12, b_lssI, Nat.lt_irrefl, decide_false, if_true]
    rfl
  case c => intro h; cases h
  case b => exact ⟨rfl, by simp only [ev_dst, Nat.reduceEqDiff, if_false, t7], rfl, hp⟩
theorem count_ok {E : Env} {lf d : Nat} {evs : List Ev} {m : Nat} {k a : Int} {h : Heap} (hf : E.fns 6 = some F6) (ho : ∀ ags h, E.orc 6 ags h = none) (hl : HL h evs) (hm : m ≤ evs.length) (hb : m ≤ 60) (hlf : 60 < lf) :
    ∃ h', callN E lf (d + 1) 6 [.slice 0 0 0 m 0 11, .int .i64 k, .int .i64 a] h = some (goI (cnt (evs.take m) k a), h') ∧ Keep h h' := by
  obtain ⟨tm0, htm⟩ : ∃ tm, tm = argTm [.slice 0 0 0 m 0 11, .int .i64 k, .int .i64 a] 0 (.leaf : Tm) := ⟨_, rfl⟩
  have e0 : (CX.t 0).ev tm0 = .slice 0 0 0 m 0 11 := by rw [htm]; simp only [argTm_cons, argTm_nil, ev_dst, Nat.reduceEqDiff, if_true, if_false, Nat.reduceAdd]
  have e1 : (CX.t 1).ev tm0 = .int .i64 k := by rw [htm]; simp only [argTm_cons, argTm_nil, ev_dst, Nat.reduceEqDiff, if_true, if_false, Nat.reduceAdd]
  have e2 : (CX.t 2).ev tm0 = .int .i64 a := by rw [htm]; simp only [argTm_cons, argTm_nil, ev_dst, Nat.reduceEqDiff, if_true, if_false, Nat.reduceAdd]
  let tm1 : Tm := setDst (setDst (setDst (setDst (setDst tm0 (some 6) (goI 0)) (some 7) (goI 0)) (some 10) (.slice 0 0 0 m 0 11)) (some 11) (goI m)) (some 12) (goI 0)
  have I0 : I6 evs m k a h 0 ⟨tm1, h, []⟩ := by
    refine ⟨?_, ?_, ?_, ?_, ?_, ?_, rfl, Keep.refl h⟩ <;> simp only [tm1, ev_dst, Nat.reduceEqDiff, if_true, if_false, e1, e2]
    rfl
  obtain ⟨x, s', h1, hq⟩ := loop_run (body := exec (callN E lf d) lf B6_0) (I := I6 evs m k a h) (Q := Q6 evs m k a h) (fun i s hi hI => .inl (step6 hl hm hb hi hI)) (fun s hI => end6 hI) m 0 ⟨tm1, h, []⟩ (by omega) I0 lf (by omega)
  obtain ⟨rfl, q7, qd, qp⟩ := hq
  obtain ⟨tm', h', df'⟩ := s'
  simp only at q7 qd qp
  subst qd
  have hx : exec (callN E lf d) lf F6.body ⟨tm0, h, []⟩ = some (.ret, ⟨setDst (setDst tm' (some 29) (goI (cnt (evs.take m) k a))) (some 6) (goI (cnt (evs.take m) k a)), h', []⟩) := by
    show exec (callN E lf d) lf C6 ⟨tm0, h, []⟩ = _
    unfold C6
    have hz : AV.int .i64 0 = goI 0 := rfl
    simp only [x_seq, x_reg, x_block, x_loop, x_ret, o_move, o_len, o_nil, ev_dst, ev_c, e0, lenA, Nat.reduceEqDiff, if_true, if_false, hz]
    simp only [tm1] at h1
    rw [h1]
    simp only [show Nat.beq 0 0 = true from rfl, if_true, x_reg, x_seq, x_ret, o_move, o_nil, ev_dst, q7]
  rw [htm] at hx
  refine ⟨h', ?_, qp⟩
  rw [call_body (ho _ _) hf hx (fun i e => by cases e) rfl (res_tmp _ _ _)]
  simp only [ev_dst, if_true]
  rfl
end Go.Ex
namespace Go.Ex
open Go
theorem w_tt : wantA (.bool true) true = true := rfl
theorem w_tf : wantA (.bool true) false = false := rfl
theorem w_ft : wantA (.bool false) true = false := rfl
theorem w_ff : wantA (.bool false) false = true := rfl
def keyIs (k : AV) (a : Int) : Bool := match k with
  | .int _ b => decide (a = b)
  | _ => false
def look : List ME → Int → Option AV
  | [], _ => none
  | e :: es, a => if keyIs e.key a then some e.val else look es a
def IntKeys (es : List ME) : Prop := ∀ e, e ∈ es → ∃ b, e.key = .int .i64 b
def MapIs (h : Heap) (m : Nat) (f : Int → Option AV) : Prop := ∃ es c, h.get m = some (.map es c) ∧ IntKeys es ∧ ∀ a, look es a = f a
theorem find_look (a : Int) : ∀ (es : List ME) (i : Nat), IntKeys es → (findKey' (.base .i) (.int .i64 a) es i = some none ∧ look es a = none) ∨
    ∃ j e, findKey' (.base .i) (.int .i64 a) es i = some (some (i + j, e)) ∧ look es a = some e.val ∧
      ∀ v, IntKeys (modAt es j fun e => { e with key := .int .i64 a, val := v }) ∧ ∀ x, look (modAt es j fun e => { e with key := .int .i64 a, val := v }) x = if x = a then some v else look es x
  | [], i, _ => .inl ⟨rfl, rfl⟩
  | e :: es, i, hk => by
    obtain ⟨b, hb⟩ := hk e (List.mem_cons_self ..)
    have hk' : IntKeys es := fun e' he => hk e' (List.mem_cons_of_mem _ he)
    have e1 : aEq false (.base .i) (.int .i64 a) e.key = some (a == b) := by rw [hb]; rfl
    by_cases hab : a = b
    · refine .inr ⟨0, e, ?_, ?_, fun v => ⟨?_, fun x => ?_⟩⟩
      · have e2 : (a == b) = true := by simpa using hab
        simp only [findKey', e1, e2]; rfl
      · simp only [look, hb, keyIs, hab, decide_true, if_true]
      · intro e' he
        simp only [modAt, List.mem_cons] at he
        rcases he with rfl | he
        · exact ⟨a, rfl⟩
        · exact hk' e' he
      · simp only [modAt, look, keyIs, hb]
        by_cases hx : x = a
        · simp [hx]
        · have : ¬ x = b := fun e => hx (e.trans hab.symm)
          simp [hx, this]
    · have e2 : (a == b) = false := by simpa using hab
      rcases find_look a es (i + 1) hk' with ⟨h1, h2⟩ | ⟨j, e', h1, h2, h3⟩
      · refine .inl ⟨?_, ?_⟩
        · simp only [findKey', e1, e2, h1]
        · simp only [look, hb, keyIs, hab, decide_false, h2]; rfl
      · refine .inr ⟨j + 1, e', ?_, ?_, fun v => ⟨?_, fun x => ?_⟩⟩
        · simp only [findKey', e1, e2, h1]
          rw [show i + 1 + j = i + (j + 1) by omega]
        · simp only [look, hb, keyIs, hab, decide_false, h2]; rfl
        · intro e'' he
          simp only [modAt, List.mem_cons] at he
          rcases he with rfl | he
          · exact ⟨b, hb⟩
          · exact (h3 v).1 e'' he
        · simp only [modAt, look, keyIs, hb]
          by_cases hx : x = b
          · have : ¬ x = a := fun e => hab (e.symm.trans hx)
            simp only [hx, decide_true, if_true]
            rw [if_neg (fun e => hab e.symm)]
          · simp only [hx, decide_false]
            exact (h3 v).2 x
theorem look_snoc (es : List ME) (a : Int) (v : AV) (c : Nat) (x : Int) (hn : look es a = none) : look (es ++ [⟨.int .i64 a, v, c⟩]) x = if x = a then some v else look es x := by
  induction es with
  | nil => simp [look, keyIs]
  | cons e es ih =>
    simp only [look] at hn
    have hn' : keyIs e.key a = false ∧ look es a = none := by
      cases hq : keyIs e.key a with
      | true => rw [hq] at hn; cases hn
      | false => rw [hq] at hn; exact ⟨rfl, hn⟩
    simp only [List.cons_append, look, ih hn'.2]
    by_cases hx : x = a
    · subst hx; rw [hn'.1]; simp
    · simp only [hx, if_false]
theorem MapIs.lk {h : Heap} {m : Nat} {f : Int → Option AV} (hm : MapIs h m f) (z : AV) (ok : Bool) (a : Int) :
    lkA h z ok (.map m) (.int .i64 a) = some (if ok then .tup [(f a).getD z, .bool (f a).isSome] else (f a).getD z) := by
  obtain ⟨es, c, h1, h2, h3⟩ := hm
  simp only [lkA, h1]
  have : findKey (.base .i) (.int .i64 a) es 0 = findKey' (.base .i) (.int .i64 a) es 0 := rfl
  rw [this, ← h3 a]
  rcases find_look a es 0 h2 with ⟨q1, q2⟩ | ⟨j, e, q1, q2, _⟩ <;> rw [q1, q2] <;> rfl
theorem MapIs.upd {h : Heap} {m : Nat} {f : Int → Option AV} (hm : MapIs h m f) (a : Int) (v : AV) :
    ∃ h', muA h (.map m) (.int .i64 a) v = some h' ∧ MapIs h' m (fun x => if x = a then some v else f x) ∧ h'.next = h.next ∧ ∀ j, j ≠ m → h'.get j = h.get j := by
  obtain ⟨es, c, h1, h2, h3⟩ := hm
  simp only [muA, mapOf, h1]
  have e0 : findKey (.base .i) (.int .i64 a) es 0 = findKey' (.base .i) (.int .i64 a) es 0 := rfl
  rw [e0]
  rcases find_look a es 0 h2 with ⟨q1, q2⟩ | ⟨j, e, q1, q2, q3⟩ <;> rw [q1]
  · refine ⟨_, rfl, ⟨_, _, by rw [Heap.get_put, if_pos rfl], ?_, fun x => ?_⟩, rfl, fun j hj => by rw [Heap.get_put, if_neg hj]⟩
    · intro e he
      rcases List.mem_append.1 he with he | he
      · exact h2 e he
      · rw [List.mem_singleton.1 he]; exact ⟨a, rfl⟩
    · rw [look_snoc _ _ _ _ _ q2, h3 x]
  · refine ⟨_, rfl, ⟨_, _, by rw [Heap.get_put, if_pos rfl], ?_, fun x => ?_⟩, rfl, fun j hj => by rw [Heap.get_put, if_neg hj]⟩
    · rw [Nat.zero_add]; exact (q3 v).1
    · rw [Nat.zero_add, (q3 v).2 x, h3 x]
theorem MapIs.get {h h' : Heap} {m : Nat} {f : Int → Option AV} (hm : MapIs h m f) (e : h'.get m = h.get m) : MapIs h' m f := by
  obtain ⟨es, c, h1, h2⟩ := hm; exact ⟨es, c, e.trans h1, h2⟩
theorem MapIs.keep {h h' : Heap} {m : Nat} {f : Int → Option AV} (hm : MapIs h m f) (k : Keep h h') (hl : m < h.next) : MapIs h' m f := hm.get (k.get m hl)
theorem MapIs.congr {h : Heap} {m : Nat} {f g : Int → Option AV} (hm : MapIs h m f) (e : ∀ a, f a = g a) : MapIs h m g := by
  obtain ⟨es, c, h1, h2, h3⟩ := hm; exact ⟨es, c, h1, h2, fun a => (h3 a).trans (e a)⟩
theorem MapIs.new (h : Heap) : MapIs (h.new (.map [] 0)).2 h.next (fun _ => none) :=
  ⟨[], 0, by rw [Heap.get_new, if_pos rfl], fun _ he => (by cases he), fun _ => rfl⟩
inductive First (err : List Ev → Ev → Nat) (evs : List Ev) : Nat → Prop where
  | none (h : ∀ i (hi : i < evs.length), err (evs.take i) evs[i] = 0) : First err evs 0
  | at (i : Nat) (hi : i < evs.length) (h : ∀ j (hj : j < evs.length), j < i → err (evs.take j) evs[j] = 0) {r : Nat} (hr : err (evs.take i) evs[i] = r) (h0 : r ≠ 0) : First err evs r
theorem First.unique {err : List Ev → Ev → Nat} {evs : List Ev} {r r' : Nat} (h : First err evs r) (h' : First err evs r') : r = r' := by
  cases h with
  | none h => cases h' with
    | none _ => rfl
    | «at» i hi _ hr h0 => exact absurd (hr.symm.trans (h i hi)) h0
  | «at» i hi hc hr h0 => cases h' with
    | none h => exact absurd (hr.symm.trans (h i hi)) h0
    | «at» j hj hc' hr' h0' =>
      rcases Nat.lt_trichotomy i j with hlt | rfl | hlt
      · exact absurd (hr.symm.trans (hc' i hi hlt)) h0
      · exact hr.symm.trans hr'
      · exact absurd (hr'.symm.trans (hc j hj hlt)) h0'
def dueV (l : List Ev) (a : Int) : Int := l.foldl (fun d e => if e.kind = 11 ∧ e.a = a then e.b else d) 0
theorem dueV_snoc (l : List Ev) (e : Ev) (a : Int) : dueV (l ++ [e]) a = if e.kind = 11 ∧ e.a = a then e.b else dueV l a := by
  unfold dueV; rw [List.foldl_append]; rfl
def errT (l : List Ev) (e : Ev) : Nat :=
  if e.kind = 11 then (if 0 < cnt l 11 e.a then 5 else 0)
  else if e.kind = 12 ∨ e.kind = 13 then
    (if cnt l 11 e.a = 0 then 4 else if 0 < cnt l 12 e.a + cnt l 13 e.a then 181 else if e.kind = 12 ∧ e.time < dueV l e.a then 1 else 0)
  else 0
end Go.Ex
namespace Go.Ex
open Go
theorem ok_snoc {err : List Ev → Ev → Nat} {evs : List Ev} {i : Nat} (h : ∀ j (hj : j < evs.length), j < i → err (evs.take j) evs[j] = 0) (hi : i < evs.length) (h' : err (evs.take i) evs[i] = 0) :
    ∀ j (hj : j < evs.length), j < i + 1 → err (evs.take j) evs[j] = 0 := by
  intro j hj hji
  rcases Nat.lt_or_ge j i with h1 | h1
  · exact h j hj h1
  · have : j = i := by omega
    subst this; exact h'
end Go.Ex
namespace Go.Ex
open Go
def ends (l : List Ev) (a : Int) : Nat := cnt l 8 a + cnt l 9 a + cnt l 10 a
def errA (l : List Ev) (e : Ev) : Nat :=
  if e.kind = 7 then (if 0 < cnt l 7 e.a then 5 else 0)
  else if e.kind = 8 ∨ e.kind = 9 ∨ e.kind = 10 then (if cnt l 7 e.a = 0 then 4 else if 0 < ends l e.a then 181 else 0)
  else 0
structure I8 (evs : List Ev) (h0 : Heap) (i : Nat) (s : St) : Prop where
  t3 : (CX.t 3).ev s.tm = .map h0.next
  t7 : (CX.t 7).ev s.tm = .slice 0 0 0 evs.length 0 11
  t8 : (CX.t 8).ev s.tm = goI evs.length
  t9 : (CX.t 9).ev s.tm = goI i
  df : s.df = []
  hp : Keep h0 s.h
  nx : h0.next + 1 ≤ s.h.next
  m1 : MapIs s.h h0.next (fun a => if 0 < ends (evs.take i) a then some (.int .i64 2) else if 0 < cnt (evs.take i) 7 a then some (.int .i64 1) else none)
  im : ∀ a, 0 < ends (evs.take i) a → 0 < cnt (evs.take i) 7 a
  ok : ∀ j (hj : j < evs.length), j < i → errA (evs.take j) evs[j] = 0
structure Q8 (evs : List Ev) (h0 : Heap) (x : XR) (s : St) : Prop where
  df : s.df = []
  hp : Keep h0 s.h
  h : (x = .exit 0 ∧ ∀ j (hj : j < evs.length), errA (evs.take j) evs[j] = 0) ∨ (x = .ret ∧ ∃ r, (CX.t 2).ev s.tm = goI r ∧ First errA evs r)
theorem step8 {call : CallF} {lf : Nat} {evs : List Ev} {h0 : Heap} (hl : HL h0 evs) (hb : evs.length ≤ 60) {i : Nat} {s : St} (hi : i < evs.length) (I : I8 evs h0 i s) :
    (∃ s', exec call lf B8_0 s = some (.normal, s') ∧ I8 evs h0 (i + 1) s') ∨ ∃ x s', exec call lf B8_0 s = some (x, s') ∧ x ≠ .normal ∧ Q8 evs h0 x s' := by
  obtain ⟨tm, h, df⟩ := s
  obtain ⟨t3, t7, t8, t9, rfl, hp, nx, m1, im, ok⟩ := I
  simp only at t3 t7 t8 t9 hp nx m1
  have hld := (hl.keep hp).ld hi
  have hidx := idxA_list hi
  have hi' : i < 1000 := by omega
  have h1 : (1 : Nat) < 1000 := by decide
  have hadd : aBin .add (.base .i) true (goI i) (.int .i64 1) = some (goI (i + 1)) := b_addI _ _ _ _ hi' h1
  have htk := take_snoc evs hi
  obtain ⟨e, he⟩ : ∃ e, evs[i] = e := ⟨_, rfl⟩
  rw [he] at hld htk
  have k1 := Keep.nrow h e
  have k2 := hp.trans k1
  have M1 := m1.keep k1 (by omega)
  have lk1 := M1.lk (.int .i64 0) false e.a
  obtain ⟨h2, mu1, N1, nx1, kk1⟩ := M1.upd e.a (.int .i64 1)
  obtain ⟨h3, mu2, N2, nx2, kk2⟩ := M1.upd e.a (.int .i64 2)
  rw [nrow_next] at nx1 nx2
  have bad : ∀ r, errA (evs.take i) e = r → r ≠ 0 → First errA evs r := fun r h1 h2 => .at i hi ok (by rw [he]; exact h1) h2
  have good : errA (evs.take i) e = 0 → ∀ j (hj : j < evs.length), j < i + 1 → errA (evs.take j) evs[j] = 0 := fun h => ok_snoc ok hi (by rw [he]; exact h)
  have a0 : ∀ (k a : Int), ¬ (e.kind = k ∧ e.a = a) → cnt (evs.take i ++ [e]) k a = cnt (evs.take i) k a := fun k a hh => by rw [cnt_snoc, if_neg hh]; rfl
  have ime := im e.a
  by_cases k7 : e.kind = 7
  · by_cases c7 : 0 < cnt (evs.take i) 7 e.a
    · have err : errA (evs.take i) e = 5 := by simp only [errA, k7, if_true, c7]
      by_cases ce : 0 < ends (evs.take i) e.a
      · simp only [ce, if_true, if_false, Option.getD_some, Bool.false_eq_true] at lk1
        refine .inr ⟨?x1, ?s1, ?a1, ?c1, ?b1⟩
        case a1 =>
          unfold B8_0
          simp only [x_seq, x_reg, x_cond, x_block, x_exit, x_ret, x_skip, o_move, o_bin, o_idxs, o_load, o_alloc, o_store, o_fld, o_lookup, o_mapupd, o_nil, ev_dst, ev_c, dst_none, fldA, st_new, lo_kind, lo_a, b_lssI, b_eql, b_gtr, Nat.zero_add, decide_true, decide_false, Int.reduceLT, Nat.reduceEqDiff, Int.reduceEq, ne_eq, reduceCtorEq, not_false_eq_true, Nat.reduceBEq, if_true, if_false, t3, t7, t8, t9, hi, hidx, hld, hadd, k7, lk1]
          rfl
        case c1 => intro h; cases h
        case b1 => exact ⟨rfl, k2, .inr ⟨rfl, 5, by simp only [ev_dst, Nat.reduceEqDiff, if_true, if_false] <;> rfl, bad _ err (by decide)⟩⟩
      · simp only [c7, ce, if_true, if_false, Option.getD_some, Bool.false_eq_true] at lk1
        refine .inr ⟨?x2, ?s2, ?a2, ?c2, ?b2⟩
        case a2 =>
          unfold B8_0
          simp only [x_seq, x_reg, x_cond, x_block, x_exit, x_ret, x_skip, o_move, o_bin, o_idxs, o_load, o_alloc, o_store, o_fld, o_lookup, o_mapupd, o_nil, ev_dst, ev_c, dst_none, fldA, st_new, lo_kind, lo_a, b_lssI, b_eql, b_gtr, Nat.zero_add, decide_true, decide_false, Int.reduceLT, Nat.reduceEqDiff, Int.reduceEq, ne_eq, reduceCtorEq, not_false_eq_true, Nat.reduceBEq, if_true, if_false, t3, t7, t8, t9, hi, hidx, hld, hadd, k7, lk1]
          rfl
        case c2 => intro h; cases h
        case b2 => exact ⟨rfl, k2, .inr ⟨rfl, 5, by simp only [ev_dst, Nat.reduceEqDiff, if_true, if_false] <;> rfl, bad _ err (by decide)⟩⟩
    · have ce : ¬ 0 < ends (evs.take i) e.a := fun h => c7 (ime h)
      simp only [c7, ce, if_false, Option.getD_none, Bool.false_eq_true] at lk1
      have hen : ∀ a, ends (evs.take i ++ [e]) a = ends (evs.take i) a := fun a => by
        have q : ∀ k : Int, k ≠ 7 → ¬ (e.kind = k ∧ e.a = a) := fun k hk h => hk (h.1.symm.trans k7)
        unfold ends; rw [a0 8 a (q 8 (by decide)), a0 9 a (q 9 (by decide)), a0 10 a (q 10 (by decide))]
      refine .inl ⟨?s3, ?a3, ?b3⟩
      case a3 =>
        unfold B8_0
        simp only [x_seq, x_reg, x_cond, x_block, x_exit, x_ret, x_skip, o_move, o_bin, o_idxs, o_load, o_alloc, o_store, o_fld, o_lookup, o_mapupd, o_nil, ev_dst, ev_c, dst_none, fldA, st_new, lo_kind, lo_a, b_lssI, b_eql, b_gtr, Nat.zero_add, decide_true, decide_false, Int.reduceLT, Nat.reduceEqDiff, Int.reduceEq, ne_eq, reduceCtorEq, not_false_eq_true, Nat.reduceBEq, if_true, if_false, t3, t7, t8, t9, hi, hidx, hld, hadd, k7, lk1, mu1]
        rfl
      case b3 =>
        refine ⟨?_, ?_, ?_, ?_, rfl, ⟨by simp only [nx1]; have := hp.next; omega, fun j hj => (kk1 j (by omega)).trans (k2.get j hj)⟩, ?_, ?_, ?_, good (by simp only [errA, k7, if_true, c7, if_false])⟩
        · simp only [ev_dst, Nat.reduceEqDiff, if_false, t3]
        · simp only [ev_dst, Nat.reduceEqDiff, if_false, t7]
        · simp only [ev_dst, Nat.reduceEqDiff, if_false, t8]
        · simp only [ev_dst, if_true]
        · simp only [nx1]; omega
        · refine N1.congr fun a => ?_
          rw [htk, hen]
          by_cases ha : a = e.a
          · subst ha; simp [k7, cnt_snoc, ce]
          · have ha' : ¬ e.a = a := fun h => ha h.symm
            simp only [ha, if_false, a0 7 a (fun h => ha' h.2)]
        · intro a; rw [htk, hen, cnt_snoc]; intro h; have := im a h; omega
  · by_cases ke : e.kind = 8 ∨ e.kind = 9 ∨ e.kind = 10
    · have hn7 : ∀ a, cnt (evs.take i ++ [e]) 7 a = cnt (evs.take i) 7 a := fun a => a0 7 a fun h => k7 h.1
      by_cases c7 : cnt (evs.take i) 7 e.a = 0
      · have c7' : ¬ 0 < cnt (evs.take i) 7 e.a := by omega
        have ce : ¬ 0 < ends (evs.take i) e.a := fun h => c7' (ime h)
        simp only [c7', ce, if_false, Option.getD_none, Bool.false_eq_true] at lk1
        have err : errA (evs.take i) e = 4 := by simp only [errA, k7, ke, c7, if_true, if_false]
        rcases ke with k8 | k8 | k8
        · clear k7
          refine .inr ⟨?x4, ?s4, ?a4, ?c4, ?b4⟩
          case a4 =>
            unfold B8_0
            simp only [x_seq, x_reg, x_cond, x_block, x_exit, x_ret, x_skip, o_move, o_bin, o_idxs, o_load, o_alloc, o_store, o_fld, o_lookup, o_mapupd, o_nil, ev_dst, ev_c, dst_none, fldA, st_new, lo_kind, lo_a, b_lssI, b_eql, b_gtr, Nat.zero_add, decide_true, decide_false, Int.reduceLT, Nat.reduceEqDiff, Int.reduceEq, ne_eq, reduceCtorEq, not_false_eq_true, Nat.reduceBEq, if_true, if_false, t3, t7, t8, t9, hi, hidx, hld, hadd, k8, lk1]
            rfl
          case c4 => intro h; cases h
          case b4 => exact ⟨rfl, k2, .inr ⟨rfl, 4, by simp only [ev_dst, Nat.reduceEqDiff, if_true, if_false] <;> rfl, bad _ err (by decide)⟩⟩
        · clear k7
          refine .inr ⟨?x5, ?s5, ?a5, ?c5, ?b5⟩
          case a5 =>
            unfold B8_0
            simp only [x_seq, x_reg, x_cond, x_block, x_exit, x_ret, x_skip, o_move, o_bin, o_idxs, o_load, o_alloc, o_store, o_fld, o_lookup, o_mapupd, o_nil, ev_dst, ev_c, dst_none, fldA, st_new, lo_kind, lo_a, b_lssI, b_eql, b_gtr, Nat.zero_add, decide_true, decide_false, Int.reduceLT, Nat.reduceEqDiff, Int.reduceEq, ne_eq, reduceCtorEq, not_false_eq_true, Nat.reduceBEq, if_true, if_false, t3, t7, t8, t9, hi, hidx, hld, hadd, k8, lk1]
            rfl
          case c5 => intro h; cases h
          case b5 => exact ⟨rfl, k2, .inr ⟨rfl, 4, by simp only [ev_dst, Nat.reduceEqDiff, if_true, if_false] <;> rfl, bad _ err (by decide)⟩⟩
        · clear k7
          refine .inr ⟨?x6, ?s6, ?a6, ?c6, ?b6⟩
          case a6 =>
            unfold B8_0
            simp only [x_seq, x_reg, x_cond, x_block, x_exit, x_ret, x_skip, o_move, o_bin, o_idxs, o_load, o_alloc, o_store, o_fld, o_lookup, o_mapupd, o_nil, ev_dst, ev_c, dst_none, fldA, st_new, lo_kind, lo_a, b_lssI, b_eql, b_gtr, Nat.zero_add, decide_true, decide_false, Int.reduceLT, Nat.reduceEqDiff, Int.reduceEq, ne_eq, reduceCtorEq, not_false_eq_true, Nat.reduceBEq, if_true, if_false, t3, t7, t8, t9, hi, hidx, hld, hadd, k8, lk1]
            rfl
          case c6 => intro h; cases h
          case b6 => exact ⟨rfl, k2, .inr ⟨rfl, 4, by simp only [ev_dst, Nat.reduceEqDiff, if_true, if_false] <;> rfl, bad _ err (by decide)⟩⟩
      · have c7' : 0 < cnt (evs.take i) 7 e.a := by omega
        by_cases ce : 0 < ends (evs.take i) e.a
        · simp only [ce, if_true, if_false, Option.getD_some, Bool.false_eq_true] at lk1
          have err : errA (evs.take i) e = 181 := by simp only [errA, k7, ke, c7, ce, if_true, if_false]
          rcases ke with k8 | k8 | k8
          · clear k7
            refine .inr ⟨?x7, ?s7, ?a7, ?c7, ?b7⟩
            case a7 =>
              unfold B8_0
              simp only [x_seq, x_reg, x_cond, x_block, x_exit, x_ret, x_skip, o_move, o_bin, o_idxs, o_load, o_alloc, o_store, o_fld, o_lookup, o_mapupd, o_nil, ev_dst, ev_c, dst_none, fldA, st_new, lo_kind, lo_a, b_lssI, b_eql, b_gtr, Nat.zero_add, decide_true, decide_false, Int.reduceLT, Nat.reduceEqDiff, Int.reduceEq, ne_eq, reduceCtorEq, not_false_eq_true, Nat.reduceBEq, if_true, if_false, t3, t7, t8, t9, hi, hidx, hld, hadd, k8, lk1]
              rfl
            case c7 => intro h; cases h
            case b7 => exact ⟨rfl, k2, .inr ⟨rfl, 181, by simp only [ev_dst, Nat.reduceEqDiff, if_true, if_false] <;> rfl, bad _ err (by decide)⟩⟩
          · clear k7
            refine .inr ⟨?x8, ?s8, ?a8, ?c8, ?b8⟩
            case a8 =>
              unfold B8_0
              simp only [x_seq, x_reg, x_cond, x_block, x_exit, x_ret, x_skip, o_move, o_bin, o_idxs, o_load, o_alloc, o_store, o_fld, o_lookup, o_mapupd, o_nil, ev_dst, ev_c, dst_none, fldA, st_new, lo_kind, lo_a, b_lssI, b_eql, b_gtr, Nat.zero_add, decide_true, decide_false, Int.reduceLT, Nat.reduceEqDiff, Int.reduceEq, ne_eq, reduceCtorEq, not_false_eq_true, Nat.reduceBEq, if_true, if_false, t3, t7, t8, t9, hi, hidx, hld, hadd, k8, lk1]
              rfl
            case c8 => intro h; cases h
            case b8 => exact ⟨rfl, k2, .inr ⟨rfl, 181, by simp only [ev_dst, Nat.reduceEqDiff, if_true, if_false] <;> rfl, bad _ err (by decide)⟩⟩
          · clear k7
            refine .inr ⟨?x9, ?s9, ?a9, ?c9, ?b9⟩
            case a9 =>
              unfold B8_0
              simp only [x_seq, x_reg, x_cond, x_block, x_exit, x_ret, x_skip, o_move, o_bin, o_idxs, o_load, o_alloc, o_store, o_fld, o_lookup, o_mapupd, o_nil, ev_dst, ev_c, dst_none, fldA, st_new, lo_kind, lo_a, b_lssI, b_eql, b_gtr, Nat.zero_add, decide_true, decide_false, Int.reduceLT, Nat.reduceEqDiff, Int.reduceEq, ne_eq, reduceCtorEq, not_false_eq_true, Nat.reduceBEq, if_true, if_false, t3, t7, t8, t9, hi, hidx, hld, hadd, k8, lk1]
              rfl
            case c9 => intro h; cases h
            case b9 => exact ⟨rfl, k2, .inr ⟨rfl, 181, by simp only [ev_dst, Nat.reduceEqDiff, if_true, if_false] <;> rfl, bad _ err (by decide)⟩⟩
        · simp only [c7', ce, if_true, if_false, Option.getD_some, Bool.false_eq_true] at lk1
          have err : errA (evs.take i) e = 0 := by simp only [errA, k7, ke, c7, ce, if_true, if_false]
          have hen : ∀ a, 0 < ends (evs.take i ++ [e]) a ↔ (a = e.a ∨ 0 < ends (evs.take i) a) := fun a => by
            unfold ends
            rw [cnt_snoc, cnt_snoc, cnt_snoc]
            by_cases ha : a = e.a
            · subst ha
              have : 0 < cnt (evs.take i) 8 e.a + (if e.kind = 8 ∧ e.a = e.a then 1 else 0) + (cnt (evs.take i) 9 e.a + if e.kind = 9 ∧ e.a = e.a then 1 else 0) + (cnt (evs.take i) 10 e.a + if e.kind = 10 ∧ e.a = e.a then 1 else 0) := by
                rcases ke with k | k | k <;> simp [k] <;> omega
              exact ⟨fun _ => .inl rfl, fun _ => this⟩
            · have ha' : ¬ e.a = a := fun h => ha h.symm
              simp only [ha, ha', and_false, if_false, Nat.add_zero, false_or]
          have fin1 : ∀ a, (if a = e.a then some (.int .i64 2) else if 0 < ends (evs.take i) a then some (.int .i64 2) else if 0 < cnt (evs.take i) 7 a then some (.int .i64 1) else none : Option AV) =
              if 0 < ends (evs.take i ++ [e]) a then some (.int .i64 2) else if 0 < cnt (evs.take i ++ [e]) 7 a then some (.int .i64 1) else none := fun a => by
            simp only [hen, hn7]
            by_cases ha : a = e.a
            · simp only [ha, true_or, if_true, eq_self]
            · simp only [ha, false_or, if_false]
          have fin2 : ∀ a, 0 < ends (evs.take i ++ [e]) a → 0 < cnt (evs.take i ++ [e]) 7 a := fun a h => by
            rw [hn7]
            rcases (hen a).1 h with rfl | h
            · exact c7'
            · exact im a h
          rcases ke with k8 | k8 | k8
          · clear k7
            refine .inl ⟨?s10, ?a10, ?b10⟩
            case a10 =>
              unfold B8_0
              simp only [x_seq, x_reg, x_cond, x_block, x_exit, x_ret, x_skip, o_move, o_bin, o_idxs, o_load, o_alloc, o_store, o_fld, o_lookup, o_mapupd, o_nil, ev_dst, ev_c, dst_none, fldA, st_new, lo_kind, lo_a, b_lssI, b_eql, b_gtr, Nat.zero_add, decide_true, decide_false, Int.reduceLT, Nat.reduceEqDiff, Int.reduceEq, ne_eq, reduceCtorEq, not_false_eq_true, Nat.reduceBEq, if_true, if_false, t3, t7, t8, t9, hi, hidx, hld, hadd, k8, lk1, mu2]
              rfl
            case b10 =>
              refine ⟨?_, ?_, ?_, ?_, rfl, ⟨by simp only [nx2]; have := hp.next; omega, fun j hj => (kk2 j (by omega)).trans (k2.get j hj)⟩, ?_, ?_, ?_, good err⟩
              · simp only [ev_dst, Nat.reduceEqDiff, if_false, t3]
              · simp only [ev_dst, Nat.reduceEqDiff, if_false, t7]
              · simp only [ev_dst, Nat.reduceEqDiff, if_false, t8]
              · simp only [ev_dst, if_true]
              · simp only [nx2]; omega
              · rw [htk]; exact N2.congr fin1
              · rw [htk]; exact fin2
          · clear k7
            refine .inl ⟨?s11, ?a11, ?b11⟩
            case a11 =>
              unfold B8_0
              simp only [x_seq, x_reg, x_cond, x_block, x_exit, x_ret, x_skip, o_move, o_bin, o_idxs, o_load, o_alloc, o_store, o_fld, o_lookup, o_mapupd, o_nil, ev_dst, ev_c, dst_none, fldA, st_new, lo_kind, lo_a, b_lssI, b_eql, b_gtr, Nat.zero_add, decide_true, decide_false, Int.reduceLT, Nat.reduceEqDiff, Int.reduceEq, ne_eq, reduceCtorEq, not_false_eq_true, Nat.reduceBEq, if_true, if_false, t3, t7, t8, t9, hi, hidx, hld, hadd, k8, lk1, mu2]
              rfl
            case b11 =>
              refine ⟨?_, ?_, ?_, ?_, rfl, ⟨by simp only [nx2]; have := hp.next; omega, fun j hj => (kk2 j (by omega)).trans (k2.get j hj)⟩, ?_, ?_, ?_, good err⟩
              · simp only [ev_dst, Nat.reduceEqDiff, if_false, t3]
              · simp only [ev_dst, Nat.reduceEqDiff, if_false, t7]
              · simp only [ev_dst, Nat.reduceEqDiff, if_false, t8]
              · simp only [ev_dst, if_true]
              · simp only [nx2]; omega
              · rw [htk]; exact N2.congr fin1
              · rw [htk]; exact fin2
          · clear k7
            refine .inl ⟨?s12, ?a12, ?b12⟩
            case a12 =>
              unfold B8_0
              simp only [x_seq, x_reg, x_cond, x_block, x_exit, x_ret, x_skip, o_move, o_bin, o_idxs, o_load, o_alloc, o_store, o_fld, o_lookup, o_mapupd, o_nil, ev_dst, ev_c, dst_none, fldA, st_new, lo_kind, lo_a, b_lssI, b_eql, b_gtr, Nat.zero_add, decide_true, decide_false, Int.reduceLT, Nat.reduceEqDiff, Int.reduceEq, ne_eq, reduceCtorEq, not_false_eq_true, Nat.reduceBEq, if_true, if_false, t3, t7, t8, t9, hi, hidx, hld, hadd, k8, lk1, mu2]
              rfl
            case b12 =>
              refine ⟨?_, ?_, ?_, ?_, rfl, ⟨by simp only [nx2]; have := hp.next; omega, fun j hj => (kk2 j (by omega)).trans (k2.get j hj)⟩, ?_, ?_, ?_, good err⟩
              · simp only [ev_dst, Nat.reduceEqDiff, if_false, t3]
              · simp only [ev_dst, Nat.reduceEqDiff, if_false, t7]
              · simp only [ev_dst, Nat.reduceEqDiff, if_false, t8]
              · simp only [ev_dst, if_true]
              · simp only [nx2]; omega
              · rw [htk]; exact N2.congr fin1
              · rw [htk]; exact fin2
    · have k8 : ¬ e.kind = 8 := fun h => ke (.inl h)
      have k9 : ¬ e.kind = 9 := fun h => ke (.inr (.inl h))
      have k10 : ¬ e.kind = 10 := fun h => ke (.inr (.inr h))
      have err : errA (evs.take i) e = 0 := by simp only [errA, k7, k8, k9, k10, or_self, if_false]
      have hen : ∀ a, ends (evs.take i ++ [e]) a = ends (evs.take i) a := fun a => by
        unfold ends; rw [a0 8 a (fun h => k8 h.1), a0 9 a (fun h => k9 h.1), a0 10 a (fun h => k10 h.1)]
      refine .inl ⟨?s13, ?a13, ?b13⟩
      case a13 =>
        unfold B8_0
        simp only [x_seq, x_reg, x_cond, x_block, x_exit, x_ret, x_skip, o_move, o_bin, o_idxs, o_load, o_alloc, o_store, o_fld, o_lookup, o_mapupd, o_nil, ev_dst, ev_c, dst_none, fldA, st_new, lo_kind, lo_a, b_lssI, b_eql, b_gtr, Nat.zero_add, decide_true, decide_false, Int.reduceLT, Nat.reduceEqDiff, Int.reduceEq, ne_eq, reduceCtorEq, not_false_eq_true, Nat.reduceBEq, if_true, if_false, t3, t7, t8, t9, hi, hidx, hld, hadd, k7, k8, k9, k10]
        rfl
      case b13 =>
        refine ⟨?_, ?_, ?_, ?_, rfl, k2, ?_, ?_, ?_, good err⟩
        · simp only [ev_dst, Nat.reduceEqDiff, if_false, t3]
        · simp only [ev_dst, Nat.reduceEqDiff, if_false, t7]
        · simp only [ev_dst, Nat.reduceEqDiff, if_false, t8]
        · simp only [ev_dst, if_true]
        · rw [nrow_next]; omega
        · refine M1.congr fun a => ?_
          rw [htk, hen, a0 7 a (fun h => k7 h.1)]
        · intro a; rw [htk, hen, a0 7 a (fun h => k7 h.1)]; exact im a
theorem end8 {call : CallF} {lf : Nat} {evs : List Ev} {h0 : Heap} {s : St} (I : I8 evs h0 evs.length s) :
    ∃ x s', exec call lf B8_0 s = some (x, s') ∧ x ≠ .normal ∧ Q8 evs h0 x s' := by
  obtain ⟨tm, h, df⟩ := s
  obtain ⟨t3, t7, t8, t9, rfl, hp, nx, m1, im, ok⟩ := I
  simp only at t3 t7 t8 t9 hp nx m1
  refine ⟨?x, ?s, ?a, ?c, ?b⟩
  case a =>
    unfold B8_0
    simp only [x_seq, x_reg, x_cond, x_exit, o_bin, o_nil, ev_dst, t8, t9, b_lssI, Nat.lt_irrefl, decide_false, if_true]
    rfl
  case c => intro h; cases h
  case b => exact ⟨rfl, hp, .inl ⟨rfl, fun j hj => ok j hj hj⟩⟩
theorem activities_ok {E : Env} {lf d : Nat} {evs : List Ev} {h : Heap} (hf : E.fns 8 = some F8) (ho : ∀ ags h, E.orc 8 ags h = none) (hl : HL h evs) (hb : evs.length ≤ 60) (hlf : 60 < lf) :
    ∃ r h', callN E lf (d + 1) 8 [.slice 0 0 0 evs.length 0 11] h = some (goI r, h') ∧ First errA evs r ∧ Keep h h' := by
  obtain ⟨tm0, htm⟩ : ∃ tm, tm = argTm [.slice 0 0 0 evs.length 0 11] 0 (.leaf : Tm) := ⟨_, rfl⟩
  have e0 : (CX.t 0).ev tm0 = .slice 0 0 0 evs.length 0 11 := by rw [htm]; simp only [argTm_cons, argTm_nil, ev_dst, Nat.reduceEqDiff, if_true, if_false, Nat.reduceAdd]
  have hz : AV.int .i64 0 = goI 0 := rfl
  let hA : Heap := (h.new (.map [] 0)).2
  let tm1 : Tm := setDst (setDst (setDst (setDst (setDst (setDst tm0 (some 2) (goI 0)) (some 6) (.map h.next)) (some 3) (.map h.next)) (some 7) (.slice 0 0 0 evs.length 0 11)) (some 8) (goI evs.length)) (some 9) (goI 0)
  have kA : Keep h hA := Keep.new _ _
  have I0 : I8 evs h 0 ⟨tm1, hA, []⟩ := by
    refine ⟨?_, ?_, ?_, ?_, rfl, kA, Nat.le_refl _, ?_, ?_, fun j hj h0 => absurd h0 (Nat.not_lt_zero _)⟩
    · simp only [tm1, ev_dst, Nat.reduceEqDiff, if_true, if_false]
    · simp only [tm1, ev_dst, Nat.reduceEqDiff, if_true, if_false]
    · simp only [tm1, ev_dst, Nat.reduceEqDiff, if_true, if_false]
    · simp only [tm1, ev_dst, Nat.reduceEqDiff, if_true, if_false]
    · refine (MapIs.new h).congr fun a => ?_
      rfl
    · intro a h; exact absurd h (Nat.lt_irrefl 0)
  obtain ⟨x, s', h1, hq⟩ := loop_run (body := exec (callN E lf d) lf B8_0) (I := I8 evs h) (Q := Q8 evs h) (fun i s hi hI => step8 hl hb hi hI) (fun s hI => end8 hI) evs.length 0 ⟨tm1, hA, []⟩ (by omega) I0 lf (by omega)
  obtain ⟨tm', h', df'⟩ := s'
  obtain ⟨qd, qp, qh⟩ := hq
  simp only at qd qp qh
  subst qd
  simp only [tm1, hA] at h1
  rcases qh with ⟨rfl, hok⟩ | ⟨rfl, r, hr, hF⟩
  · refine ⟨0, h', ?_, .none hok, qp⟩
    refine call_body (s := ⟨setDst tm' (some 2) (goI 0), h', []⟩) (x := .ret) (ho _ _) hf ?_ (fun i e => by cases e) rfl (res_tmp _ _ _)
    rw [← htm]
    show exec (callN E lf d) lf C8 ⟨tm0, h, []⟩ = _
    unfold C8
    simp only [x_seq, x_reg, x_block, x_loop, x_ret, o_move, o_len, o_mkmap, o_nil, ev_dst, ev_c, e0, lenA, Nat.reduceEqDiff, if_true, if_false, hz]
    rw [h1]
    simp only [show Nat.beq 0 0 = true from rfl, if_true, x_reg, x_seq, x_ret, o_move, o_nil, ev_dst, ev_c]
  · refine ⟨r, h', ?_, hF, qp⟩
    rw [← hr]
    refine call_body (s := ⟨tm', h', []⟩) (x := .ret) (ho _ _) hf ?_ (fun i e => by cases e) rfl (res_tmp _ _ _)
    rw [← htm]
    show exec (callN E lf d) lf C8 ⟨tm0, h, []⟩ = _
    unfold C8
    simp only [x_seq, x_reg, x_block, x_loop, x_ret, o_move, o_len, o_mkmap, o_nil, ev_dst, ev_c, e0, lenA, Nat.reduceEqDiff, if_true, if_false, hz]
    rw [h1]
end Go.Ex
namespace Go.Ex
open Go
theorem nb12 : Nat.beq 1 2 = false := rfl
theorem nb11 : Nat.beq 1 1 = true := rfl
theorem nb45 : Nat.beq 4 5 = false := rfl
theorem nb44 : Nat.beq 4 4 = true := rfl
def tk (e : Ev) : Option Nat := if e.kind = 2 then some 0 else if e.kind = 3 then some 1 else if e.kind = 4 ∨ e.kind = 5 ∨ e.kind = 6 then some 2 else none
def nt (l : List Ev) : Nat := (l.filter fun e => (tk e).isSome).length
def errK (l : List Ev) (e : Ev) : Nat := match tk e with
  | some k => if k = nt l % 3 then 0 else 7
  | none => 0
theorem nt_snoc (l : List Ev) (e : Ev) : nt (l ++ [e]) = nt l + if (tk e).isSome then 1 else 0 := by
  unfold nt
  rw [List.filter_append, List.length_append]
  congr 1
  by_cases h : (tk e).isSome = true <;> simp [List.filter, h]
theorem nt_le (l : List Ev) : nt l ≤ l.length := List.length_filter_le _ _
theorem b_remI (ek : EK) (c : Bool) (x : Nat) : aBin .rem ek c (goI x) (.int .i64 3) = some (goI (x % 3)) := by
  simp only [aBin, decide_true, if_true, aInt, goI]
  rfl
structure I9 (evs : List Ev) (h0 : Heap) (i : Nat) (s : St) : Prop where
  t3 : (CX.t 3).ev s.tm = goI (nt (evs.take i) % 3)
  t7 : (CX.t 7).ev s.tm = .slice 0 0 0 evs.length 0 11
  t8 : (CX.t 8).ev s.tm = goI evs.length
  t9 : (CX.t 9).ev s.tm = goI i
  df : s.df = []
  hp : Keep h0 s.h
  ok : ∀ j (hj : j < evs.length), j < i → errK (evs.take j) evs[j] = 0
structure Q9 (evs : List Ev) (h0 : Heap) (x : XR) (s : St) : Prop where
  df : s.df = []
  hp : Keep h0 s.h
  h : (x = .exit 0 ∧ ∀ j (hj : j < evs.length), errK (evs.take j) evs[j] = 0) ∨ (x = .ret ∧ ∃ r, (CX.t 2).ev s.tm = goI r ∧ First errK evs r)
theorem step9 {call : CallF} {lf : Nat} {evs : List Ev} {h0 : Heap} (hl : HL h0 evs) (hb : evs.length ≤ 60) {i : Nat} {s : St} (hi : i < evs.length) (I : I9 evs h0 i s) :
    (∃ s', exec call lf B9_0 s = some (.normal, s') ∧ I9 evs h0 (i + 1) s') ∨ ∃ x s', exec call lf B9_0 s = some (x, s') ∧ x ≠ .normal ∧ Q9 evs h0 x s' := by
  obtain ⟨tm, h, df⟩ := s
  obtain ⟨t3, t7, t8, t9, rfl, hp, ok⟩ := I
  simp only at t3 t7 t8 t9 hp
  have hld := (hl.keep hp).ld hi
  have hidx := idxA_list hi
  have hi' : i < 1000 := by omega
  have h1 : (1 : Nat) < 1000 := by decide
  have hadd : aBin .add (.base .i) true (goI i) (.int .i64 1) = some (goI (i + 1)) := b_addI _ _ _ _ hi' h1
  have hsadd : aBin .add (.base .i) true (goI (nt (evs.take i) % 3)) (.int .i64 1) = some (goI (nt (evs.take i) % 3 + 1)) := b_addI _ _ _ _ (by omega) h1
  have htk := take_snoc evs hi
  obtain ⟨e, he⟩ : ∃ e, evs[i] = e := ⟨_, rfl⟩
  rw [he] at hld htk
  have k2 := hp.trans (Keep.nrow h e)
  have bad : ∀ r, errK (evs.take i) e = r → r ≠ 0 → First errK evs r := fun r h1 h2 => .at i hi ok (by rw [he]; exact h1) h2
  have good : errK (evs.take i) e = 0 → ∀ j (hj : j < evs.length), j < i + 1 → errK (evs.take j) evs[j] = 0 := fun h => ok_snoc ok hi (by rw [he]; exact h)
  have same : ∀ k, tk e = some k → k = nt (evs.take i) % 3 → errK (evs.take i) e = 0 ∧ nt (evs.take (i + 1)) % 3 = (nt (evs.take i) % 3 + 1) % 3 := fun k h1 h2 => by
    constructor
    · simp only [errK, h1]; rw [if_pos h2]
    · rw [htk, nt_snoc, h1]; simp only [Option.isSome_some, if_true]; omega
  have other : ∀ k, tk e = some k → ¬ k = nt (evs.take i) % 3 → errK (evs.take i) e = 7 := fun k h1 h2 => by simp only [errK, h1]; rw [if_neg h2]
  by_cases k2' : e.kind = 2
  · skip
    have ht : tk e = some 0 := by simp only [tk, k2', if_true]
    by_cases hm : 0 = nt (evs.take i) % 3
    · obtain ⟨err, hnt⟩ := same _ ht hm
      have hne : aBin .neq (.base .i) false (goI (nt (evs.take i) % 3)) (.int .i64 0) = some (.bool false) := by unfold goI; rw [b_neq, ← hm]; rfl
      refine .inl ⟨?s1, ?a1, ?b1⟩
      case a1 =>
        unfold B9_0
        simp only [x_seq, x_reg, x_cond, x_block, x_exit, x_ret, x_skip, o_move, o_bin, o_idxs, o_load, o_alloc, o_store, o_fld, o_pick, o_guard, o_nil, ev_dst, ev_c, dst_none, fldA, pickA, w_tt, w_tf, w_ft, w_ff, st_new, lo_kind, b_lssI, b_eql, Nat.zero_add, decide_true, decide_false, Nat.reduceEqDiff, Int.reduceEq, Nat.reduceBEq, nb12, nb11, nb45, nb44, Bool.false_eq_true, if_true, if_false, t3, t7, t8, t9, hi, hidx, hld, hadd, hsadd, b_remI, hne, k2']
        rfl
      case b1 =>
        refine ⟨?_, ?_, ?_, ?_, rfl, k2, good err⟩
        · simp only [ev_dst, Nat.reduceEqDiff, if_true, if_false, hnt]
        · simp only [ev_dst, Nat.reduceEqDiff, if_false, t7]
        · simp only [ev_dst, Nat.reduceEqDiff, if_false, t8]
        · simp only [ev_dst, if_true]
    · have err := other _ ht hm
      have hne : aBin .neq (.base .i) false (goI (nt (evs.take i) % 3)) (.int .i64 0) = some (.bool true) := by
        unfold goI; rw [b_neq, decide_eq_true]
        show ¬ ((nt (evs.take i) % 3 : Nat) : Int) = ((0 : Nat) : Int)
        intro h; exact hm (Int.ofNat.inj h).symm
      refine .inr ⟨?x2, ?s2, ?a2, ?c2, ?b2⟩
      case a2 =>
        unfold B9_0
        simp only [x_seq, x_reg, x_cond, x_block, x_exit, x_ret, x_skip, o_move, o_bin, o_idxs, o_load, o_alloc, o_store, o_fld, o_pick, o_guard, o_nil, ev_dst, ev_c, dst_none, fldA, pickA, w_tt, w_tf, w_ft, w_ff, st_new, lo_kind, b_lssI, b_eql, Nat.zero_add, decide_true, decide_false, Nat.reduceEqDiff, Int.reduceEq, Nat.reduceBEq, nb12, nb11, nb45, nb44, Bool.false_eq_true, if_true, if_false, t3, t7, t8, t9, hi, hidx, hld, hadd, hsadd, b_remI, hne, k2']
        rfl
      case c2 => intro h; cases h
      case b2 => exact ⟨rfl, k2, .inr ⟨rfl, 7, by simp only [ev_dst, Nat.reduceEqDiff, if_true, if_false] <;> rfl, bad _ err (by decide)⟩⟩
  by_cases k3 : e.kind = 3
  · skip
    have ht : tk e = some 1 := by simp [tk, k3]
    by_cases hm : 1 = nt (evs.take i) % 3
    · obtain ⟨err, hnt⟩ := same _ ht hm
      have hne : aBin .neq (.base .i) false (goI (nt (evs.take i) % 3)) (.int .i64 1) = some (.bool false) := by unfold goI; rw [b_neq, ← hm]; rfl
      refine .inl ⟨?s3, ?a3, ?b3⟩
      case a3 =>
        unfold B9_0
        simp only [x_seq, x_reg, x_cond, x_block, x_exit, x_ret, x_skip, o_move, o_bin, o_idxs, o_load, o_alloc, o_store, o_fld, o_pick, o_guard, o_nil, ev_dst, ev_c, dst_none, fldA, pickA, w_tt, w_tf, w_ft, w_ff, st_new, lo_kind, b_lssI, b_eql, Nat.zero_add, decide_true, decide_false, Nat.reduceEqDiff, Int.reduceEq, Nat.reduceBEq, nb12, nb11, nb45, nb44, Bool.false_eq_true, if_true, if_false, t3, t7, t8, t9, hi, hidx, hld, hadd, hsadd, b_remI, hne, k3]
        rfl
      case b3 =>
        refine ⟨?_, ?_, ?_, ?_, rfl, k2, good err⟩
        · simp only [ev_dst, Nat.reduceEqDiff, if_true, if_false, hnt]
        · simp only [ev_dst, Nat.reduceEqDiff, if_false, t7]
        · simp only [ev_dst, Nat.reduceEqDiff, if_false, t8]
        · simp only [ev_dst, if_true]
    · have err := other _ ht hm
      have hne : aBin .neq (.base .i) false (goI (nt (evs.take i) % 3)) (.int .i64 1) = some (.bool true) := by
        unfold goI; rw [b_neq, decide_eq_true]
        show ¬ ((nt (evs.take i) % 3 : Nat) : Int) = ((1 : Nat) : Int)
        intro h; exact hm (Int.ofNat.inj h).symm
      refine .inr ⟨?x4, ?s4, ?a4, ?c4, ?b4⟩
      case a4 =>
        unfold B9_0
        simp only [x_seq, x_reg, x_cond, x_block, x_exit, x_ret, x_skip, o_move, o_bin, o_idxs, o_load, o_alloc, o_store, o_fld, o_pick, o_guard, o_nil, ev_dst, ev_c, dst_none, fldA, pickA, w_tt, w_tf, w_ft, w_ff, st_new, lo_kind, b_lssI, b_eql, Nat.zero_add, decide_true, decide_false, Nat.reduceEqDiff, Int.reduceEq, Nat.reduceBEq, nb12, nb11, nb45, nb44, Bool.false_eq_true, if_true, if_false, t3, t7, t8, t9, hi, hidx, hld, hadd, hsadd, b_remI, hne, k3]
        rfl
      case c4 => intro h; cases h
      case b4 => exact ⟨rfl, k2, .inr ⟨rfl, 7, by simp only [ev_dst, Nat.reduceEqDiff, if_true, if_false] <;> rfl, bad _ err (by decide)⟩⟩
  by_cases ko : e.kind = 4 ∨ e.kind = 5 ∨ e.kind = 6
  · rcases ko with k4 | k4 | k4
    · clear k2' k3
      have ht : tk e = some 2 := by simp [tk, k4]
      by_cases hm : 2 = nt (evs.take i) % 3
      · obtain ⟨err, hnt⟩ := same _ ht hm
        have hne : aBin .neq (.base .i) false (goI (nt (evs.take i) % 3)) (.int .i64 2) = some (.bool false) := by unfold goI; rw [b_neq, ← hm]; rfl
        refine .inl ⟨?s5, ?a5, ?b5⟩
        case a5 =>
          unfold B9_0
          simp only [x_seq, x_reg, x_cond, x_block, x_exit, x_ret, x_skip, o_move, o_bin, o_idxs, o_load, o_alloc, o_store, o_fld, o_pick, o_guard, o_nil, ev_dst, ev_c, dst_none, fldA, pickA, w_tt, w_tf, w_ft, w_ff, st_new, lo_kind, b_lssI, b_eql, Nat.zero_add, decide_true, decide_false, Nat.reduceEqDiff, Int.reduceEq, Nat.reduceBEq, nb12, nb11, nb45, nb44, Bool.false_eq_true, if_true, if_false, t3, t7, t8, t9, hi, hidx, hld, hadd, hsadd, b_remI, hne, k4]
          rfl
        case b5 =>
          refine ⟨?_, ?_, ?_, ?_, rfl, k2, good err⟩
          · simp only [ev_dst, Nat.reduceEqDiff, if_true, if_false, hnt]
          · simp only [ev_dst, Nat.reduceEqDiff, if_false, t7]
          · simp only [ev_dst, Nat.reduceEqDiff, if_false, t8]
          · simp only [ev_dst, if_true]
      · have err := other _ ht hm
        have hne : aBin .neq (.base .i) false (goI (nt (evs.take i) % 3)) (.int .i64 2) = some (.bool true) := by
          unfold goI; rw [b_neq, decide_eq_true]
          show ¬ ((nt (evs.take i) % 3 : Nat) : Int) = ((2 : Nat) : Int)
          intro h; exact hm (Int.ofNat.inj h).symm
        refine .inr ⟨?x6, ?s6, ?a6, ?c6, ?b6⟩
        case a6 =>
          unfold B9_0
          simp only [x_seq, x_reg, x_cond, x_block, x_exit, x_ret, x_skip, o_move, o_bin, o_idxs, o_load, o_alloc, o_store, o_fld, o_pick, o_guard, o_nil, ev_dst, ev_c, dst_none, fldA, pickA, w_tt, w_tf, w_ft, w_ff, st_new, lo_kind, b_lssI, b_eql, Nat.zero_add, decide_true, decide_false, Nat.reduceEqDiff, Int.reduceEq, Nat.reduceBEq, nb12, nb11, nb45, nb44, Bool.false_eq_true, if_true, if_false, t3, t7, t8, t9, hi, hidx, hld, hadd, hsadd, b_remI, hne, k4]
          rfl
        case c6 => intro h; cases h
        case b6 => exact ⟨rfl, k2, .inr ⟨rfl, 7, by simp only [ev_dst, Nat.reduceEqDiff, if_true, if_false] <;> rfl, bad _ err (by decide)⟩⟩
    · clear k2' k3
      have ht : tk e = some 2 := by simp [tk, k4]
      by_cases hm : 2 = nt (evs.take i) % 3
      · obtain ⟨err, hnt⟩ := same _ ht hm
        have hne : aBin .neq (.base .i) false (goI (nt (evs.take i) % 3)) (.int .i64 2) = some (.bool false) := by unfold goI; rw [b_neq, ← hm]; rfl
        refine .inl ⟨?s7, ?a7, ?b7⟩
        case a7 =>
          unfold B9_0
          simp only [x_seq, x_reg, x_cond, x_block, x_exit, x_ret, x_skip, o_move, o_bin, o_idxs, o_load, o_alloc, o_store, o_fld, o_pick, o_guard, o_nil, ev_dst, ev_c, dst_none, fldA, pickA, w_tt, w_tf, w_ft, w_ff, st_new, lo_kind, b_lssI, b_eql, Nat.zero_add, decide_true, decide_false, Nat.reduceEqDiff, Int.reduceEq, Nat.reduceBEq, nb12, nb11, nb45, nb44, Bool.false_eq_true, if_true, if_false, t3, t7, t8, t9, hi, hidx, hld, hadd, hsadd, b_remI, hne, k4]
          rfl
        case b7 =>
          refine ⟨?_, ?_, ?_, ?_, rfl, k2, good err⟩
          · simp only [ev_dst, Nat.reduceEqDiff, if_true, if_false, hnt]
          · simp only [ev_dst, Nat.reduceEqDiff, if_false, t7]
          · simp only [ev_dst, Nat.reduceEqDiff, if_false, t8]
          · simp only [ev_dst, if_true]
      · have err := other _ ht hm
        have hne : aBin .neq (.base .i) false (goI (nt (evs.take i) % 3)) (.int .i64 2) = some (.bool true) := by
          unfold goI; rw [b_neq, decide_eq_true]
          show ¬ ((nt (evs.take i) % 3 : Nat) : Int) = ((2 : Nat) : Int)
          intro h; exact hm (Int.ofNat.inj h).symm
        refine .inr ⟨?x8, ?s8, ?a8, ?c8, ?b8⟩
        case a8 =>
          unfold B9_0
          simp only [x_seq, x_reg, x_cond, x_block, x_exit, x_ret, x_skip, o_move, o_bin, o_idxs, o_load, o_alloc, o_store, o_fld, o_pick, o_guard, o_nil, ev_dst, ev_c, dst_none, fldA, pickA, w_tt, w_tf, w_ft, w_ff, st_new, lo_kind, b_lssI, b_eql, Nat.zero_add, decide_true, decide_false, Nat.reduceEqDiff, Int.reduceEq, Nat.reduceBEq, nb12, nb11, nb45, nb44, Bool.false_eq_true, if_true, if_false, t3, t7, t8, t9, hi, hidx, hld, hadd, hsadd, b_remI, hne, k4]
          rfl
        case c8 => intro h; cases h
        case b8 => exact ⟨rfl, k2, .inr ⟨rfl, 7, by simp only [ev_dst, Nat.reduceEqDiff, if_true, if_false] <;> rfl, bad _ err (by decide)⟩⟩
    · clear k2' k3
      have ht : tk e = some 2 := by simp [tk, k4]
      by_cases hm : 2 = nt (evs.take i) % 3
      · obtain ⟨err, hnt⟩ := same _ ht hm
        have hne : aBin .neq (.base .i) false (goI (nt (evs.take i) % 3)) (.int .i64 2) = some (.bool false) := by unfold goI; rw [b_neq, ← hm]; rfl
        refine .inl ⟨?s9, ?a9, ?b9⟩
        case a9 =>
          unfold B9_0
          simp only [x_seq, x_reg, x_cond, x_block, x_exit, x_ret, x_skip, o_move, o_bin, o_idxs, o_load, o_alloc, o_store, o_fld, o_pick, o_guard, o_nil, ev_dst, ev_c, dst_none, fldA, pickA, w_tt, w_tf, w_ft, w_ff, st_new, lo_kind, b_lssI, b_eql, Nat.zero_add, decide_true, decide_false, Nat.reduceEqDiff, Int.reduceEq, Nat.reduceBEq, nb12, nb11, nb45, nb44, Bool.false_eq_true, if_true, if_false, t3, t7, t8, t9, hi, hidx, hld, hadd, hsadd, b_remI, hne, k4]
          rfl
        case b9 =>
          refine ⟨?_, ?_, ?_, ?_, rfl, k2, good err⟩
          · simp only [ev_dst, Nat.reduceEqDiff, if_true, if_false, hnt]
          · simp only [ev_dst, Nat.reduceEqDiff, if_false, t7]
          · simp only [ev_dst, Nat.reduceEqDiff, if_false, t8]
          · simp only [ev_dst, if_true]
      · have err := other _ ht hm
        have hne : aBin .neq (.base .i) false (goI (nt (evs.take i) % 3)) (.int .i64 2) = some (.bool true) := by
          unfold goI; rw [b_neq, decide_eq_true]
          show ¬ ((nt (evs.take i) % 3 : Nat) : Int) = ((2 : Nat) : Int)
          intro h; exact hm (Int.ofNat.inj h).symm
        refine .inr ⟨?x10, ?s10, ?a10, ?c10, ?b10⟩
        case a10 =>
          unfold B9_0
          simp only [x_seq, x_reg, x_cond, x_block, x_exit, x_ret, x_skip, o_move, o_bin, o_idxs, o_load, o_alloc, o_store, o_fld, o_pick, o_guard, o_nil, ev_dst, ev_c, dst_none, fldA, pickA, w_tt, w_tf, w_ft, w_ff, st_new, lo_kind, b_lssI, b_eql, Nat.zero_add, decide_true, decide_false, Nat.reduceEqDiff, Int.reduceEq, Nat.reduceBEq, nb12, nb11, nb45, nb44, Bool.false_eq_true, if_true, if_false, t3, t7, t8, t9, hi, hidx, hld, hadd, hsadd, b_remI, hne, k4]
          rfl
        case c10 => intro h; cases h
        case b10 => exact ⟨rfl, k2, .inr ⟨rfl, 7, by simp only [ev_dst, Nat.reduceEqDiff, if_true, if_false] <;> rfl, bad _ err (by decide)⟩⟩
  have ht : tk e = none := by simp only [tk, k2', k3, ko, if_false]
  have k4 : ¬ e.kind = 4 := fun h => ko (.inl h)
  have k5 : ¬ e.kind = 5 := fun h => ko (.inr (.inl h))
  have k6 : ¬ e.kind = 6 := fun h => ko (.inr (.inr h))
  refine .inl ⟨?s11, ?a11, ?b11⟩
  case a11 =>
    unfold B9_0
    simp only [x_seq, x_reg, x_cond, x_block, x_exit, x_ret, x_skip, o_move, o_bin, o_idxs, o_load, o_alloc, o_store, o_fld, o_pick, o_guard, o_nil, ev_dst, ev_c, dst_none, fldA, pickA, w_tt, w_tf, w_ft, w_ff, st_new, lo_kind, b_lssI, b_eql, Nat.zero_add, decide_true, decide_false, Nat.reduceEqDiff, Int.reduceEq, Nat.reduceBEq, nb12, nb11, nb45, nb44, Bool.false_eq_true, if_true, if_false, t3, t7, t8, t9, hi, hidx, hld, hadd, k2', k3, k4, k5, k6]
    rfl
  case b11 =>
    refine ⟨?_, ?_, ?_, ?_, rfl, k2, good (by simp only [errK, ht])⟩
    · have : nt (evs.take (i + 1)) = nt (evs.take i) := by rw [htk, nt_snoc, ht]; rfl
      simp only [ev_dst, Nat.reduceEqDiff, if_true, if_false, t3, this]
    · simp only [ev_dst, Nat.reduceEqDiff, if_false, t7]
    · simp only [ev_dst, Nat.reduceEqDiff, if_false, t8]
    · simp only [ev_dst, if_true]
theorem end9 {call : CallF} {lf : Nat} {evs : List Ev} {h0 : Heap} {s : St} (I : I9 evs h0 evs.length s) :
    ∃ x s', exec call lf B9_0 s = some (x, s') ∧ x ≠ .normal ∧ Q9 evs h0 x s' := by
  obtain ⟨tm, h, df⟩ := s
  obtain ⟨t3, t7, t8, t9, rfl, hp, ok⟩ := I
  simp only at t3 t7 t8 t9 hp
  refine ⟨?x, ?s, ?a, ?c, ?b⟩
  case a =>
    unfold B9_0
    simp only [x_seq, x_reg, x_cond, x_exit, o_bin, o_nil, ev_dst, t8, t9, b_lssI, Nat.lt_irrefl, decide_false, if_true]
    rfl
  case c => intro h; cases h
  case b => exact ⟨rfl, hp, .inl ⟨rfl, fun j hj => ok j hj hj⟩⟩
theorem tasks_ok {E : Env} {lf d : Nat} {evs : List Ev} {h : Heap} (hf : E.fns 9 = some F9) (ho : ∀ ags h, E.orc 9 ags h = none) (hl : HL h evs) (hb : evs.length ≤ 60) (hlf : 60 < lf) :
    ∃ r h', callN E lf (d + 1) 9 [.slice 0 0 0 evs.length 0 11] h = some (goI r, h') ∧ First errK evs r ∧ Keep h h' := by
  obtain ⟨tm0, htm⟩ : ∃ tm, tm = argTm [.slice 0 0 0 evs.length 0 11] 0 (.leaf : Tm) := ⟨_, rfl⟩
  have e0 : (CX.t 0).ev tm0 = .slice 0 0 0 evs.length 0 11 := by rw [htm]; simp only [argTm_cons, argTm_nil, ev_dst, Nat.reduceEqDiff, if_true, if_false, Nat.reduceAdd]
  have hz : AV.int .i64 0 = goI 0 := rfl
  let tm1 : Tm := setDst (setDst (setDst (setDst (setDst tm0 (some 2) (goI 0)) (some 3) (goI 0)) (some 7) (.slice 0 0 0 evs.length 0 11)) (some 8) (goI evs.length)) (some 9) (goI 0)
  have I0 : I9 evs h 0 ⟨tm1, h, []⟩ := by
    refine ⟨?_, ?_, ?_, ?_, rfl, Keep.refl h, fun j hj h0 => absurd h0 (Nat.not_lt_zero _)⟩
    · simp only [tm1, ev_dst, Nat.reduceEqDiff, if_true, if_false]; rfl
    · simp only [tm1, ev_dst, Nat.reduceEqDiff, if_true, if_false]
    · simp only [tm1, ev_dst, Nat.reduceEqDiff, if_true, if_false]
    · simp only [tm1, ev_dst, Nat.reduceEqDiff, if_true, if_false]
  obtain ⟨x, s', h1, hq⟩ := loop_run (body := exec (callN E lf d) lf B9_0) (I := I9 evs h) (Q := Q9 evs h) (fun i s hi hI => step9 hl hb hi hI) (fun s hI => end9 hI) evs.length 0 ⟨tm1, h, []⟩ (by omega) I0 lf (by omega)
  obtain ⟨tm', h', df'⟩ := s'
  obtain ⟨qd, qp, qh⟩ := hq
  simp only at qd qp qh
  subst qd
  simp only [tm1] at h1
  rcases qh with ⟨rfl, hok⟩ | ⟨rfl, r, hr, hF⟩
  · refine ⟨0, h', ?_, .none hok, qp⟩
    refine call_body (s := ⟨setDst tm' (some 2) (goI 0), h', []⟩) (x := .ret) (ho _ _) hf ?_ (fun i e => by cases e) rfl (res_tmp _ _ _)
    rw [← htm]
    show exec (callN E lf d) lf C9 ⟨tm0, h, []⟩ = _
    unfold C9
    simp only [x_seq, x_reg, x_block, x_loop, x_ret, o_move, o_len, o_nil, ev_dst, ev_c, e0, lenA, Nat.reduceEqDiff, if_true, if_false, hz]
    rw [h1]
    simp only [show Nat.beq 0 0 = true from rfl, if_true, x_reg, x_seq, x_ret, o_move, o_nil, ev_dst, ev_c]
  · refine ⟨r, h', ?_, hF, qp⟩
    rw [← hr]
    refine call_body (s := ⟨tm', h', []⟩) (x := .ret) (ho _ _) hf ?_ (fun i e => by cases e) rfl (res_tmp _ _ _)
    rw [← htm]
    show exec (callN E lf d) lf C9 ⟨tm0, h, []⟩ = _
    unfold C9
    simp only [x_seq, x_reg, x_block, x_loop, x_ret, o_move, o_len, o_nil, ev_dst, ev_c, e0, lenA, Nat.reduceEqDiff, if_true, if_false, hz]
    rw [h1]
structure I42 (evs : List Ev) (h0 : Heap) (tm0 : Tm) (i : Nat) (s : St) : Prop where
  t0 : (CX.t 0).ev s.tm = (CX.t 0).ev tm0
  t3 : (CX.t 3).ev s.tm = (CX.t 3).ev tm0
  t9 : (CX.t 9).ev s.tm = goI (nt (evs.take i))
  t76 : (CX.t 76).ev s.tm = .slice 0 0 0 evs.length 0 11
  t77 : (CX.t 77).ev s.tm = goI evs.length
  t78 : (CX.t 78).ev s.tm = goI i
  df : s.df = []
  hp : Keep h0 s.h
  ok : ((CX.t 10).ev s.tm = goI 0 ∧ ∀ j (hj : j < evs.length), j < i → errK (evs.take j) evs[j] = 0) ∨ ((CX.t 10).ev s.tm = goI 7 ∧ First errK evs 7)
structure Q42 (evs : List Ev) (h0 : Heap) (tm0 : Tm) (x : XR) (s : St) : Prop where
  x : x = .exit 3
  t0 : (CX.t 0).ev s.tm = (CX.t 0).ev tm0
  t3 : (CX.t 3).ev s.tm = (CX.t 3).ev tm0
  df : s.df = []
  hp : Keep h0 s.h
  h : ∃ r, (CX.t 10).ev s.tm = goI r ∧ First errK evs r
theorem step42 {call : CallF} {lf : Nat} {evs : List Ev} {h0 : Heap} {tm0 : Tm} (hl : HL h0 evs) (hb : evs.length ≤ 60) {i : Nat} {s : St} (hi : i < evs.length) (I : I42 evs h0 tm0 i s) :
    ∃ s', exec call lf B4_1 s = some (.normal, s') ∧ I42 evs h0 tm0 (i + 1) s' := by
  obtain ⟨tm, h, df⟩ := s
  obtain ⟨t0, t3, t9, t76, t77, t78, rfl, hp, ok⟩ := I
  simp only at t0 t3 t9 t76 t77 t78 hp ok
  have hld := (hl.keep hp).ld hi
  have hidx := idxA_list hi
  have hi' : i < 1000 := by omega
  have h1 : (1 : Nat) < 1000 := by decide
  have hadd : aBin .add (.base .i) true (goI i) (.int .i64 1) = some (goI (i + 1)) := b_addI _ _ _ _ hi' h1
  have hc : nt (evs.take i) < 1000 := by have := nt_le (evs.take i); simp at this; omega
  have hnadd : aBin .add (.base .i) true (goI (nt (evs.take i))) (.int .i64 1) = some (goI (nt (evs.take i) + 1)) := b_addI _ _ _ _ hc h1
  have htk := take_snoc evs hi
  obtain ⟨e, he⟩ : ∃ e, evs[i] = e := ⟨_, rfl⟩
  rw [he] at hld htk
  have k2 := hp.trans (Keep.nrow h e)
  have q1 : aBin .eql (.base .i) true (goI 0) (.int .i64 0) = some (.bool true) := rfl
  have q2 : aBin .eql (.base .i) true (goI 7) (.int .i64 0) = some (.bool false) := rfl
  have hn1 : ∀ k, tk e = some k → nt (evs.take (i + 1)) = nt (evs.take i) + 1 := fun k hk => by rw [htk, nt_snoc, hk]; rfl
  have good : errK (evs.take i) e = 0 → (∀ j (hj : j < evs.length), j < i → errK (evs.take j) evs[j] = 0) → ∀ j (hj : j < evs.length), j < i + 1 → errK (evs.take j) evs[j] = 0 := fun h ok => ok_snoc ok hi (by rw [he]; exact h)
  have bad : errK (evs.take i) e = 7 → (∀ j (hj : j < evs.length), j < i → errK (evs.take j) evs[j] = 0) → First errK evs 7 := fun h1 ok => .at i hi ok (by rw [he]; exact h1) (by decide)
  by_cases k2' : e.kind = 2
  · skip
    have ht : tk e = some 0 := by simp only [tk, k2', if_true]
    by_cases hm : 0 = nt (evs.take i) % 3
    · have err : errK (evs.take i) e = 0 := by simp only [errK, ht]; rw [if_pos hm]
      have hne : aBin .neq (.base .i) false (.int .i64 0) (goI (nt (evs.take i) % 3)) = some (.bool false) := by unfold goI; rw [b_neq, ← hm]; rfl
      refine ⟨?s12, ?a12, ?b12⟩
      case a12 =>
        unfold B4_1
        simp only [x_seq, x_reg, x_cond, x_block, x_exit, x_ret, x_skip, o_move, o_bin, o_idxs, o_load, o_alloc, o_store, o_fld, o_pick, o_guard, o_nil, ev_dst, ev_c, dst_none, fldA, pickA, w_tt, w_tf, w_ft, w_ff, st_new, lo_kind, b_lssI, b_eql, Nat.zero_add, decide_true, decide_false, Nat.reduceEqDiff, Int.reduceEq, Nat.reduceBEq, nb12, nb11, nb45, nb44, Bool.false_eq_true, if_true, if_false, t9, t76, t77, t78, hi, hidx, hld, hadd, hnadd, b_remI, hne, k2']
        rfl
      case b12 =>
        refine ⟨?_, ?_, ?_, ?_, ?_, ?_, rfl, k2, ?_⟩ <;> simp only [ev_dst, Nat.reduceEqDiff, if_true, if_false, t0, t3, t76, t77, hn1 _ ht]
        exact ok.imp (fun ⟨a, b⟩ => ⟨a, good err b⟩) id
    · have err : errK (evs.take i) e = 7 := by simp only [errK, ht]; rw [if_neg hm]
      have hne : aBin .neq (.base .i) false (.int .i64 0) (goI (nt (evs.take i) % 3)) = some (.bool true) := by
        unfold goI; rw [b_neq, decide_eq_true]
        show ¬ ((0 : Nat) : Int) = ((nt (evs.take i) % 3 : Nat) : Int)
        intro h; exact hm (Int.ofNat.inj h)
      rcases ok with ⟨t10, ok⟩ | ⟨t10, ok⟩
      · refine ⟨?s13, ?a13, ?b13⟩
        case a13 =>
          unfold B4_1
          simp only [x_seq, x_reg, x_cond, x_block, x_exit, x_ret, x_skip, o_move, o_bin, o_idxs, o_load, o_alloc, o_store, o_fld, o_pick, o_guard, o_nil, ev_dst, ev_c, dst_none, fldA, pickA, w_tt, w_tf, w_ft, w_ff, st_new, lo_kind, b_lssI, b_eql, Nat.zero_add, decide_true, decide_false, Nat.reduceEqDiff, Int.reduceEq, Nat.reduceBEq, nb12, nb11, nb45, nb44, Bool.false_eq_true, if_true, if_false, t9, t10, t76, t77, t78, hi, hidx, hld, hadd, hnadd, b_remI, hne, q1, k2']
          rfl
        case b13 =>
          refine ⟨?_, ?_, ?_, ?_, ?_, ?_, rfl, k2, ?_⟩ <;> simp only [ev_dst, Nat.reduceEqDiff, if_true, if_false, t0, t3, t76, t77, hn1 _ ht]
          exact .inr ⟨rfl, bad err ok⟩
      · refine ⟨?s14, ?a14, ?b14⟩
        case a14 =>
          unfold B4_1
          simp only [x_seq, x_reg, x_cond, x_block, x_exit, x_ret, x_skip, o_move, o_bin, o_idxs, o_load, o_alloc, o_store, o_fld, o_pick, o_guard, o_nil, ev_dst, ev_c, dst_none, fldA, pickA, w_tt, w_tf, w_ft, w_ff, st_new, lo_kind, b_lssI, b_eql, Nat.zero_add, decide_true, decide_false, Nat.reduceEqDiff, Int.reduceEq, Nat.reduceBEq, nb12, nb11, nb45, nb44, Bool.false_eq_true, if_true, if_false, t9, t10, t76, t77, t78, hi, hidx, hld, hadd, hnadd, b_remI, hne, q2, k2']
          rfl
        case b14 =>
          refine ⟨?_, ?_, ?_, ?_, ?_, ?_, rfl, k2, ?_⟩ <;> simp only [ev_dst, Nat.reduceEqDiff, if_true, if_false, t0, t3, t76, t77, hn1 _ ht]
          exact .inr ⟨t10, ok⟩
  by_cases k3 : e.kind = 3
  · skip
    have ht : tk e = some 1 := by simp [tk, k3]
    by_cases hm : 1 = nt (evs.take i) % 3
    · have err : errK (evs.take i) e = 0 := by simp only [errK, ht]; rw [if_pos hm]
      have hne : aBin .neq (.base .i) false (.int .i64 1) (goI (nt (evs.take i) % 3)) = some (.bool false) := by unfold goI; rw [b_neq, ← hm]; rfl
      refine ⟨?s15, ?a15, ?b15⟩
      case a15 =>
        unfold B4_1
        simp only [x_seq, x_reg, x_cond, x_block, x_exit, x_ret, x_skip, o_move, o_bin, o_idxs, o_load, o_alloc, o_store, o_fld, o_pick, o_guard, o_nil, ev_dst, ev_c, dst_none, fldA, pickA, w_tt, w_tf, w_ft, w_ff, st_new, lo_kind, b_lssI, b_eql, Nat.zero_add, decide_true, decide_false, Nat.reduceEqDiff, Int.reduceEq, Nat.reduceBEq, nb12, nb11, nb45, nb44, Bool.false_eq_true, if_true, if_false, t9, t76, t77, t78, hi, hidx, hld, hadd, hnadd, b_remI, hne, k3]
        rfl
      case b15 =>
        refine ⟨?_, ?_, ?_, ?_, ?_, ?_, rfl, k2, ?_⟩ <;> simp only [ev_dst, Nat.reduceEqDiff, if_true, if_false, t0, t3, t76, t77, hn1 _ ht]
        exact ok.imp (fun ⟨a, b⟩ => ⟨a, good err b⟩) id
    · have err : errK (evs.take i) e = 7 := by simp only [errK, ht]; rw [if_neg hm]
      have hne : aBin .neq (.base .i) false (.int .i64 1) (goI (nt (evs.take i) % 3)) = some (.bool true) := by
        unfold goI; rw [b_neq, decide_eq_true]
        show ¬ ((1 : Nat) : Int) = ((nt (evs.take i) % 3 : Nat) : Int)
        intro h; exact hm (Int.ofNat.inj h)
      rcases ok with ⟨t10, ok⟩ | ⟨t10, ok⟩
      · refine ⟨?s16, ?a16, ?b16⟩
        case a16 =>
          unfold B4_1
          simp only [x_seq, x_reg, x_cond, x_block, x_exit, x_ret, x_skip, o_move, o_bin, o_idxs, o_load, o_alloc, o_store, o_fld, o_pick, o_guard, o_nil, ev_dst, ev_c, dst_none, fldA, pickA, w_tt, w_tf, w_ft, w_ff, st_new, lo_kind, b_lssI, b_eql, Nat.zero_add, decide_true, decide_false, Nat.reduceEqDiff, Int.reduceEq, Nat.reduceBEq, nb12, nb11, nb45, nb44, Bool.false_eq_true, if_true, if_false, t9, t10, t76, t77, t78, hi, hidx, hld, hadd, hnadd, b_remI, hne, q1, k3]
          rfl
        case b16 =>
          refine ⟨?_, ?_, ?_, ?_, ?_, ?_, rfl, k2, ?_⟩ <;> simp only [ev_dst, Nat.reduceEqDiff, if_true, if_false, t0, t3, t76, t77, hn1 _ ht]
          exact .inr ⟨rfl, bad err ok⟩
      · refine ⟨?s17, ?a17, ?b17⟩
        case a17 =>
          unfold B4_1
          simp only [x_seq, x_reg, x_cond, x_block, x_exit, x_ret, x_skip, o_move, o_bin, o_idxs, o_load, o_alloc, o_store, o_fld, o_pick, o_guard, o_nil, ev_dst, ev_c, dst_none, fldA, pickA, w_tt, w_tf, w_ft, w_ff, st_new, lo_kind, b_lssI, b_eql, Nat.zero_add, decide_true, decide_false, Nat.reduceEqDiff, Int.reduceEq, Nat.reduceBEq, nb12, nb11, nb45, nb44, Bool.false_eq_true, if_true, if_false, t9, t10, t76, t77, t78, hi, hidx, hld, hadd, hnadd, b_remI, hne, q2, k3]
          rfl
        case b17 =>
          refine ⟨?_, ?_, ?_, ?_, ?_, ?_, rfl, k2, ?_⟩ <;> simp only [ev_dst, Nat.reduceEqDiff, if_true, if_false, t0, t3, t76, t77, hn1 _ ht]
          exact .inr ⟨t10, ok⟩
  by_cases ko : e.kind = 4 ∨ e.kind = 5 ∨ e.kind = 6
  · rcases ko with k4 | k4 | k4
    · clear k2' k3
      have ht : tk e = some 2 := by simp [tk, k4]
      by_cases hm : 2 = nt (evs.take i) % 3
      · have err : errK (evs.take i) e = 0 := by simp only [errK, ht]; rw [if_pos hm]
        have hne : aBin .neq (.base .i) false (.int .i64 2) (goI (nt (evs.take i) % 3)) = some (.bool false) := by unfold goI; rw [b_neq, ← hm]; rfl
        refine ⟨?s18, ?a18, ?b18⟩
        case a18 =>
          unfold B4_1
          simp only [x_seq, x_reg, x_cond, x_block, x_exit, x_ret, x_skip, o_move, o_bin, o_idxs, o_load, o_alloc, o_store, o_fld, o_pick, o_guard, o_nil, ev_dst, ev_c, dst_none, fldA, pickA, w_tt, w_tf, w_ft, w_ff, st_new, lo_kind, b_lssI, b_eql, Nat.zero_add, decide_true, decide_false, Nat.reduceEqDiff, Int.reduceEq, Nat.reduceBEq, nb12, nb11, nb45, nb44, Bool.false_eq_true, if_true, if_false, t9, t76, t77, t78, hi, hidx, hld, hadd, hnadd, b_remI, hne, k4]
          rfl
        case b18 =>
          refine ⟨?_, ?_, ?_, ?_, ?_, ?_, rfl, k2, ?_⟩ <;> simp only [ev_dst, Nat.reduceEqDiff, if_true, if_false, t0, t3, t76, t77, hn1 _ ht]
          exact ok.imp (fun ⟨a, b⟩ => ⟨a, good err b⟩) id
      · have err : errK (evs.take i) e = 7 := by simp only [errK, ht]; rw [if_neg hm]
        have hne : aBin .neq (.base .i) false (.int .i64 2) (goI (nt (evs.take i) % 3)) = some (.bool true) := by
          unfold goI; rw [b_neq, decide_eq_true]
          show ¬ ((2 : Nat) : Int) = ((nt (evs.take i) % 3 : Nat) : Int)
          intro h; exact hm (Int.ofNat.inj h)
        rcases ok with ⟨t10, ok⟩ | ⟨t10, ok⟩
        · refine ⟨?s19, ?a19, ?b19⟩
          case a19 =>
            unfold B4_1
            simp only [x_seq, x_reg, x_cond, x_block, x_exit, x_ret, x_skip, o_move, o_bin, o_idxs, o_load, o_alloc, o_store, o_fld, o_pick, o_guard, o_nil, ev_dst, ev_c, dst_none, fldA, pickA, w_tt, w_tf, w_ft, w_ff, st_new, lo_kind, b_lssI, b_eql, Nat.zero_add, decide_true, decide_false, Nat.reduceEqDiff, Int.reduceEq, Nat.reduceBEq, nb12, nb11, nb45, nb44, Bool.false_eq_true, if_true, if_false, t9, t10, t76, t77, t78, hi, hidx, hld, hadd, hnadd, b_remI, hne, q1, k4]
            rfl
          case b19 =>
            refine ⟨?_, ?_, ?_, ?_, ?_, ?_, rfl, k2, ?_⟩ <;> simp only [ev_dst, Nat.reduceEqDiff, if_true, if_false, t0, t3, t76, t77, hn1 _ ht]
            exact .inr ⟨rfl, bad err ok⟩
        · refine ⟨?s20, ?a20, ?b20⟩
          case a20 =>
            unfold B4_1
            simp only [x_seq, x_reg, x_cond, x_block, x_exit, x_ret, x_skip, o_move, o_bin, o_idxs, o_load, o_alloc, o_store, o_fld, o_pick, o_guard, o_nil, ev_dst, ev_c, dst_none, fldA, pickA, w_tt, w_tf, w_ft, w_ff, st_new, lo_kind, b_lssI, b_eql, Nat.zero_add, decide_true, decide_false, Nat.reduceEqDiff, Int.reduceEq, Nat.reduceBEq, nb12, nb11, nb45, nb44, Bool.false_eq_true, if_true, if_false, t9, t10, t76, t77, t78, hi, hidx, hld, hadd, hnadd, b_remI, hne, q2, k4]
            rfl
          case b20 =>
            refine ⟨?_, ?_, ?_, ?_, ?_, ?_, rfl, k2, ?_⟩ <;> simp only [ev_dst, Nat.reduceEqDiff, if_true, if_false, t0, t3, t76, t77, hn1 _ ht]
            exact .inr ⟨t10, ok⟩
    · clear k2' k3
      have ht : tk e = some 2 := by simp [tk, k4]
      by_cases hm : 2 = nt (evs.take i) % 3
      · have err : errK (evs.take i) e = 0 := by simp only [errK, ht]; rw [if_pos hm]
        have hne : aBin .neq (.base .i) false (.int .i64 2) (goI (nt (evs.take i) % 3)) = some (.bool false) := by unfold goI; rw [b_neq, ← hm]; rfl
        refine ⟨?s21, ?a21, ?b21⟩
        case a21 =>
          unfold B4_1
          simp only [x_seq, x_reg, x_cond, x_block, x_exit, x_ret, x_skip, o_move, o_bin, o_idxs, o_load, o_alloc, o_store, o_fld, o_pick, o_guard, o_nil, ev_dst, ev_c, dst_none, fldA, pickA, w_tt, w_tf, w_ft, w_ff, st_new, lo_kind, b_lssI, b_eql, Nat.zero_add, decide_true, decide_false, Nat.reduceEqDiff, Int.reduceEq, Nat.reduceBEq, nb12, nb11, nb45, nb44, Bool.false_eq_true, if_true, if_false, t9, t76, t77, t78, hi, hidx, hld, hadd, hnadd, b_remI, hne, k4]
          rfl
        case b21 =>
          refine ⟨?_, ?_, ?_, ?_, ?_, ?_, rfl, k2, ?_⟩ <;> simp only [ev_dst, Nat.reduceEqDiff, if_true, if_false, t0, t3, t76, t77, hn1 _ ht]
          exact ok.imp (fun ⟨a, b⟩ => ⟨a, good err b⟩) id
      · have err : errK (evs.take i) e = 7 := by simp only [errK, ht]; rw [if_neg hm]
        have hne : aBin .neq (.base .i) false (.int .i64 2) (goI (nt (evs.take i) % 3)) = some (.bool true) := by
          unfold goI; rw [b_neq, decide_eq_true]
          show ¬ ((2 : Nat) : Int) = ((nt (evs.take i) % 3 : Nat) : Int)
          intro h; exact hm (Int.ofNat.inj h)
        rcases ok with ⟨t10, ok⟩ | ⟨t10, ok⟩
        · refine ⟨?s22, ?a22, ?b22⟩
          case a22 =>
            unfold B4_1
            simp only [x_seq, x_reg, x_cond, x_block, x_exit, x_ret, x_skip, o_move, o_bin, o_idxs, o_load, o_alloc, o_store, o_fld, o_pick, o_guard, o_nil, ev_dst, ev_c, dst_none, fldA, pickA, w_tt, w_tf, w_ft, w_ff, st_new, lo_kind, b_lssI, b_eql, Nat.zero_add, decide_true, decide_false, Nat.reduceEqDiff, Int.reduceEq, Nat.reduceBEq, nb12, nb11, nb45, nb44, Bool.false_eq_true, if_true, if_false, t9, t10, t76, t77, t78, hi, hidx, hld, hadd, hnadd, b_remI, hne, q1, k4]
            rfl
          case b22 =>
            refine ⟨?_, ?_, ?_, ?_, ?_, ?_, rfl, k2, ?_⟩ <;> simp only [ev_dst, Nat.reduceEqDiff, if_true, if_false, t0, t3, t76, t77, hn1 _ ht]
            exact .inr ⟨rfl, bad err ok⟩
        · refine ⟨?s23, ?a23, ?b23⟩
          case a23 =>
            unfold B4_1
            simp only [x_seq, x_reg, x_cond, x_block, x_exit, x_ret, x_skip, o_move, o_bin, o_idxs, o_load, o_alloc, o_store, o_fld, o_pick, o_guard, o_nil, ev_dst, ev_c, dst_none, fldA, pickA, w_tt, w_tf, w_ft, w_ff, st_new, lo_kind, b_lssI, b_eql, Nat.zero_add, decide_true, decide_false, Nat.reduceEqDiff, Int.reduceEq, Nat.reduceBEq, nb12, nb11, nb45, nb44, Bool.false_eq_true, if_true, if_false, t9, t10, t76, t77, t78, hi, hidx, hld, hadd, hnadd, b_remI, hne, q2, k4]
            rfl
          case b23 =>
            refine ⟨?_, ?_, ?_, ?_, ?_, ?_, rfl, k2, ?_⟩ <;> simp only [ev_dst, Nat.reduceEqDiff, if_true, if_false, t0, t3, t76, t77, hn1 _ ht]
            exact .inr ⟨t10, ok⟩
    · clear k2' k3
      have ht : tk e = some 2 := by simp [tk, k4]
      by_cases hm : 2 = nt (evs.take i) % 3
      · have err : errK (evs.take i) e = 0 := by simp only [errK, ht]; rw [if_pos hm]
        have hne : aBin .neq (.base .i) false (.int .i64 2) (goI (nt (evs.take i) % 3)) = some (.bool false) := by unfold goI; rw [b_neq, ← hm]; rfl
        refine ⟨?s24, ?a24, ?b24⟩
        case a24 =>
          unfold B4_1
          simp only [x_seq, x_reg, x_cond, x_block, x_exit, x_ret, x_skip, o_move, o_bin, o_idxs, o_load, o_alloc, o_store, o_fld, o_pick, o_guard, o_nil, ev_dst, ev_c, dst_none, fldA, pickA, w_tt, w_tf, w_ft, w_ff, st_new, lo_kind, b_lssI, b_eql, Nat.zero_add, decide_true, decide_false, Nat.reduceEqDiff, Int.reduceEq, Nat.reduceBEq, nb12, nb11, nb45, nb44, Bool.false_eq_true, if_true, if_false, t9, t76, t77, t78, hi, hidx, hld, hadd, hnadd, b_remI, hne, k4]
          rfl
        case b24 =>
          refine ⟨?_, ?_, ?_, ?_, ?_, ?_, rfl, k2, ?_⟩ <;> simp only [ev_dst, Nat.reduceEqDiff, if_true, if_false, t0, t3, t76, t77, hn1 _ ht]
          exact ok.imp (fun ⟨a, b⟩ => ⟨a, good err b⟩) id
      · have err : errK (evs.take i) e = 7 := by simp only [errK, ht]; rw [if_neg hm]
        have hne : aBin .neq (.base .i) false (.int .i64 2) (goI (nt (evs.take i) % 3)) = some (.bool true) := by
          unfold goI; rw [b_neq, decide_eq_true]
          show ¬ ((2 : Nat) : Int) = ((nt (evs.take i) % 3 : Nat) : Int)
          intro h; exact hm (Int.ofNat.inj h)
        rcases ok with ⟨t10, ok⟩ | ⟨t10, ok⟩
        · refine ⟨?s25, ?a25, ?b25⟩
          case a25 =>
            unfold B4_1
            simp only [x_seq, x_reg, x_cond, x_block, x_exit, x_ret, x_skip, o_move, o_bin, o_idxs, o_load, o_alloc, o_store, o_fld, o_pick, o_guard, o_nil, ev_dst, ev_c, dst_none, fldA, pickA, w_tt, w_tf, w_ft, w_ff, st_new, lo_kind, b_lssI, b_eql, Nat.zero_add, decide_true, decide_false, Nat.reduceEqDiff, Int.reduceEq, Nat.reduceBEq, nb12, nb11, nb45, nb44, Bool.false_eq_true, if_true, if_false, t9, t10, t76, t77, t78, hi, hidx, hld, hadd, hnadd, b_remI, hne, q1, k4]
            rfl
          case b25 =>
            refine ⟨?_, ?_, ?_, ?_, ?_, ?_, rfl, k2, ?_⟩ <;> simp only [ev_dst, Nat.reduceEqDiff, if_true, if_false, t0, t3, t76, t77, hn1 _ ht]
            exact .inr ⟨rfl, bad err ok⟩
        · refine ⟨?s26, ?a26, ?b26⟩
          case a26 =>
            unfold B4_1
            simp only [x_seq, x_reg, x_cond, x_block, x_exit, x_ret, x_skip, o_move, o_bin, o_idxs, o_load, o_alloc, o_store, o_fld, o_pick, o_guard, o_nil, ev_dst, ev_c, dst_none, fldA, pickA, w_tt, w_tf, w_ft, w_ff, st_new, lo_kind, b_lssI, b_eql, Nat.zero_add, decide_true, decide_false, Nat.reduceEqDiff, Int.reduceEq, Nat.reduceBEq, nb12, nb11, nb45, nb44, Bool.false_eq_true, if_true, if_false, t9, t10, t76, t77, t78, hi, hidx, hld, hadd, hnadd, b_remI, hne, q2, k4]
            rfl
          case b26 =>
            refine ⟨?_, ?_, ?_, ?_, ?_, ?_, rfl, k2, ?_⟩ <;> simp only [ev_dst, Nat.reduceEqDiff, if_true, if_false, t0, t3, t76, t77, hn1 _ ht]
            exact .inr ⟨t10, ok⟩
  have ht : tk e = none := by simp only [tk, k2', k3, ko, if_false]
  have k4 : ¬ e.kind = 4 := fun h => ko (.inl h)
  have k5 : ¬ e.kind = 5 := fun h => ko (.inr (.inl h))
  have k6 : ¬ e.kind = 6 := fun h => ko (.inr (.inr h))
  have hn0 : nt (evs.take (i + 1)) = nt (evs.take i) := by rw [htk, nt_snoc, ht]; rfl
  refine ⟨?s27, ?a27, ?b27⟩
  case a27 =>
    unfold B4_1
    simp only [x_seq, x_reg, x_cond, x_block, x_exit, x_ret, x_skip, o_move, o_bin, o_idxs, o_load, o_alloc, o_store, o_fld, o_pick, o_guard, o_nil, ev_dst, ev_c, dst_none, fldA, pickA, w_tt, w_tf, w_ft, w_ff, st_new, lo_kind, b_lssI, b_eql, Nat.zero_add, decide_true, decide_false, Nat.reduceEqDiff, Int.reduceEq, Nat.reduceBEq, nb12, nb11, nb45, nb44, Bool.false_eq_true, if_true, if_false, t9, t76, t77, t78, hi, hidx, hld, hadd, k2', k3, k4, k5, k6]
    rfl
  case b27 =>
    refine ⟨?_, ?_, ?_, ?_, ?_, ?_, rfl, k2, ?_⟩ <;> simp only [ev_dst, Nat.reduceEqDiff, if_true, if_false, t0, t3, t9, t76, t77, hn0]
    exact ok.imp (fun ⟨a, b⟩ => ⟨a, good (by simp only [errK, ht]) b⟩) id
theorem end42 {call : CallF} {lf : Nat} {evs : List Ev} {h0 : Heap} {tm0 : Tm} {s : St} (I : I42 evs h0 tm0 evs.length s) :
    ∃ x s', exec call lf B4_1 s = some (x, s') ∧ x ≠ .normal ∧ Q42 evs h0 tm0 x s' := by
  obtain ⟨tm, h, df⟩ := s
  obtain ⟨t0, t3, t9, t76, t77, t78, rfl, hp, ok⟩ := I
  simp only at t0 t3 t9 t76 t77 t78 hp ok
  refine ⟨?x, ?s, ?a, ?c, ?b⟩
  case a =>
    unfold B4_1
    simp only [x_seq, x_reg, x_cond, x_exit, o_bin, o_nil, ev_dst, t77, t78, b_lssI, Nat.lt_irrefl, decide_false, if_true]
    rfl
  case c => intro h; cases h
  case b =>
    refine ⟨rfl, ?_, ?_, rfl, hp, ?_⟩ <;> simp only [ev_dst, Nat.reduceEqDiff, if_false, t0, t3]
    rcases ok with ⟨t10, ok⟩ | ⟨t10, ok⟩
    · exact ⟨0, t10, .none fun j hj => ok j hj hj⟩
    · exact ⟨7, t10, ok⟩
end Go.Ex
namespace Go.Ex
open Go
def Sm (l : List Nat) (tm tm' : Tm) : Prop := ∀ j, j ∈ l → (CX.t j).ev tm' = (CX.t j).ev tm
def IsEv (h : Heap) (p : Nat) (e : Ev) : Prop := h.get p = some (.row (freshCells e.cells) 0) ∧ p < h.next
theorem IsEv.keep {h h' : Heap} {p : Nat} {e : Ev} (hp : IsEv h p e) (k : Keep h h') : IsEv h' p e := ⟨(k.get p hp.2).trans hp.1, Nat.lt_of_lt_of_le hp.2 k.next⟩
theorem IsEv.time {h : Heap} {p : Nat} {e : Ev} (hp : IsEv h p e) : loA h false 1 (.ptr p 0 1) = some (.int .i64 e.time) := by
  simp only [loA, ldVar, ldC, hp.1]; rfl
theorem IsEv.kind {h : Heap} {p : Nat} {e : Ev} (hp : IsEv h p e) : loA h false 1 (.ptr p 0 2) = some (.int .i64 e.kind) := by
  simp only [loA, ldVar, ldC, hp.1]; rfl
theorem IsEv.a {h : Heap} {p : Nat} {e : Ev} (hp : IsEv h p e) : loA h false 1 (.ptr p 0 3) = some (.int .i64 e.a) := by
  simp only [loA, ldVar, ldC, hp.1]; rfl
theorem IsEv.new (h : Heap) (e : Ev) : IsEv (nrow h e) h.next e := ⟨by rw [nrow_get, if_pos rfl], by rw [nrow_next]; omega⟩
theorem re_load (tm : Tm) (h : Heap) (d : Nat) (x : CX) (n : Nat) (cs : List Chk) :
    recheck tm h (.re ⟨some d, none, .load false n x⟩ :: cs) = match loA h false n (x.ev tm) with
      | some v => AV.beq v ((CX.t d).ev tm) && recheck tm h cs
      | none => false := by
  simp only [recheck, wanted, if_true, stepOp, sLoad, loA]
  cases x.ev tm <;> try rfl
  simp only []
  cases ldVar h false n _ _ _ <;> rfl
theorem beq_int (k : IntKind) (a : Int) : AV.beq (.int k a) (.int k a) = true := by simp [AV.beq]
end Go.Ex
namespace Go.Ex
open Go
theorem gt0 (n : Nat) : aBin .gtr (.base .i) true (goI n) (.int .i64 0) = some (.bool (decide (0 < n))) := b_gtrI _ _ n 0
theorem neq0 (n : Nat) : aBin .neq (.base .i) true (goI n) (.int .i64 0) = some (.bool (decide (¬ n = 0))) := by
  unfold goI; rw [b_neq]; congr 2
  exact decide_eq_decide.2 (not_congr ⟨fun h => Int.ofNat.inj h, fun h => by rw [h]; rfl⟩)
theorem eq0 (n : Nat) : aBin .eql (.base .i) true (goI n) (.int .i64 0) = some (.bool (decide (n = 0))) := by
  unfold goI; rw [b_eql]; congr 2
  exact decide_eq_decide.2 ⟨fun h => Int.ofNat.inj h, fun h => by rw [h]; rfl⟩
theorem slA_list {m i : Nat} (h : i ≤ m) : slA (.slice 0 0 0 m 0 11) (goI i) = some (.slice 0 0 0 i 0 11) := by
  simp only [slA, asIdx_goI]
  have : Nat.ble i m = true := Nat.ble_eq.mpr h
  rw [this]; rfl
end Go.Ex
namespace Go.Ex
open Go
theorem w4_ok {call : CallF} {lf : Nat} {evs : List Ev} {m p : Nat} {e : Ev} {h : Heap} {tm : Tm} (he : IsEv h p e)
    (t3 : (CX.t 3).ev tm = goI 0) (t5 : (CX.t 5).ev tm = .ptr p 0 0) (t7 : (CX.t 7).ev tm = goI (ends (evs.take m) e.a)) (t8 : (CX.t 8).ev tm = goI (cnt (evs.take m) 7 e.a)) :
    ∃ tm', exec call lf W4 ⟨tm, h, []⟩ = some (.normal, ⟨tm', h, []⟩) ∧ Sm [0, 19, 20, 21] tm tm' ∧ (CX.t 3).ev tm' = goI (errA (evs.take m) e) := by
  have ek := he.kind
  by_cases k7 : e.kind = 7
  · by_cases c7 : 0 < cnt (evs.take m) 7 e.a
    · have err : errA (evs.take m) e = 5 := by simp only [errA, k7, if_true, c7]
      rw [err]
      refine ⟨?s1, ?a1, ?b1, ?c1⟩
      case a1 =>
        unfold W4
        simp only [x_seq, x_reg, x_cond, x_block, x_skip, o_move, o_bin, o_load, o_fld, o_pick, o_guard, o_nil, ev_dst, ev_c, fldA, pickA, w_tt, w_tf, w_ft, w_ff, b_eql, Nat.zero_add, decide_true, decide_false, Nat.reduceEqDiff, Int.reduceEq, Bool.false_eq_true, if_true, if_false, t5, t7, t8, ek, k7, gt0, eq0, c7]
        rfl
      case b1 =>
        intro j hj
        simp only [List.mem_cons, List.not_mem_nil, or_false] at hj
        rcases hj with rfl | rfl | rfl | rfl <;> simp only [ev_dst, Nat.reduceEqDiff, if_false]
      case c1 => simp only [ev_dst, if_true]; rfl
    · have err : errA (evs.take m) e = 0 := by simp only [errA, k7, if_true, c7, if_false]
      rw [err]
      refine ⟨?s2, ?a2, ?b2, ?c2⟩
      case a2 =>
        unfold W4
        simp only [x_seq, x_reg, x_cond, x_block, x_skip, o_move, o_bin, o_load, o_fld, o_pick, o_guard, o_nil, ev_dst, ev_c, fldA, pickA, w_tt, w_tf, w_ft, w_ff, b_eql, Nat.zero_add, decide_true, decide_false, Nat.reduceEqDiff, Int.reduceEq, Bool.false_eq_true, if_true, if_false, t5, t7, t8, ek, k7, gt0, eq0, c7]
        rfl
      case b2 =>
        intro j hj
        simp only [List.mem_cons, List.not_mem_nil, or_false] at hj
        rcases hj with rfl | rfl | rfl | rfl <;> simp only [ev_dst, Nat.reduceEqDiff, if_false]
      case c2 => simp only [ev_dst, Nat.reduceEqDiff, if_false, t3]
  by_cases hk : e.kind = 8 ∨ e.kind = 9 ∨ e.kind = 10
  · by_cases c7 : cnt (evs.take m) 7 e.a = 0
    · have err : errA (evs.take m) e = 4 := by simp only [errA, k7, hk, c7, if_true, if_false]
      rcases hk with k8 | k8 | k8
      · clear k7
        rw [err]
        refine ⟨?s3, ?a3, ?b3, ?c3⟩
        case a3 =>
          unfold W4
          simp only [x_seq, x_reg, x_cond, x_block, x_skip, o_move, o_bin, o_load, o_fld, o_pick, o_guard, o_nil, ev_dst, ev_c, fldA, pickA, w_tt, w_tf, w_ft, w_ff, b_eql, Nat.zero_add, decide_true, decide_false, Nat.reduceEqDiff, Int.reduceEq, Bool.false_eq_true, if_true, if_false, t5, t7, t8, ek, k8, gt0, eq0, c7]
          rfl
        case b3 =>
          intro j hj
          simp only [List.mem_cons, List.not_mem_nil, or_false] at hj
          rcases hj with rfl | rfl | rfl | rfl <;> simp only [ev_dst, Nat.reduceEqDiff, if_false]
        case c3 => simp only [ev_dst, if_true]; rfl
      · clear k7
        rw [err]
        refine ⟨?s4, ?a4, ?b4, ?c4⟩
        case a4 =>
          unfold W4
          simp only [x_seq, x_reg, x_cond, x_block, x_skip, o_move, o_bin, o_load, o_fld, o_pick, o_guard, o_nil, ev_dst, ev_c, fldA, pickA, w_tt, w_tf, w_ft, w_ff, b_eql, Nat.zero_add, decide_true, decide_false, Nat.reduceEqDiff, Int.reduceEq, Bool.false_eq_true, if_true, if_false, t5, t7, t8, ek, k8, gt0, eq0, c7]
          rfl
        case b4 =>
          intro j hj
          simp only [List.mem_cons, List.not_mem_nil, or_false] at hj
          rcases hj with rfl | rfl | rfl | rfl <;> simp only [ev_dst, Nat.reduceEqDiff, if_false]
        case c4 => simp only [ev_dst, if_true]; rfl
      · clear k7
        rw [err]
        refine ⟨?s5, ?a5, ?b5, ?c5⟩
        case a5 =>
          unfold W4
          simp only [x_seq, x_reg, x_cond, x_block, x_skip, o_move, o_bin, o_load, o_fld, o_pick, o_guard, o_nil, ev_dst, ev_c, fldA, pickA, w_tt, w_tf, w_ft, w_ff, b_eql, Nat.zero_add, decide_true, decide_false, Nat.reduceEqDiff, Int.reduceEq, Bool.false_eq_true, if_true, if_false, t5, t7, t8, ek, k8, gt0, eq0, c7]
          rfl
        case b5 =>
          intro j hj
          simp only [List.mem_cons, List.not_mem_nil, or_false] at hj
          rcases hj with rfl | rfl | rfl | rfl <;> simp only [ev_dst, Nat.reduceEqDiff, if_false]
        case c5 => simp only [ev_dst, if_true]; rfl
    by_cases c8 : 0 < ends (evs.take m) e.a
    · have err : errA (evs.take m) e = 181 := by simp only [errA, k7, hk, c7, c8, if_true, if_false]
      rcases hk with k8 | k8 | k8
      · clear k7
        rw [err]
        refine ⟨?s6, ?a6, ?b6, ?c6⟩
        case a6 =>
          unfold W4
          simp only [x_seq, x_reg, x_cond, x_block, x_skip, o_move, o_bin, o_load, o_fld, o_pick, o_guard, o_nil, ev_dst, ev_c, fldA, pickA, w_tt, w_tf, w_ft, w_ff, b_eql, Nat.zero_add, decide_true, decide_false, Nat.reduceEqDiff, Int.reduceEq, Bool.false_eq_true, if_true, if_false, t5, t7, t8, ek, k8, gt0, eq0, c7, c8]
          rfl
        case b6 =>
          intro j hj
          simp only [List.mem_cons, List.not_mem_nil, or_false] at hj
          rcases hj with rfl | rfl | rfl | rfl <;> simp only [ev_dst, Nat.reduceEqDiff, if_false]
        case c6 => simp only [ev_dst, if_true]; rfl
      · clear k7
        rw [err]
        refine ⟨?s7, ?a7, ?b7, ?c7⟩
        case a7 =>
          unfold W4
          simp only [x_seq, x_reg, x_cond, x_block, x_skip, o_move, o_bin, o_load, o_fld, o_pick, o_guard, o_nil, ev_dst, ev_c, fldA, pickA, w_tt, w_tf, w_ft, w_ff, b_eql, Nat.zero_add, decide_true, decide_false, Nat.reduceEqDiff, Int.reduceEq, Bool.false_eq_true, if_true, if_false, t5, t7, t8, ek, k8, gt0, eq0, c7, c8]
          rfl
        case b7 =>
          intro j hj
          simp only [List.mem_cons, List.not_mem_nil, or_false] at hj
          rcases hj with rfl | rfl | rfl | rfl <;> simp only [ev_dst, Nat.reduceEqDiff, if_false]
        case c7 => simp only [ev_dst, if_true]; rfl
      · clear k7
        rw [err]
        refine ⟨?s8, ?a8, ?b8, ?c8⟩
        case a8 =>
          unfold W4
          simp only [x_seq, x_reg, x_cond, x_block, x_skip, o_move, o_bin, o_load, o_fld, o_pick, o_guard, o_nil, ev_dst, ev_c, fldA, pickA, w_tt, w_tf, w_ft, w_ff, b_eql, Nat.zero_add, decide_true, decide_false, Nat.reduceEqDiff, Int.reduceEq, Bool.false_eq_true, if_true, if_false, t5, t7, t8, ek, k8, gt0, eq0, c7, c8]
          rfl
        case b8 =>
          intro j hj
          simp only [List.mem_cons, List.not_mem_nil, or_false] at hj
          rcases hj with rfl | rfl | rfl | rfl <;> simp only [ev_dst, Nat.reduceEqDiff, if_false]
        case c8 => simp only [ev_dst, if_true]; rfl
    · have err : errA (evs.take m) e = 0 := by simp only [errA, k7, hk, c7, c8, if_true, if_false]
      rcases hk with k8 | k8 | k8
      · clear k7
        rw [err]
        refine ⟨?s9, ?a9, ?b9, ?c9⟩
        case a9 =>
          unfold W4
          simp only [x_seq, x_reg, x_cond, x_block, x_skip, o_move, o_bin, o_load, o_fld, o_pick, o_guard, o_nil, ev_dst, ev_c, fldA, pickA, w_tt, w_tf, w_ft, w_ff, b_eql, Nat.zero_add, decide_true, decide_false, Nat.reduceEqDiff, Int.reduceEq, Bool.false_eq_true, if_true, if_false, t5, t7, t8, ek, k8, gt0, eq0, c7, c8]
          rfl
        case b9 =>
          intro j hj
          simp only [List.mem_cons, List.not_mem_nil, or_false] at hj
          rcases hj with rfl | rfl | rfl | rfl <;> simp only [ev_dst, Nat.reduceEqDiff, if_false]
        case c9 => simp only [ev_dst, Nat.reduceEqDiff, if_false, t3]
      · clear k7
        rw [err]
        refine ⟨?s10, ?a10, ?b10, ?c10⟩
        case a10 =>
          unfold W4
          simp only [x_seq, x_reg, x_cond, x_block, x_skip, o_move, o_bin, o_load, o_fld, o_pick, o_guard, o_nil, ev_dst, ev_c, fldA, pickA, w_tt, w_tf, w_ft, w_ff, b_eql, Nat.zero_add, decide_true, decide_false, Nat.reduceEqDiff, Int.reduceEq, Bool.false_eq_true, if_true, if_false, t5, t7, t8, ek, k8, gt0, eq0, c7, c8]
          rfl
        case b10 =>
          intro j hj
          simp only [List.mem_cons, List.not_mem_nil, or_false] at hj
          rcases hj with rfl | rfl | rfl | rfl <;> simp only [ev_dst, Nat.reduceEqDiff, if_false]
        case c10 => simp only [ev_dst, Nat.reduceEqDiff, if_false, t3]
      · clear k7
        rw [err]
        refine ⟨?s11, ?a11, ?b11, ?c11⟩
        case a11 =>
          unfold W4
          simp only [x_seq, x_reg, x_cond, x_block, x_skip, o_move, o_bin, o_load, o_fld, o_pick, o_guard, o_nil, ev_dst, ev_c, fldA, pickA, w_tt, w_tf, w_ft, w_ff, b_eql, Nat.zero_add, decide_true, decide_false, Nat.reduceEqDiff, Int.reduceEq, Bool.false_eq_true, if_true, if_false, t5, t7, t8, ek, k8, gt0, eq0, c7, c8]
          rfl
        case b11 =>
          intro j hj
          simp only [List.mem_cons, List.not_mem_nil, or_false] at hj
          rcases hj with rfl | rfl | rfl | rfl <;> simp only [ev_dst, Nat.reduceEqDiff, if_false]
        case c11 => simp only [ev_dst, Nat.reduceEqDiff, if_false, t3]
  · have k8 : ¬ e.kind = 8 := fun h => hk (.inl h)
    have k9 : ¬ e.kind = 9 := fun h => hk (.inr (.inl h))
    have k10 : ¬ e.kind = 10 := fun h => hk (.inr (.inr h))
    have err : errA (evs.take m) e = 0 := by simp only [errA, k7, k8, k9, k10, or_self, if_false]
    rw [err]
    refine ⟨?s12, ?a12, ?b12, ?c12⟩
    case a12 =>
      unfold W4
      simp only [x_seq, x_reg, x_cond, x_block, x_skip, o_move, o_bin, o_load, o_fld, o_pick, o_guard, o_nil, ev_dst, ev_c, fldA, pickA, w_tt, w_tf, w_ft, w_ff, b_eql, Nat.zero_add, decide_true, decide_false, Nat.reduceEqDiff, Int.reduceEq, Bool.false_eq_true, if_true, if_false, t5, t7, t8, ek, k7, k8, k9, k10, gt0, eq0, Bool.true_eq_false]
      rfl
    case b12 =>
      intro j hj
      simp only [List.mem_cons, List.not_mem_nil, or_false] at hj
      rcases hj with rfl | rfl | rfl | rfl <;> simp only [ev_dst, Nat.reduceEqDiff, if_false]
    case c12 => simp only [ev_dst, Nat.reduceEqDiff, if_false, t3]
structure I41 (evs : List Ev) (h0 : Heap) (i : Nat) (s : St) : Prop where
  t0 : (CX.t 0).ev s.tm = .slice 0 0 0 evs.length 0 11
  t3 : (CX.t 3).ev s.tm = goI 0
  t19 : (CX.t 19).ev s.tm = .slice 0 0 0 evs.length 0 11
  t20 : (CX.t 20).ev s.tm = goI evs.length
  t21 : (CX.t 21).ev s.tm = goI i
  df : s.df = []
  hp : Keep h0 s.h
  ok : ∀ j (hj : j < evs.length), j < i → errA (evs.take j) evs[j] = 0
structure Q41 (evs : List Ev) (h0 : Heap) (x : XR) (s : St) : Prop where
  x : x = .exit 0
  t0 : (CX.t 0).ev s.tm = .slice 0 0 0 evs.length 0 11
  df : s.df = []
  hp : Keep h0 s.h
  h : ∃ r, (CX.t 3).ev s.tm = goI r ∧ First errA evs r
theorem step41 {E : Env} {lf d : Nat} {evs : List Ev} {h0 : Heap} (hf : E.fns 6 = some F6) (ho : ∀ ags h, E.orc 6 ags h = none) (hlf : 60 < lf) (hl : HL h0 evs) (hb : evs.length ≤ 60) {i : Nat} {s : St} (hi : i < evs.length) (I : I41 evs h0 i s) :
    (∃ s', exec (callN E lf (d + 1)) lf B4_0 s = some (.normal, s') ∧ I41 evs h0 (i + 1) s') ∨ ∃ x s', exec (callN E lf (d + 1)) lf B4_0 s = some (x, s') ∧ x ≠ .normal ∧ Q41 evs h0 x s' := by
  obtain ⟨tm, h, df⟩ := s
  obtain ⟨t0, t3, t19, t20, t21, rfl, hp, ok⟩ := I
  simp only at t0 t3 t19 t20 t21 hp
  have hld := (hl.keep hp).ld hi
  have hidx := idxA_list hi
  have hadd : aBin .add (.base .i) true (goI i) (.int .i64 1) = some (goI (i + 1)) := b_addI _ _ _ _ (by omega) (by decide)
  have hsl : slA (.slice 0 0 0 evs.length 0 11) (goI i) = some (.slice 0 0 0 i 0 11) := slA_list (Nat.le_of_lt hi)
  obtain ⟨e, he⟩ : ∃ e, evs[i] = e := ⟨_, rfl⟩
  rw [he] at hld
  have k1 := hp.trans (Keep.nrow h e)
  have iv := IsEv.new h e
  have lt (k : Int) : cnt (evs.take i) k e.a ≤ 60 := by have := cnt_le (evs.take i) k e.a; simp at this; omega
  obtain ⟨h2, c8, k2⟩ := count_ok (d := d) (k := 8) (a := e.a) hf ho (hl.keep k1) (Nat.le_of_lt hi) (by omega) hlf
  obtain ⟨h3, c9, k3⟩ := count_ok (d := d) (k := 9) (a := e.a) hf ho ((hl.keep k1).keep k2) (Nat.le_of_lt hi) (by omega) hlf
  obtain ⟨h4, c10, k4⟩ := count_ok (d := d) (k := 10) (a := e.a) hf ho (((hl.keep k1).keep k2).keep k3) (Nat.le_of_lt hi) (by omega) hlf
  obtain ⟨h5, c7, k5⟩ := count_ok (d := d) (k := 7) (a := e.a) hf ho ((((hl.keep k1).keep k2).keep k3).keep k4) (Nat.le_of_lt hi) (by omega) hlf
  have ea2 := (iv.keep k2).a
  have ea3 := ((iv.keep k2).keep k3).a
  have ea4 := (((iv.keep k2).keep k3).keep k4).a
  have ad1 := b_addI (.base .i) false _ _ (Nat.lt_of_le_of_lt (lt 8) (by decide)) (Nat.lt_of_le_of_lt (lt 9) (by decide))
  have ad2 := b_addI (.base .i) false (cnt (evs.take i) 8 e.a + cnt (evs.take i) 9 e.a) _ (by have := lt 8; have := lt 9; omega) (Nat.lt_of_le_of_lt (lt 10) (by decide))
  obtain ⟨tmX, hx, sX⟩ : ∃ tmX, exec (callN E lf (d + 1)) lf B4_0 ⟨tm, h, []⟩ = exec (callN E lf (d + 1)) lf (.seq (.block 1 (.seq W4 (.seq (.reg [⟨(some 73), none, .move (.t 3)⟩, ⟨(some 74), none, .bin .neq (.base .i) true (.t 73) (.c (.int .i64 0))⟩]) (.cond (.t 74) (.exit 0) .skip))))
        (.reg [⟨(some 75), none, .bin .add (.base .i) true (.t 21) (.c (.int .i64 1))⟩, ⟨(some 21), none, .move (.t 75)⟩])) ⟨tmX, h5, []⟩ ∧
      ((CX.t 0).ev tmX = .slice 0 0 0 evs.length 0 11 ∧ (CX.t 3).ev tmX = goI 0 ∧ (CX.t 5).ev tmX = .ptr h.next 0 0 ∧ (CX.t 7).ev tmX = goI (ends (evs.take i) e.a) ∧ (CX.t 8).ev tmX = goI (cnt (evs.take i) 7 e.a) ∧ (CX.t 19).ev tmX = .slice 0 0 0 evs.length 0 11 ∧ (CX.t 20).ev tmX = goI evs.length ∧ (CX.t 21).ev tmX = goI i) := by
    refine ⟨?s, ?a, ?b⟩
    case a =>
      unfold B4_0 R4
      simp only [x_seq, x_reg, x_cond, x_block, x_exit, x_skip, o_move, o_bin, o_idxs, o_load, o_alloc, o_store, o_nil, ev_dst, ev_c, dst_none, st_new, b_lssI, Nat.zero_add, decide_true, Nat.reduceEqDiff, if_true, if_false, t0, t3, t19, t20, t21, hi, hidx, hld]
      rw [o_slsl _ _ _ _ _ _ _ _ (by simp only [ev_dst, Nat.reduceEqDiff, if_true, if_false, t0, t21]; exact hsl)]
      simp only [x_seq, x_reg, x_dreg, x_cond, x_block, x_exit, x_skip, o_move, o_bin, o_load, o_fld, o_call, o_nil, d_nil, d_cons, d_chk, ev_dst, ev_c, dst_none, fldA, lo_a, Nat.zero_add, List.map_cons, List.map_nil, Nat.reduceEqDiff, if_true, if_false, re_load, recheck_nil, beq_int, Bool.and_self, c8, c9, c10, c7, ea2, ea3, ea4, ad1, ad2]
      rfl
    case b => refine ⟨?_, ?_, ?_, ?_, ?_, ?_, ?_, ?_⟩ <;> simp only [ev_dst, Nat.reduceEqDiff, if_true, if_false, t0, t3, t19, t20, t21, ends]
  obtain ⟨s0, s3, s5, s7, s8, s19, s20, s21⟩ := sX
  have K := (((k1.trans k2).trans k3).trans k4).trans k5
  obtain ⟨tm1, x1, sm1, d3⟩ := w4_ok (call := callN E lf (d + 1)) (lf := lf) ((((iv.keep k2).keep k3).keep k4).keep k5) s3 s5 s7 s8
  have r0 := (sm1 0 (by decide)).trans s0
  have r19 := (sm1 19 (by decide)).trans s19
  have r20 := (sm1 20 (by decide)).trans s20
  have r21 := (sm1 21 (by decide)).trans s21
  by_cases er : errA (evs.take i) e = 0
  · refine .inl ⟨?s1, ?a1, ?b1⟩
    case a1 =>
      rw [hx]
      simp only [x_seq, x_reg, x_cond, x_block, x_exit, x_skip, x1, o_move, o_bin, o_nil, ev_dst, ev_c, d3, neq0, er, not_true_eq_false, decide_false, Nat.reduceEqDiff, if_true, if_false, r21, hadd]
      rfl
    case b1 =>
      refine ⟨?_, ?_, ?_, ?_, ?_, rfl, K, ok_snoc ok hi (by rw [he]; exact er)⟩ <;> simp only [ev_dst, Nat.reduceEqDiff, if_true, if_false, r0, d3, er, r19, r20]
  · refine .inr ⟨?x2, ?s2, ?a2, ?c2, ?b2⟩
    case a2 =>
      rw [hx]
      simp only [x_seq, x_reg, x_cond, x_block, x_exit, x_skip, x1, o_move, o_bin, o_nil, ev_dst, ev_c, d3, neq0, er, not_false_eq_true, decide_true, Nat.reduceEqDiff, if_true, if_false, r21, hadd]
      rfl
    case c2 => intro h; cases h
    case b2 =>
      refine ⟨rfl, ?_, rfl, K, errA (evs.take i) e, ?_, .at i hi ok (by rw [he]) er⟩ <;> simp only [ev_dst, Nat.reduceEqDiff, if_true, if_false, r0, d3]
theorem end41 {call : CallF} {lf : Nat} {evs : List Ev} {h0 : Heap} {s : St} (I : I41 evs h0 evs.length s) :
    ∃ x s', exec call lf B4_0 s = some (x, s') ∧ x ≠ .normal ∧ Q41 evs h0 x s' := by
  obtain ⟨tm, h, df⟩ := s
  obtain ⟨t0, t3, t19, t20, t21, rfl, hp, ok⟩ := I
  simp only at t0 t3 t19 t20 t21 hp
  refine ⟨?x, ?s, ?a, ?c, ?b⟩
  case a =>
    unfold B4_0
    simp only [x_seq, x_reg, x_cond, x_exit, o_bin, o_nil, ev_dst, t20, t21, b_lssI, Nat.lt_irrefl, decide_false, if_true]
    rfl
  case c => intro h; cases h
  case b =>
    refine ⟨rfl, ?_, rfl, hp, 0, ?_, .none fun j hj => ok j hj hj⟩ <;> simp only [ev_dst, Nat.reduceEqDiff, if_false, t0, t3]
theorem law4_ok {E : Env} {lf d : Nat} {evs : List Ev} {h h1 : Heap} (hf4 : E.fns 4 = some F4) (hf6 : E.fns 6 = some F6) (hf8 : E.fns 8 = some F8) (hf9 : E.fns 9 = some F9) (ho : ∀ f ags h, f ≠ 5 → E.orc f ags h = none) (hlk : E.orc 5 [] h = some (.bool true, h1)) (hk : Keep h h1)
    (hl : HL h evs) (hb : evs.length ≤ 60) (hlf : 60 < lf) :
    ∃ h', callN E lf (d + 3) 4 [.slice 0 0 0 evs.length 0 11] h = some (.bool true, h') ∧ Keep h h' := by
  obtain ⟨tm0, htm⟩ : ∃ tm, tm = argTm [.slice 0 0 0 evs.length 0 11] 0 (.leaf : Tm) := ⟨_, rfl⟩
  have e0 : (CX.t 0).ev tm0 = .slice 0 0 0 evs.length 0 11 := by rw [htm]; simp only [argTm_cons, argTm_nil, ev_dst, Nat.reduceEqDiff, if_true, if_false, Nat.reduceAdd]
  have hz : AV.int .i64 0 = goI 0 := rfl
  have c5 : callN E lf (d + 2) 5 [] h = some (.bool true, h1) := by simp only [callN, hlk]
  have hn60 : aBin .gtr (.base .i) true (goI evs.length) (.int .i64 60) = some (.bool false) := by
    have := b_gtrI (.base .i) true evs.length 60
    rw [show decide (60 < evs.length) = false from decide_eq_false (by omega)] at this
    exact this
  let call := callN E lf (d + 2)
  let RB : CC := .seq (.reg [⟨(some 103), none, .move (.t 0)⟩, ⟨(some 104), none, .call 8 [(.t 103)]⟩, ⟨(some 105), none, .move (.t 3)⟩, ⟨(some 106), none, .bin .eql (.base .i) false (.t 104) (.t 105)⟩, ⟨(some 107), none, .move (.t 106)⟩,
    ⟨(some 108), (some (107, true)), .move (.t 0)⟩, ⟨(some 109), (some (107, true)), .call 9 [(.t 108)]⟩, ⟨(some 110), (some (107, true)), .move (.t 10)⟩, ⟨(some 111), (some (107, true)), .bin .eql (.base .i) false (.t 109) (.t 110)⟩, ⟨(some 112), none, .pick (.t 107) (.t 111) (.c (.bool false))⟩, ⟨(some 2), none, .move (.t 112)⟩]) .ret
  let RA : CC := .seq (.reg [⟨(some 9), none, .move (.c (.int .i64 0))⟩, ⟨(some 10), none, .move (.c (.int .i64 0))⟩]) (.seq (.seq (.reg [⟨(some 76), none, .move (.t 0)⟩, ⟨(some 77), none, .len .slice (.t 76)⟩, ⟨(some 78), none, .move (.c (.int .i64 0))⟩]) (.block 3 (.loop B4_1))) RB)
  obtain ⟨tmX, hx, s0, s3, s19, s20, s21⟩ : ∃ tmX, exec call lf C4 ⟨tm0, h, []⟩ = exec call lf (.seq (.block 0 (.loop B4_0)) RA) ⟨tmX, h1, []⟩ ∧
      (CX.t 0).ev tmX = .slice 0 0 0 evs.length 0 11 ∧ (CX.t 3).ev tmX = goI 0 ∧ (CX.t 19).ev tmX = .slice 0 0 0 evs.length 0 11 ∧ (CX.t 20).ev tmX = goI evs.length ∧ (CX.t 21).ev tmX = goI 0 := by
    refine ⟨?s, ?a, ?b⟩
    case a =>
      unfold C4
      simp only [x_seq, x_reg, x_cond, x_block, x_loop, x_skip, o_move, o_bin, o_un, o_len, o_call, o_nil, ev_dst, ev_c, aUn, lenA, List.map_nil, Bool.not_true, Nat.reduceEqDiff, if_true, if_false, e0, hn60, call, c5, RA]
      rfl
    case b => refine ⟨?_, ?_, ?_, ?_, ?_⟩ <;> simp only [ev_dst, Nat.reduceEqDiff, if_true, if_false, e0, hz]
  have I0 : I41 evs h1 0 ⟨tmX, h1, []⟩ := ⟨s0, s3, s19, s20, s21, rfl, Keep.refl _, fun j hj h0 => absurd h0 (Nat.not_lt_zero _)⟩
  obtain ⟨x, s', e1, hq⟩ := loop_run (body := exec call lf B4_0) (I := I41 evs h1) (Q := Q41 evs h1) (fun i s hi hI => step41 hf6 (fun ags h => ho 6 ags h (by decide)) hlf (hl.keep hk) hb hi hI) (fun s hI => end41 hI) evs.length 0 ⟨tmX, h1, []⟩ (by omega) I0 lf (by omega)
  obtain ⟨rfl, q0, qd, qp, r, qr, qF⟩ := hq
  obtain ⟨tm', h2, df'⟩ := s'
  simp only at q0 qd qp qr
  subst qd
  obtain ⟨tmY, hy, y0, y3, y9, y10, y76, y77, y78⟩ : ∃ tmY, exec call lf RA ⟨tm', h2, []⟩ = exec call lf (.seq (.block 3 (.loop B4_1)) RB) ⟨tmY, h2, []⟩ ∧
      (CX.t 0).ev tmY = .slice 0 0 0 evs.length 0 11 ∧ (CX.t 3).ev tmY = goI r ∧ (CX.t 9).ev tmY = goI 0 ∧ (CX.t 10).ev tmY = goI 0 ∧ (CX.t 76).ev tmY = .slice 0 0 0 evs.length 0 11 ∧ (CX.t 77).ev tmY = goI evs.length ∧ (CX.t 78).ev tmY = goI 0 := by
    refine ⟨?sY, ?aY, ?bY⟩
    case aY =>
      simp only [RA, x_seq, x_reg, x_block, x_loop, o_move, o_len, o_nil, ev_dst, ev_c, lenA, Nat.reduceEqDiff, if_true, if_false, q0]
      rfl
    case bY => refine ⟨?_, ?_, ?_, ?_, ?_, ?_, ?_⟩ <;> simp only [ev_dst, Nat.reduceEqDiff, if_true, if_false, q0, qr, hz]
  have J0 : I42 evs h2 tmY 0 ⟨tmY, h2, []⟩ := ⟨rfl, rfl, y9, y76, y77, y78, rfl, Keep.refl _, .inl ⟨y10, fun j hj h0 => absurd h0 (Nat.not_lt_zero _)⟩⟩
  obtain ⟨x, s', e2, hq⟩ := loop_run (body := exec call lf B4_1) (I := I42 evs h2 tmY) (Q := Q42 evs h2 tmY) (fun i s hi hI => .inl (step42 ((hl.keep hk).keep qp) hb hi hI)) (fun s hI => end42 hI) evs.length 0 ⟨tmY, h2, []⟩ (by omega) J0 lf (by omega)
  obtain ⟨rfl, z0, z3, zd, zp, u, zu, uF⟩ := hq
  obtain ⟨tmZ, h3, df'⟩ := s'
  simp only at z0 z3 zd zp zu
  subst zd
  have z0 := z0.trans y0
  have z3 := z3.trans y3
  obtain ⟨r', h4, c8, F8', k8⟩ := activities_ok (d := d + 1) hf8 (fun ags h => ho 8 ags h (by decide)) (((hl.keep hk).keep qp).keep zp) hb hlf
  obtain ⟨u', h5, c9, F9', k9⟩ := tasks_ok (d := d + 1) hf9 (fun ags h => ho 9 ags h (by decide)) ((((hl.keep hk).keep qp).keep zp).keep k8) hb hlf
  have hr : r' = r := F8'.unique qF
  have hu : u' = u := F9'.unique uF
  subst hr hu
  have heq (n : Nat) : aBin .eql (.base .i) false (goI n) (goI n) = some (.bool true) := by unfold goI; rw [b_eql]; simp
  refine ⟨h5, ?_, (((hk.trans qp).trans zp).trans k8).trans k9⟩
  refine call_body (s := ⟨?tm, h5, []⟩) (x := .ret) (l := [.bool true]) (ho _ _ _ (by decide)) hf4 ?a (fun i e => by cases e) rfl ?b
  case a =>
    rw [← htm]
    show exec call lf C4 ⟨tm0, h, []⟩ = _
    rw [hx, x_seq, x_block, x_loop, e1]
    simp only [show Nat.beq 0 0 = true from rfl, if_true]
    rw [hy, x_seq, x_block, x_loop, e2]
    simp only [show Nat.beq 3 3 = true from rfl, if_true, RB, x_seq, x_reg, x_ret, o_move, o_bin, o_call, o_pick, o_guard, o_nil, pickA, w_tt, w_ff, ev_dst, ev_c, List.map_cons, List.map_nil, Nat.reduceEqDiff, if_false, z0, z3, zu, call, c8, c9, heq]
    rfl
  case b => exact (res_tmp _ _ _).trans (by simp only [ev_dst, if_true])
theorem law4_long {E : Env} {lf d : Nat} {n : Nat} {r : Nat} {h h1 : Heap} (hf4 : E.fns 4 = some F4) (ho : ∀ f ags h, f ≠ 5 → E.orc f ags h = none) (hlk : E.orc 5 [] h = some (.bool true, h1)) (hk : Keep h h1) (hn : 60 < n) :
    ∃ h', callN E lf (d + 3) 4 [.slice r 0 0 n 0 11] h = some (.bool true, h') ∧ Keep h h' := by
  obtain ⟨tm0, htm⟩ : ∃ tm, tm = argTm [.slice r 0 0 n 0 11] 0 (.leaf : Tm) := ⟨_, rfl⟩
  have e0 : (CX.t 0).ev tm0 = .slice r 0 0 n 0 11 := by rw [htm]; simp only [argTm_cons, argTm_nil, ev_dst, Nat.reduceEqDiff, if_true, if_false, Nat.reduceAdd]
  have c5 : callN E lf (d + 2) 5 [] h = some (.bool true, h1) := by simp only [callN, hlk]
  have hn60 : aBin .gtr (.base .i) true (goI n) (.int .i64 60) = some (.bool true) := by
    have := b_gtrI (.base .i) true n 60
    rw [show decide (60 < n) = true from decide_eq_true hn] at this
    exact this
  refine ⟨h1, ?_, hk⟩
  refine call_body (s := ⟨?tm, h1, []⟩) (x := .ret) (l := [.bool true]) (ho _ _ _ (by decide)) hf4 ?a (fun i e => by cases e) rfl ?b
  case a =>
    rw [← htm]
    show exec _ lf C4 ⟨tm0, h, []⟩ = _
    unfold C4
    simp only [x_seq, x_reg, x_cond, x_block, x_loop, x_ret, x_skip, o_move, o_bin, o_un, o_len, o_call, o_nil, ev_dst, ev_c, aUn, lenA, List.map_nil, Bool.not_true, Nat.reduceEqDiff, if_true, if_false, e0, hn60, c5]
    rfl
  case b => exact (res_tmp _ _ _).trans (by simp only [ev_dst, if_true])
end Go.Ex
namespace Go.Ex
open Go
theorem loop1 {body : St → Option (XR × St)} {lf : Nat} {s s' : St} {i : Nat} (h : body s = some (.exit i, s')) : loopN body (lf + 1) s = some (.exit i, s') := by
  simp only [loopN, h]
theorem zz : aBin .lss (.base .i) false (goI 0) (goI 0) = some (.bool false) := rfl
theorem z60 : aBin .gtr (.base .i) true (goI 0) (.int .i64 60) = some (.bool false) := rfl
theorem zeq : aBin .eql (.base .i) false (goI 0) (goI 0) = some (.bool true) := rfl
theorem hz0 : AV.int .i64 0 = goI 0 := rfl
end Go.Ex
namespace Go.Ex
open Go
theorem b40e {call : CallF} {lf : Nat} {tm : Tm} {h : Heap} {df : List AV} (h1 : (CX.t 21).ev tm = goI 0) (h2 : (CX.t 20).ev tm = goI 0) : exec call lf B4_0 ⟨tm, h, df⟩ = some (.exit 0, ⟨setDst tm (some 22) (.bool false), h, df⟩) := by
  unfold B4_0; simp only [x_seq, x_reg, x_cond, x_exit, o_bin, o_nil, ev_dst, h1, h2, zz, if_true]
theorem b41e {call : CallF} {lf : Nat} {tm : Tm} {h : Heap} {df : List AV} (h1 : (CX.t 78).ev tm = goI 0) (h2 : (CX.t 77).ev tm = goI 0) : exec call lf B4_1 ⟨tm, h, df⟩ = some (.exit 3, ⟨setDst tm (some 79) (.bool false), h, df⟩) := by
  unfold B4_1; simp only [x_seq, x_reg, x_cond, x_exit, o_bin, o_nil, ev_dst, h1, h2, zz, if_true]
theorem b8e {call : CallF} {lf : Nat} {tm : Tm} {h : Heap} {df : List AV} (h1 : (CX.t 9).ev tm = goI 0) (h2 : (CX.t 8).ev tm = goI 0) : exec call lf B8_0 ⟨tm, h, df⟩ = some (.exit 0, ⟨setDst tm (some 10) (.bool false), h, df⟩) := by
  unfold B8_0; simp only [x_seq, x_reg, x_cond, x_exit, o_bin, o_nil, ev_dst, h1, h2, zz, if_true]
theorem b9e {call : CallF} {lf : Nat} {tm : Tm} {h : Heap} {df : List AV} (h1 : (CX.t 9).ev tm = goI 0) (h2 : (CX.t 8).ev tm = goI 0) : exec call lf B9_0 ⟨tm, h, df⟩ = some (.exit 0, ⟨setDst tm (some 10) (.bool false), h, df⟩) := by
  unfold B9_0; simp only [x_seq, x_reg, x_cond, x_exit, o_bin, o_nil, ev_dst, h1, h2, zz, if_true]
theorem activities_nil {E : Env} {lf d : Nat} {h : Heap} (hf : E.fns 8 = some F8) (ho : ∀ ags h, E.orc 8 ags h = none) :
    ∃ h', callN E (lf + 1) (d + 1) 8 [.nils] h = some (goI 0, h') ∧ Keep h h' := by
  obtain ⟨tm0, htm⟩ : ∃ tm, tm = argTm [.nils] 0 (.leaf : Tm) := ⟨_, rfl⟩
  have e0 : (CX.t 0).ev tm0 = .nils := by rw [htm]; simp only [argTm_cons, argTm_nil, ev_dst, Nat.reduceEqDiff, if_true, if_false, Nat.reduceAdd]
  refine ⟨_, ?_, Keep.new h (.map [] 0)⟩
  refine call_body (s := ⟨?tm, _, []⟩) (x := .ret) (l := [goI 0]) (ho _ _) hf ?a (fun i e => by cases e) rfl ?b
  case a =>
    rw [← htm]
    show exec _ _ C8 ⟨tm0, h, []⟩ = _
    unfold C8
    simp only [x_seq, x_reg, x_block, x_loop, x_ret, o_move, o_len, o_mkmap, o_nil, ev_dst, ev_c, e0, lenA, Nat.reduceEqDiff, if_true, if_false, hz0]
    rw [loop1 (b8e (by simp only [ev_dst, if_true]) (by simp only [ev_dst, Nat.reduceEqDiff, if_true, if_false]))]
    simp only [show Nat.beq 0 0 = true from rfl, if_true, x_reg, x_seq, x_ret, o_move, o_nil, ev_dst, ev_c]
    rfl
  case b => exact (res_tmp _ _ _).trans (by simp only [ev_dst, if_true])
theorem tasks_nil {E : Env} {lf d : Nat} {h : Heap} (hf : E.fns 9 = some F9) (ho : ∀ ags h, E.orc 9 ags h = none) :
    ∃ h', callN E (lf + 1) (d + 1) 9 [.nils] h = some (goI 0, h') ∧ Keep h h' := by
  obtain ⟨tm0, htm⟩ : ∃ tm, tm = argTm [.nils] 0 (.leaf : Tm) := ⟨_, rfl⟩
  have e0 : (CX.t 0).ev tm0 = .nils := by rw [htm]; simp only [argTm_cons, argTm_nil, ev_dst, Nat.reduceEqDiff, if_true, if_false, Nat.reduceAdd]
  refine ⟨_, ?_, Keep.refl h⟩
  refine call_body (s := ⟨?tm, _, []⟩) (x := .ret) (l := [goI 0]) (ho _ _) hf ?a (fun i e => by cases e) rfl ?b
  case a =>
    rw [← htm]
    show exec _ _ C9 ⟨tm0, h, []⟩ = _
    unfold C9
    simp only [x_seq, x_reg, x_block, x_loop, x_ret, o_move, o_len, o_nil, ev_dst, ev_c, e0, lenA, Nat.reduceEqDiff, if_true, if_false, hz0]
    rw [loop1 (b9e (by simp only [ev_dst, if_true]) (by simp only [ev_dst, Nat.reduceEqDiff, if_true, if_false]))]
    simp only [show Nat.beq 0 0 = true from rfl, if_true, x_reg, x_seq, x_ret, o_move, o_nil, ev_dst, ev_c]
    rfl
  case b => exact (res_tmp _ _ _).trans (by simp only [ev_dst, if_true])
theorem law4_nil {E : Env} {lf d : Nat} {h h1 : Heap} (hf4 : E.fns 4 = some F4) (hf8 : E.fns 8 = some F8) (hf9 : E.fns 9 = some F9) (ho : ∀ f ags h, f ≠ 5 → E.orc f ags h = none) (hlk : E.orc 5 [] h = some (.bool true, h1)) (hk : Keep h h1) :
    ∃ h', callN E (lf + 1) (d + 3) 4 [.nils] h = some (.bool true, h') ∧ Keep h h' := by
  obtain ⟨tm0, htm⟩ : ∃ tm, tm = argTm [.nils] 0 (.leaf : Tm) := ⟨_, rfl⟩
  have e0 : (CX.t 0).ev tm0 = .nils := by rw [htm]; simp only [argTm_cons, argTm_nil, ev_dst, Nat.reduceEqDiff, if_true, if_false, Nat.reduceAdd]
  have c5 : callN E (lf + 1) (d + 2) 5 [] h = some (.bool true, h1) := by simp only [callN, hlk]
  obtain ⟨h2, c8, k8⟩ := activities_nil (lf := lf) (d := d + 1) (h := h1) hf8 (fun ags h => ho 8 ags h (by decide))
  obtain ⟨h3, c9, k9⟩ := tasks_nil (lf := lf) (d := d + 1) (h := h2) hf9 (fun ags h => ho 9 ags h (by decide))
  refine ⟨h3, ?_, (hk.trans k8).trans k9⟩
  refine call_body (s := ⟨?tm, h3, []⟩) (x := .ret) (l := [.bool true]) (ho _ _ _ (by decide)) hf4 ?a (fun i e => by cases e) rfl ?b
  case a =>
    rw [← htm]
    show exec _ _ C4 ⟨tm0, h, []⟩ = _
    unfold C4
    simp only [x_seq, x_reg, x_cond, x_block, x_loop, x_ret, x_skip, o_move, o_bin, o_un, o_len, o_call, o_nil, ev_dst, ev_c, aUn, lenA, List.map_nil, Bool.not_true, Nat.reduceEqDiff, if_true, if_false, e0, z60, c5, hz0]
    rw [loop1 (b40e (by simp only [ev_dst, if_true]) (by simp only [ev_dst, Nat.reduceEqDiff, if_true, if_false]))]
    simp only [show Nat.beq 0 0 = true from rfl, if_true, x_seq, x_reg, x_block, x_loop, x_ret, o_move, o_bin, o_len, o_call, o_nil, ev_dst, ev_c, lenA, List.map_cons, List.map_nil, Nat.reduceEqDiff, if_false, e0, hz0]
    rw [loop1 (b41e (by simp only [ev_dst, if_true]) (by simp only [ev_dst, Nat.reduceEqDiff, if_true, if_false]))]
    simp only [show Nat.beq 3 3 = true from rfl, if_true, x_seq, x_reg, x_ret, o_move, o_bin, o_call, o_pick, o_guard, o_nil, pickA, w_tt, w_ff, ev_dst, ev_c, List.map_cons, List.map_nil, Nat.reduceEqDiff, if_false, e0, c8, c9, zeq]
    rfl
  case b => exact (res_tmp _ _ _).trans (by simp only [ev_dst, if_true])
end Go.Ex
namespace Go.Ex
open Go Go.ChangeShapes Go.Deep
def fieldOf (P : Program) (fs : Array Field) (i : Nat) (ok : TypeDesc → Bool) : Bool := match fs[i]? with
  | some f => Nat.beq f.offset i && Nat.beq (P.cellsOf f.type) 1 && match P.underlying f.type with
    | some d => ok d
    | none => false
  | none => false
def isI64 : TypeDesc → Bool
  | .int .i64 => true
  | _ => false
def isStr : TypeDesc → Bool
  | .string => true
  | _ => false
def isSl : TypeDesc → Bool
  | .slice _ => true
  | _ => false
def evTyB (P : Program) (te : TypeId) : Bool := match P.underlying te with
  | some (.struct fs) => Nat.beq (P.cellsOf te) 11 && (fieldOf P fs 0 isI64 && (fieldOf P fs 1 isI64 && (fieldOf P fs 2 isI64 && (fieldOf P fs 3 isI64 && (fieldOf P fs 4 isI64 && (fieldOf P fs 5 isStr && (fieldOf P fs 6 isStr && match fs[7]? with
    | some f => Nat.beq f.offset 7 && match P.underlying f.type with
      | some (.struct vs) => Nat.beq (P.cellsOf f.type) 4 && (fieldOf P vs 0 isI64 && (fieldOf P vs 1 isI64 && (fieldOf P vs 2 isStr && fieldOf P vs 3 isSl)))
      | _ => false
    | none => false)))))))
  | _ => false
section
variable {H : Type} {enc : TypeId × Value → H} {P : Program} {w : World} {base : Nat} {spare : Nat → Bool} {held : Bool}
theorem cell1 {α : Type} {l : List α} {i : Nat} {y : α} (h : (l.drop i).take 1 = [y]) : l[i]? = some y := by
  cases e : l.drop i with
  | nil => rw [e] at h; simp at h
  | cons a t =>
    rw [e] at h
    simp only [List.take_succ_cons, List.take_zero, List.cons.injEq, and_true] at h
    subst h
    have : (l.drop i)[0]? = some a := by rw [e]; rfl
    simpa using this
theorem fieldOf_inv {fs : Array Field} {i : Nat} {ok : TypeDesc → Bool} (h : fieldOf P fs i ok = true) {n : Nat} {cs : List Value} {xs : List (DataW H × List MemPlace)}
    (hx : ∀ (i : Nat) (f : Field), fs[i]? = some f → DataW.trod enc P w base spare held n f.type ((cs.drop f.offset).take (P.cellsOf f.type)) = xs[i]?) (hl : xs.length = fs.size) :
    ∃ (f : Field) (d : TypeDesc) (y : DataW H × List MemPlace), P.underlying f.type = some d ∧ ok d = true ∧ DataW.trod enc P w base spare held n f.type ((cs.drop i).take 1) = some y := by
  unfold fieldOf at h
  split at h
  · rename_i f hf
    simp only [Bool.and_eq_true] at h
    obtain ⟨⟨h1, h2⟩, h3⟩ := h
    split at h3
    · rename_i d hd
      have := hx i f hf
      rw [Nat.eq_of_beq_eq_true h1, Nat.eq_of_beq_eq_true h2] at this
      have hi : i < xs.length := by rw [hl]; exact (Array.getElem?_eq_some_iff.1 hf).1
      rw [List.getElem?_eq_getElem hi] at this
      exact ⟨f, d, _, hd, h3, this⟩
    · cases h3
  · cases h
theorem fInt {fs : Array Field} {i : Nat} (h : fieldOf P fs i isI64 = true) {n : Nat} {cs : List Value} {xs : List (DataW H × List MemPlace)}
    (hx : ∀ (i : Nat) (f : Field), fs[i]? = some f → DataW.trod enc P w base spare held n f.type ((cs.drop f.offset).take (P.cellsOf f.type)) = xs[i]?) (hl : xs.length = fs.size) : ∃ k, cs[i]? = some (.int .i64 k) := by
  obtain ⟨f, d, y, h1, h2, h3⟩ := fieldOf_inv h hx hl
  cases d with
  | int k =>
    cases k <;> try (cases h2; done)
    obtain ⟨m, e, _⟩ := DataW.trod_int h1 h3
    exact ⟨m, cell1 e⟩
  | _ => cases h2
theorem fStr {fs : Array Field} {i : Nat} (h : fieldOf P fs i isStr = true) {n : Nat} {cs : List Value} {xs : List (DataW H × List MemPlace)}
    (hx : ∀ (i : Nat) (f : Field), fs[i]? = some f → DataW.trod enc P w base spare held n f.type ((cs.drop f.offset).take (P.cellsOf f.type)) = xs[i]?) (hl : xs.length = fs.size) : ∃ s, cs[i]? = some (.string s) := by
  obtain ⟨f, d, y, h1, h2, h3⟩ := fieldOf_inv h hx hl
  cases d with
  | string =>
    obtain ⟨m, e, _⟩ := DataW.trod_string h1 h3
    exact ⟨m, cell1 e⟩
  | _ => cases h2
theorem fSl {fs : Array Field} {i : Nat} (h : fieldOf P fs i isSl = true) {n : Nat} {cs : List Value} {xs : List (DataW H × List MemPlace)}
    (hx : ∀ (i : Nat) (f : Field), fs[i]? = some f → DataW.trod enc P w base spare held n f.type ((cs.drop f.offset).take (P.cellsOf f.type)) = xs[i]?) (hl : xs.length = fs.size) :
    ∃ (a : AV) (v : Value), cs[i]? = some v ∧ a.isCell = true ∧ ∀ ρ, VR ρ a v := by
  obtain ⟨f, d, y, h1, h2, h3⟩ := fieldOf_inv h hx hl
  cases d with
  | slice e =>
    rcases open_slice h1 h3 with ⟨e1, _⟩ | ⟨a, len, cap, m, k, D, Pl, e1, _⟩
    · exact ⟨.nils, _, cell1 e1, rfl, fun ρ => .nils⟩
    · exact ⟨.opq a len cap, _, cell1 e1, rfl, fun ρ => .opq a len cap⟩
  | _ => cases h2
theorem strAV (ρ : Ren) (s : ByteArray) : VR ρ (.str (s.data.toList.map (·.toNat))) (.string s) := .str s
theorem get_drop {α : Type} {l : List α} {i j n : Nat} {y : α} (h : ((l.drop j).take n)[i]? = some y) : l[j + i]? = some y := by
  rw [List.getElem?_take] at h
  split at h
  · simpa using h
  · cases h
theorem ev_cells {te : TypeId} (h : evTyB P te = true) {n : Nat} {cs : List Value} {x : DataW H × List MemPlace} (hd : DataW.trod enc P w base spare held n te cs = some x) :
    ∃ e : Ev, ∀ ρ, VRs ρ e.cells cs := by
  unfold evTyB at h
  split at h
  · rename_i fs hfs
    simp only [Bool.and_eq_true] at h
    obtain ⟨hc, h0, h1, h2, h3, h4, h5, h6, h7⟩ := h
    obtain ⟨xs, m, _, _, hlen, hl, hx⟩ := DataW.trod_struct hfs hd
    rw [Nat.eq_of_beq_eq_true hc] at hlen
    obtain ⟨k0, c0⟩ := fInt h0 hx hl
    obtain ⟨k1, c1⟩ := fInt h1 hx hl
    obtain ⟨k2, c2⟩ := fInt h2 hx hl
    obtain ⟨k3, c3⟩ := fInt h3 hx hl
    obtain ⟨k4, c4⟩ := fInt h4 hx hl
    obtain ⟨s5, c5⟩ := fStr h5 hx hl
    obtain ⟨s6, c6⟩ := fStr h6 hx hl
    split at h7
    · rename_i f hf
      simp only [Bool.and_eq_true] at h7
      obtain ⟨ho, h7⟩ := h7
      split at h7
      · rename_i vs hvs
        simp only [Bool.and_eq_true] at h7
        obtain ⟨hvc, v0, v1, v2, v3⟩ := h7
        have q := hx 7 f hf
        rw [Nat.eq_of_beq_eq_true ho, Nat.eq_of_beq_eq_true hvc] at q
        have hi : 7 < xs.length := by rw [hl]; exact (Array.getElem?_eq_some_iff.1 hf).1
        rw [List.getElem?_eq_getElem hi] at q
        obtain ⟨ys, m', _, _, _, hl', hy⟩ := DataW.trod_struct hvs q
        obtain ⟨k7, c7⟩ := fInt v0 hy hl'
        obtain ⟨k8, c8⟩ := fInt v1 hy hl'
        obtain ⟨s9, c9⟩ := fStr v2 hy hl'
        obtain ⟨a, v, c10, hcell, hv⟩ := fSl v3 hy hl'
        have c7 := get_drop c7
        have c8 := get_drop c8
        have c9 := get_drop c9
        have c10 := get_drop c10
        have hcs : cs = [.int .i64 k0, .int .i64 k1, .int .i64 k2, .int .i64 k3, .int .i64 k4, .string s5, .string s6, .int .i64 k7, .int .i64 k8, .string s9, v] := by
          match cs, hlen with
          | [_, _, _, _, _, _, _, _, _, _, _], _ =>
            simp at c0 c1 c2 c3 c4 c5 c6 c7 c8 c9 c10
            simp [c0, c1, c2, c3, c4, c5, c6, c7, c8, c9, c10]
        refine ⟨⟨k0, k1, k2, k3, k4, s5.data.toList.map (·.toNat), s6.data.toList.map (·.toNat), k7, k8, s9.data.toList.map (·.toNat), a, hcell⟩, fun ρ => ?_⟩
        rw [hcs]
        exact .cons (.int _ _) (.cons (.int _ _) (.cons (.int _ _) (.cons (.int _ _) (.cons (.int _ _) (.cons (.str s5) (.cons (.str s6) (.cons (.int _ _) (.cons (.int _ _) (.cons (.str s9) (.cons (hv ρ) .nil))))))))))
      · cases h7
    · cases h7
  · cases h
theorem cells_at {a : Addr} {n : Nat} {cs : List Value} (h : w.cells? base a n = some cs) (hs : a.spot = none) : cs.length = n ∧ ∀ i, i < n → w.cell? ⟨a.block, a.off + i, none⟩ = cs[i]? := by
  obtain ⟨_, hl, hx⟩ := World.cells?_some h
  refine ⟨hl, fun i hi => ?_⟩
  have := hx i hi
  rw [← this]
  congr 1
  unfold Addr.add
  split
  · rename_i h0; subst h0; cases a; simp_all
  · rfl
end
end Go.Ex
namespace Go.Ex
open Go Go.ChangeShapes Go.Deep Go.RowKit
def oneRen (B : Blk) : Ren := fun r v => if r = 0 ∧ v = 0 then some B else none
theorem oneRen_inv {B B' : Blk} {r v : Nat} (h : oneRen B r v = some B') : r = 0 ∧ v = 0 ∧ B' = B := by
  unfold oneRen at h
  split at h
  · rename_i e; exact ⟨e.1, e.2, (Option.some.inj h).symm⟩
  · cases h
theorem list_start {H : Type} {enc : TypeId × Value → H} {P : Program} {W : World} {b0 : Nat} {tl te : TypeId} {v : Value} {d : DataW H} {ps : List MemPlace}
    (ht : P.underlying tl = some (.slice te)) (hev : evTyB P te = true) (hc : P.cellsOf te = 11) (hok : Value.okWide P W .any b0 tl v) (hd : DataW.Trod enc P W 0 (fun _ => true) true tl v d ps) :
    (v = .slice none 0 0) ∨ ∃ (evs : List Ev) (ρ : Ren) (h : Heap), WR ρ h W ∧ VR ρ (.slice 0 0 0 evs.length 0 11) v ∧ HL h evs ∧
      ∀ ρ' h' w', Keep h h' → WR ρ' h' w' → ρ.le ρ' → Fr ρ W w' → Below W.heap.size W w' := by
  have hok' : Cell.ok P W .any b0 tl v := by simpa only [Value.okWide, ht, Cell.okWide] using hok
  have hv : v = .slice none 0 0 ∨ ∃ a len cap, v = .slice (some a) len cap ∧ len ≤ cap ∧ W.has P .any b0 a te cap := by
    cases v with
    | slice a len cap =>
      simp only [Cell.ok, ht] at hok'
      cases a with
      | none =>
        split at hok' <;> first | exact .inl rfl | (exfalso; exact hok') | skip
        all_goals simp_all
      | some a => exact .inr ⟨a, len, cap, rfl, hok'.1, hok'.2.2⟩
    | _ => simp only [Cell.ok, ht] at hok'
  rcases hv with rfl | ⟨a, len, cap, rfl, hlc, _, hsp, row, cells, hsh, _⟩
  · exact .inl rfl
  · skip
    obtain ⟨fuel, hd⟩ := hd
    unfold World.shape? at hsh
    split at hsh
    · rename_i c el fr hob
      rcases open_slice ht hd with ⟨e1, _⟩ | ⟨a', len', cap', m, n, D, Pl, e1, _, _, _, hm, _, hx⟩
      · cases e1
      · simp only [Value.cells] at e1
        cases e1
        simp only [if_true] at hm
        subst hm
        rw [hc] at hx
        have hE : ∀ i, i < len → ∃ e : Ev, ∀ (ρ : Ren) (k : Nat) (x : AV), e.cells[k]? = some x → ∃ y, c[a.off + i * 11 + k]? = some y ∧ VR ρ x y := by
          intro i hi
          obtain ⟨cs', h1, h2⟩ := hx i (by omega)
          obtain ⟨e, he⟩ := ev_cells hev h2
          have hs' : (a.add (i * 11)).spot = none := by
            unfold Addr.add; split
            · exact hsp
            · rfl
          obtain ⟨hl, hcell⟩ := cells_at h1 hs'
          have hblk : (a.add (i * 11)).block = a.block ∧ (a.add (i * 11)).off = a.off + i * 11 := by
            unfold Addr.add; split
            · rename_i h0; exact ⟨rfl, by omega⟩
            · exact ⟨rfl, rfl⟩
          refine ⟨e, fun ρ k x hk => ?_⟩
          obtain ⟨y, hy, hv⟩ := VRs.get (he ρ) k x hk
          have hk' : k < 11 := by rw [← hl]; exact (List.getElem?_eq_some_iff.1 hy).1
          have := hcell k hk'
          rw [hblk.1, hblk.2, hy] at this
          simp only [World.cell?, hob] at this
          exact ⟨y, by simpa using this, hv⟩
        obtain ⟨E, hE⟩ : ∃ E : Nat → Ev, ∀ i, i < len → ∀ (ρ : Ren) (k : Nat) (x : AV), (E i).cells[k]? = some x → ∃ y, c[a.off + i * 11 + k]? = some y ∧ VR ρ x y := by
          have : ∀ i, ∃ e : Ev, i < len → ∀ (ρ : Ren) (k : Nat) (x : AV), e.cells[k]? = some x → ∃ y, c[a.off + i * 11 + k]? = some y ∧ VR ρ x y := by
            intro i
            by_cases hi : i < len
            · obtain ⟨e, he⟩ := hE i hi; exact ⟨e, fun _ => he⟩
            · exact ⟨⟨0, 0, 0, 0, 0, [], [], 0, 0, [], .nils, rfl⟩, fun h => absurd h hi⟩
          exact ⟨fun i => (this i).choose, fun i => (this i).choose_spec⟩
        right
        let evs : List Ev := (List.range len).map E
        have hlen : evs.length = len := by simp [evs]
        let B : Blk := ⟨a.block, a.off, a.off + m * 11⟩
        let o : Obj := .cells c el fr
        let h : Heap := (noHeap.new (.ro (freshCells (evs.flatMap Ev.cells)) o)).2
        have hg : ∀ r, h.get r = if r = 0 then some (.ro (freshCells (evs.flatMap Ev.cells)) o) else none := fun r => by
          show (noHeap.new _).2.get r = _
          rw [Heap.get_new, noHeap_get]; rfl
        have hbl : a.block < W.heap.size := (Array.getElem?_eq_some_iff.1 hob).1
        have flat : ∀ (i : Nat) (x : AV), (evs.flatMap Ev.cells)[i]? = some x → ∃ y, c[a.off + i]? = some y ∧ ∀ ρ : Ren, VR ρ x y := by
          intro i x hi
          have h1 : i < evs.length * 11 := by rw [← flat_length]; exact (List.getElem?_eq_some_iff.1 hi).1
          have h2 : i / 11 < evs.length := by omega
          have h3 := flat_at evs (i / 11) h2
          have h4 : ((evs[i / 11]).cells)[i % 11]? = some x := by
            rw [← h3, List.getElem?_take_of_lt (by omega), List.getElem?_drop, ← hi]
            congr 1; omega
          have h5 : evs[i / 11] = E (i / 11) := by simp [evs]
          rw [h5] at h4
          have hi' : i / 11 < len := by rw [← hlen]; exact h2
          obtain ⟨y, hy, _⟩ := hE (i / 11) hi' (fun _ _ => none) _ _ h4
          refine ⟨y, ?_, fun ρ => ?_⟩
          · rw [← hy]; congr 1; omega
          · obtain ⟨y', hy', hv⟩ := hE (i / 11) hi' ρ _ _ h4
            rw [hy] at hy'; cases hy'; exact hv
        have hOR : ∀ (r : Nat) (v' : Nat) (B' : Blk), oneRen B r v' = some B' → W.heap[B'.b]? = some o ∧ RoR (oneRen B) (freshCells (evs.flatMap Ev.cells)) v' B' o := by
          intro r v' B' hB'
          obtain ⟨_, rfl, rfl⟩ := oneRen_inv hB'
          refine ⟨hob, ⟨⟨c, el, fr, rfl, fun i cell hi _ j hj => ?_⟩⟩⟩
          obtain ⟨y, hy, hv⟩ := flat i cell.v (fresh_get hi).2
          have : j = a.off + i := by simp only [B] at hj; omega
          subst this
          exact ⟨y, hy, hv _⟩
        have hWR : WR (oneRen B) h W := by
          refine ⟨fun r ob hr => ?_, fun r v' B' hB' => ?_, fun r r' v1 v2 B1 B2 h1 h2 hne => ?_, fun r v1 v2 B1 B2 h1 h2 _ => ?_, fun r ob hr => ?_⟩
          · rw [hg] at hr
            split at hr
            · cases hr
              rename_i h0; subst h0
              exact fun v' B' hB' => hOR _ _ _ hB'
            · cases hr
          · obtain ⟨rfl, _, rfl⟩ := oneRen_inv hB'
            exact ⟨Nat.lt_succ_self 0, hbl⟩
          · obtain ⟨rfl, _, _⟩ := oneRen_inv h1
            obtain ⟨rfl, _, _⟩ := oneRen_inv h2
            exact absurd rfl hne
          · obtain ⟨_, _, rfl⟩ := oneRen_inv h1
            obtain ⟨_, _, rfl⟩ := oneRen_inv h2
            rfl
          · rw [hg] at hr
            split at hr
            · rename_i h0; subst h0; exact Nat.lt_succ_self 0
            · cases hr
        refine ⟨evs, oneRen B, h, hWR, ?_, ⟨⟨o, by rw [hg, if_pos rfl]⟩, Nat.lt_succ_self 0⟩, ?_⟩
        · rw [hlen]
          have ha : a = ⟨a.block, a.off, none⟩ := by cases a; simp_all
          rw [ha]
          exact .slice (B := B) (by simp [oneRen]) (.inl (by simp [B])) hlc (Nat.le_refl _) (.inl rfl)
        · intro ρ' h' w' hk hw' hle hfr
          refine ⟨hfr.os, hfr.tape, hfr.out, hfr.size, fun k hkk => ?_⟩
          by_cases hka : k = a.block
          · subst hka
            have h0 : h'.get 0 = some (.ro (freshCells (evs.flatMap Ev.cells)) o) := (hk.get 0 (Nat.lt_succ_self 0)).trans (by rw [hg, if_pos rfl])
            have := (hw'.obj 0 _ h0 0 B (hle 0 0 B (by simp [oneRen]))).1
            rw [show W.heap[a.block]? = some o from hob]
            exact this
          · exact hfr.keep k hkk fun r v' B' hB' => by
              obtain ⟨_, _, rfl⟩ := oneRen_inv hB'
              exact fun e => hka e.symm
    · cases hsh
end Go.Ex
end
