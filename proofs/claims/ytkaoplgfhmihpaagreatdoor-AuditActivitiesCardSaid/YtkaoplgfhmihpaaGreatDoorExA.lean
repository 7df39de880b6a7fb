/- A part of the proof (made by program out of smaller texts). -/
import GoSem.Step
import Derived.Calls
import Derived.WalkKit
noncomputable section
set_option linter.all false
namespace Go.Ex
open Go
inductive AV where
  | bool (b : Bool)
  | int (k : IntKind) (n : Int)
  | str (s : List Nat)
  | ptr (r v o : Nat)
  | nilp
  | slice (r v o len cap e : Nat)
  | nils
  | opq (a : Addr) (n cc : Nat)
  | map (r : Nat)
  | nilm
  | func (f : Nat) (first caps : List AV)
  | nilf
  | iface (t : Nat) (v : AV)
  | nili
  | agg (l : List AV)
  | tup (l : List AV)
  deriving Inhabited
abbrev AV.undef : AV := .tup []
mutual
def AV.beq : AV → AV → Bool
  | .bool a, .bool b => a == b
  | .int k a, .int j b => decide (k = j) && a == b
  | .str a, .str b => a == b
  | .ptr r v o, .ptr r' v' o' => Nat.beq r r' && Nat.beq v v' && Nat.beq o o'
  | .nilp, .nilp => true
  | .slice r v o n c e, .slice r' v' o' n' c' e' => Nat.beq r r' && Nat.beq v v' && Nat.beq o o' && Nat.beq n n' && Nat.beq c c' && Nat.beq e e'
  | .nils, .nils => true
  | .opq a n k, .opq a' n' k' => decide (a = a') && Nat.beq n n' && Nat.beq k k'
  | .map r, .map r' => Nat.beq r r'
  | .nilm, .nilm => true
  | .func f a b, .func f' a' b' => Nat.beq f f' && AV.beqs a a' && AV.beqs b b'
  | .nilf, .nilf => true
  | .iface t v, .iface t' v' => Nat.beq t t' && AV.beq v v'
  | .nili, .nili => true
  | .agg a, .agg b => AV.beqs a b
  | .tup a, .tup b => AV.beqs a b
  | _, _ => false
def AV.beqs : List AV → List AV → Bool
  | [], [] => true
  | a :: as, b :: bs => AV.beq a b && AV.beqs as bs
  | _, _ => false
end
inductive T (α : Type) where
  | leaf : T α
  | node (v : Option α) (l r : T α) : T α
def T.getI {α : Type} : T α → Nat → Option α
  | .leaf, _ => none
  | .node v _ _, 0 => v
  | .node _ l r, k + 1 => if Nat.beq (k % 2) 0 then l.getI (k / 2) else r.getI (k / 2)
def T.setI {α : Type} (a : α) : Nat → T α → Nat → T α
  | 0, t, _ => t
  | _ + 1, .leaf, 0 => .node (some a) .leaf .leaf
  | n + 1, .leaf, k + 1 => if Nat.beq (k % 2) 0 then .node none (T.setI a n .leaf (k / 2)) .leaf else .node none .leaf (T.setI a n .leaf (k / 2))
  | _ + 1, .node _ l r, 0 => .node (some a) l r
  | n + 1, .node v l r, k + 1 => if Nat.beq (k % 2) 0 then .node v (T.setI a n l (k / 2)) r else .node v l (T.setI a n r (k / 2))
noncomputable def T.get {α : Type} (t : T α) : Nat → Option α := T.rec (motive := fun _ => Nat → Option α) (fun _ => none)
  (fun v _ _ gl gr k => Nat.rec (motive := fun _ => Option α) v (fun k' _ => Bool.rec (motive := fun _ => Option α) (gr (Nat.div k' 2)) (gl (Nat.div k' 2)) (Nat.beq (Nat.mod k' 2) 0)) k) t
noncomputable def T.val {α : Type} (t : T α) : Option α := T.rec (motive := fun _ => Option α) none (fun v _ _ _ _ => v) t
noncomputable def T.lft {α : Type} (t : T α) : T α := T.rec (motive := fun _ => T α) .leaf (fun _ l _ _ _ => l) t
noncomputable def T.rgt {α : Type} (t : T α) : T α := T.rec (motive := fun _ => T α) .leaf (fun _ _ r _ _ => r) t
noncomputable def T.setR {α : Type} (a : α) (n : Nat) : T α → Nat → T α := Nat.rec (motive := fun _ => T α → Nat → T α) (fun t _ => t)
  (fun _ ih t k => Nat.rec (motive := fun _ => T α) (.node (some a) t.lft t.rgt)
    (fun k' _ => Bool.rec (motive := fun _ => T α) (.node t.val t.lft (ih t.rgt (Nat.div k' 2))) (.node t.val (ih t.lft (Nat.div k' 2)) t.rgt) (Nat.beq (Nat.mod k' 2) 0)) k) n
def T.setJ {α : Type} (n : Nat) (t : T α) (k : Nat) (a : α) : T α := T.setI a n t k
noncomputable def T.set {α : Type} (n : Nat) (t : T α) (k : Nat) (a : α) : T α := T.setR a n t k
structure Cell where
  m : Nat
  v : AV
  deriving Inhabited
structure ME where
  key : AV
  val : AV
  born : Nat
  deriving Inhabited
inductive AObj where
  | row (cs : List Cell) (ver : Nat)
  | map (es : List ME) (clock : Nat)
  | mapIter (m : Option Nat) (since : Nat) (seen : List Nat) (stepped : Nat)
  | strIter (s : List Nat) (pos : Nat)
  | ro (cs : List Cell) (o : Obj)
  deriving Inhabited
structure Heap where
  t : T AObj
  next : Nat
abbrev Tm := T AV
def Heap.get (h : Heap) (r : Nat) : Option AObj := h.t.get r
def Heap.put (h : Heap) (r : Nat) (o : AObj) : Heap := { h with t := h.t.set (r + 1) r o }
def Heap.new (h : Heap) (o : AObj) : Nat × Heap := (h.next, { t := h.t.set (h.next + 1) h.next o, next := h.next + 1 })
def freshCells (l : List AV) : List Cell := l.map fun v => ⟨0, v⟩
def ldList (v : Nat) : List Cell → Nat → Option (List AV)
  | _, 0 => some []
  | [], _ + 1 => none
  | c :: cs, n + 1 => if Nat.ble c.m v then match ldList v cs n with
      | some l => some (c.v :: l)
      | none => none
    else none
def ldCells (h : Heap) (r v o n : Nat) : Option (List AV) :=
  match h.get r with
  | some (.row cs _) => ldList v (cs.drop o) n
  | _ => none
def ldC (h : Heap) (r v o n : Nat) : Option (List AV) :=
  match h.get r with
  | some (.row cs _) => ldList v (cs.drop o) n
  | some (.ro cs _) => ldList v (cs.drop o) n
  | _ => none
def ldVar (h : Heap) (agg : Bool) (n : Nat) (r v o : Nat) : Option AV :=
  match ldC h r v o n with
  | some l => if agg then some (.agg l) else match l with
    | [x] => some x
    | _ => none
  | none => none
def AV.isCell : AV → Bool
  | .agg _ => false
  | .tup _ => false
  | _ => true
def stList (m : Nat) : List Cell → List AV → Option (List Cell)
  | cs, [] => some cs
  | [], _ :: _ => none
  | _ :: cs, v :: vs => if v.isCell then match stList m cs vs with
    | some l => some (⟨m, v⟩ :: l)
    | none => none
    else none
def stAt (m : Nat) : List Cell → Nat → List AV → Option (List Cell)
  | cs, 0, vs => stList m cs vs
  | [], _ + 1, _ => none
  | c :: cs, o + 1, vs => match stAt m cs o vs with
    | some l => some (c :: l)
    | none => none
def stCells (h : Heap) (r v o : Nat) (vs : List AV) : Option Heap :=
  match h.get r with
  | some (.row cs ver) => if Nat.beq ver v then match stAt v cs o vs with
      | some cs' => some (h.put r (.row cs' ver))
      | none => none
    else none
  | _ => none
def AV.cells : AV → List AV
  | .agg l => l
  | v => [v]
inductive CX where
  | t (i : Nat)
  | c (v : AV)
  | f (i : Nat)
  deriving Inhabited
def CX.ev (tm : Tm) : CX → AV
  | .t i => match tm.get i with
    | some v => v
    | none => .undef
  | .c v => v
  | .f i => .func i [] []
inductive BK where
  | b | i | s
  deriving DecidableEq, Inhabited
inductive EK where
  | base (k : BK) | cells (ks : List BK) | ptr | slice | map | func | iface | no
  deriving DecidableEq, Inhabited
inductive LK where
  | str | const (n : Nat) | slice | map
  deriving Inhabited
inductive XK where
  | add (k : IntKind) | indexByte | cmp | count
  deriving Inhabited
inductive COp where
  | move (x : CX)
  | pick (c a b : CX)
  | alloc (zero : List AV)
  | box (n : Nat) (x : CX)
  | build (zero : List AV) (parts : List (Nat × Nat × CX))
  | bslice (n : Nat) (zero : List AV) (len : Nat) (parts : List (Nat × Nat × CX))
  | load (agg : Bool) (n : Nat) (x : CX)
  | store (n : Nat) (x v : CX)
  | nilchk (x : CX)
  | bin (op : BinOp) (ek : EK) (cst : Bool) (x y : CX)
  | un (op : UnOp) (x : CX)
  | i2i (k : IntKind) (x : CX)
  | s2b (x : CX)
  | b2s (x : CX)
  | same (x : CX)
  | mkif (t : Nat) (x : CX)
  | mkfn (f : Nat) (first caps : List CX)
  | mkmap
  | mkslice (bytes : Nat) (zero : List AV) (len cap : CX)
  | slstr (x : CX) (lo hi : Option CX)
  | slsl (n : Nat) (x : CX) (lo hi mx : Option CX)
  | slarr (len n : Nat) (x : CX) (lo hi mx : Option CX)
  | fld (off : Nat) (x : CX)
  | fldv (agg : Bool) (off n : Nat) (x : CX)
  | idxa (len n : Nat) (x i : CX)
  | idxs (n : Nat) (x i : CX)
  | ixv (agg : Bool) (len n : Nat) (x i : CX)
  | ixs (x i : CX)
  | lookup (kn : EK) (zero : AV) (ok : Bool) (x i : CX)
  | mapupd (kn : EK) (m k v : CX)
  | mapent (kn : EK) (zero : AV) (m k : CX)
  | entst (m s v : CX)
  | rngm (x : CX)
  | rngs (x : CX)
  | next (str : Bool) (x : CX)
  | entry (x : CX)
  | ext (x : CX) (i : Nat)
  | call (f : Nat) (args : List CX)
  | callv (x : CX) (args : List CX)
  | xcall (k : XK) (args : List CX)
  | len (k : LK) (x : CX)
  | append (n b : Nat) (x y : CX)
  | copy (n : Nat) (x y : CX)
  | delete (kn : EK) (m k : CX)
  | clearm (x : CX)
  | clears (n : Nat) (zero : List AV) (x : CX)
  | mx (args : List CX)
  | mn (args : List CX)
  | cap (x : CX)
  | defer (x : CX)
  | bad
  deriving Inhabited
structure CI where
  dst : Option Nat
  guard : Option (Nat × Bool)
  op : COp
  deriving Inhabited
inductive Chk where
  | re (c : CI)
  | ne (x y : CX)
  deriving Inhabited
inductive CC where
  | skip
  | reg (ops : List CI)
  | dreg (ops : List (CI × List Chk))
  | seq (a b : CC)
  | cond (c : CX) (a b : CC)
  | block (id : Nat) (b : CC)
  | loop (b : CC)
  | exit (id : Nat)
  | scope (b : CC)
  | ret
  deriving Inhabited
inductive CR where
  | tmp (t : Nat)
  | cell (a : Nat) (agg : Bool) (n : Nat)
  deriving Inhabited
structure CF where
  body : CC
  res : List CR
  deriving Inhabited
def aEqB : BK → AV → AV → Option Bool
  | .i, .int k a, .int j b => if decide (k = j) then some (a == b) else none
  | .s, .str a, .str b => some (a == b)
  | .b, .bool a, .bool b => some (a == b)
  | _, _, _ => none
def aEqBs : List BK → List AV → List AV → Option Bool
  | [], [], [] => some true
  | k :: ks, a :: as, b :: bs => match aEqB k a b with
    | some true => aEqBs ks as bs
    | some false => some false
    | none => none
  | _, _, _ => none
def aEq (cst : Bool) : EK → AV → AV → Option Bool
  | .base k, a, b => aEqB k a b
  | .cells ks, .agg a, .agg b => aEqBs ks a b
  | .ptr, .nilp, .nilp => some true
  | .ptr, .nilp, .ptr .. => some false
  | .ptr, .ptr .., .nilp => some false
  | .ptr, .ptr r v o, .ptr r' v' o' => if Nat.beq r r' && Nat.beq v v' then some (Nat.beq o o') else none
  | .slice, .nils, .nils => some true
  | .slice, .nils, .slice .. => some false
  | .slice, .slice .., .nils => some false
  | .map, .nilm, .nilm => some true
  | .map, .nilm, .map _ => some false
  | .map, .map _, .nilm => some false
  | .func, .nilf, .nilf => some true
  | .func, .nilf, .func .. => some false
  | .func, .func .., .nilf => some false
  | .iface, .nili, .nili => if cst then some true else none
  | .iface, .nili, .iface .. => some false
  | .iface, .iface .., .nili => some false
  | _, _, _ => none
def strLess : List Nat → List Nat → Bool
  | _, [] => false
  | [], _ :: _ => true
  | a :: x, b :: y => Nat.blt a b || (Nat.beq a b && strLess x y)
def aInt (op : BinOp) (k : IntKind) (x y : Int) : Option AV :=
  match op with
  | .add => some (.int k (k.wrap (x + y)))
  | .sub => some (.int k (k.wrap (x - y)))
  | .mul => some (.int k (k.wrap (x * y)))
  | .quo => if y == 0 then none else some (.int k (k.wrap (x.tdiv y)))
  | .rem => if y == 0 then none else some (.int k (x.tmod y))
  | .and => some (.int k (k.wrap (Int.ofNat ((BitVec.ofInt k.bits x &&& BitVec.ofInt k.bits y).toNat))))
  | .or => some (.int k (k.wrap (Int.ofNat ((BitVec.ofInt k.bits x ||| BitVec.ofInt k.bits y).toNat))))
  | .xor => some (.int k (k.wrap (Int.ofNat ((BitVec.ofInt k.bits x ^^^ BitVec.ofInt k.bits y).toNat))))
  | .andNot => some (.int k (k.wrap (Int.ofNat ((BitVec.ofInt k.bits x &&& ~~~ (BitVec.ofInt k.bits y)).toNat))))
  | .eql => some (.bool (x == y))
  | .neq => some (.bool (x != y))
  | .lss => some (.bool (decide (x < y)))
  | .leq => some (.bool (decide (x ≤ y)))
  | .gtr => some (.bool (decide (x > y)))
  | .geq => some (.bool (decide (x ≥ y)))
  | _ => none
def aShift (op : BinOp) (k : IntKind) (x y : Int) : Option AV :=
  if decide (y < 0) then none else
  match op with
  | .shl => some (.int k (k.wrap (x * 2 ^ (min y.toNat k.bits))))
  | .shr => some (.int k (x.fdiv (2 ^ (min y.toNat k.bits))))
  | _ => none
def aStr (op : BinOp) (x y : List Nat) : Option AV :=
  match op with
  | .add => if Nat.ble (x.length + y.length) 1099511627776 then some (.str (x ++ y)) else none
  | .eql => some (.bool (x == y))
  | .neq => some (.bool (x != y))
  | .lss => some (.bool (strLess x y))
  | .leq => some (.bool (strLess x y || x == y))
  | .gtr => some (.bool (!(strLess x y || x == y)))
  | .geq => some (.bool (!strLess x y))
  | _ => none
def aBin (op : BinOp) (ek : EK) (cst : Bool) (a b : AV) : Option AV :=
  match a, b with
  | .int k x, .int j y => match op with
    | .shl | .shr => aShift op k x y
    | _ => if decide (k = j) then aInt op k x y else none
  | .str x, .str y => aStr op x y
  | _, _ => match op with
    | .eql => match aEq cst ek a b with
      | some r => some (.bool r)
      | none => none
    | .neq => match aEq cst ek a b with
      | some r => some (.bool !r)
      | none => none
    | _ => none
def aUn (op : UnOp) (a : AV) : Option AV :=
  match op, a with
  | .neg, .int k n => some (.int k (k.wrap (0 - n)))
  | .xor, .int k n => aInt .xor k (if k.signed then -1 else k.max) n
  | .not, .bool b => some (.bool !b)
  | _, _ => none
def setCells (cells : List AV) (off : Nat) (vs : List AV) : List AV := cells.take off ++ vs ++ cells.drop (off + vs.length)
def fillParts (tm : Tm) : List AV → List (Nat × Nat × CX) → Option (List AV)
  | cells, [] => some cells
  | cells, (off, n, x) :: rest =>
    let vs := (x.ev tm).cells
    if Nat.beq vs.length n && Nat.ble (off + n) cells.length then fillParts tm (setCells cells off vs) rest else none
def asIdx (a : AV) : Option Nat :=
  match a with
  | .int _ n => match n with
    | .ofNat m => some m
    | _ => none
  | _ => none
def optIdx (tm : Tm) : Option CX → Nat → Option Nat
  | none, d => some d
  | some x, _ => asIdx (x.ev tm)
def sliceIt (n r v o len : Nat) (capk : Nat) (tm : Tm) (lo hi mx : Option CX) (mk : Nat → Nat → Nat → Nat → AV) : Option AV :=
  match optIdx tm lo 0, optIdx tm hi len, mx with
  | some l, some h, none =>
    let top := if Nat.beq capk 0 then len else capk - 1
    if Nat.ble l h && Nat.ble h top then some (mk (o + l * n) (h - l) (if Nat.beq capk 0 then 0 else capk - l) r) else none
  | some l, some h, some m => match asIdx (m.ev tm) with
    | some m =>
      let top := if Nat.beq capk 0 then len else capk - 1
      if Nat.ble l h && Nat.ble h m && Nat.ble m top then some (mk (o + l * n) (h - l) (m - l + 1) r) else none
    | none => none
  | _, _, _ => none
def bkOk : BK → AV → Bool
  | .i, .int .. => true
  | .s, .str _ => true
  | .b, .bool _ => true
  | _, _ => false
def bksOk : List BK → List AV → Bool
  | [], [] => true
  | k :: ks, a :: as => bkOk k a && bksOk ks as
  | _, _ => false
def keyOk : EK → AV → Bool
  | .base k, a => bkOk k a
  | .cells ks, .agg l => bksOk ks l
  | _, _ => false
def findKey' (kn : EK) (k : AV) : List ME → Nat → Option (Option (Nat × ME))
  | [], _ => some none
  | e :: es, i => match aEq false kn k e.key with
    | some true => some (some (i, e))
    | some false => findKey' kn k es (i + 1)
    | none => none
def findKey (kn : EK) (k : AV) (es : List ME) (i : Nat) : Option (Option (Nat × ME)) := if keyOk kn k then findKey' kn k es i else none
def modAt (l : List ME) (i : Nat) (f : ME → ME) : List ME :=
  match l, i with
  | [], _ => []
  | e :: es, 0 => f e :: es
  | e :: es, i + 1 => e :: modAt es i f
def delAt : List ME → Nat → List ME
  | [], _ => []
  | _ :: es, 0 => es
  | e :: es, i + 1 => e :: delAt es i
def mapOf (h : Heap) (a : AV) : Option (Nat × List ME × Nat) :=
  match a with
  | .map r => match h.get r with
    | some (.map es c) => some (r, es, c)
    | _ => none
  | _ => none
def idxByte (c : Nat) : List Nat → Nat → Option Nat
  | [], _ => none
  | b :: bs, i => if Nat.beq b c then some i else idxByte c bs (i + 1)
def cntByte (c : Nat) : List Nat → Nat
  | [] => 0
  | b :: bs => if Nat.beq b c then cntByte c bs + 1 else cntByte c bs
def cmpStr : List Nat → List Nat → Int
  | [], [] => 0
  | [], _ :: _ => -1
  | _ :: _, [] => 1
  | a :: x, b :: y => if Nat.beq a b then cmpStr x y else if Nat.blt a b then -1 else 1
def bytesOfCells : List AV → Option (List Nat)
  | [] => some []
  | .int .u8 n :: l => match bytesOfCells l with
    | some r => if decide (0 ≤ n) && decide (n < 256) then some (n.toNat :: r) else none
    | none => none
  | _ :: _ => none
def bytesToCells (l : List Nat) : List AV := l.map fun b => .int .u8 (Int.ofNat b)
def goI (n : Nat) : AV := .int .i64 (Int.ofNat n)
def srcCells (h : Heap) (n : Nat) (cnt : Nat) (y : AV) : Option (List AV) :=
  match y with
  | .slice r v o len _ e => if Nat.beq n e && Nat.ble cnt len then ldCells h r v o (cnt * n) else none
  | .nils => some []
  | .str s => some (bytesToCells (s.take cnt))
  | _ => none
def lenOfA : AV → Option Nat
  | .slice _ _ _ n _ _ => some n
  | .nils => some 0
  | .str s => some s.length
  | _ => none
def aAppend (h : Heap) (n by' : Nat) (x y : AV) : Option (AV × Heap) :=
  match lenOfA y with
  | none => none
  | some cnt => match x with
    | .nils => if Nat.beq cnt 0 then some (.nils, h) else if Nat.ble (cnt * by') 68719476736 then match srcCells h n cnt y with
      | some new => let (r, h) := h.new (.row (freshCells new) 0); some (.slice r 0 0 cnt 0 n, h)
      | none => none
      else none
    | .slice r v o len capk e => if Nat.beq cnt 0 then some (x, h) else if Nat.beq n e && Nat.ble ((len + cnt) * by') 68719476736 then match srcCells h n cnt y with
      | none => none
      | some new =>
        if Nat.beq capk 0 then match h.get r with
          | some (.row cs ver) =>
            if Nat.beq v ver && Nat.ble (o + len * n) cs.length && new.all AV.isCell then
              some (.slice r (v + 1) o (len + cnt) 0 n, h.put r (.row (cs.take (o + len * n) ++ new.map (fun a => ⟨v + 1, a⟩)) (v + 1)))
            else none
          | _ => none
        else if Nat.ble (len + cnt + 1) capk then match stCells h r v (o + len * n) new with
          | some h => some (.slice r v o (len + cnt) capk n, h)
          | none => none
        else match ldCells h r v o (len * n) with
          | some old => let (r, h) := h.new (.row (freshCells (old ++ new)) 0); some (.slice r 0 0 (len + cnt) 0 n, h)
          | none => none
      else none
    | _ => none
def aMaxI (k : IntKind) : List AV → Int → Option AV
  | [], x => some (.int k x)
  | .int _ y :: rest, x => aMaxI k rest (if decide (y > x) then y else x)
  | _ :: _, _ => none
def aMax : List AV → Option AV
  | [] => none
  | [a] => some a
  | .int k x :: rest => aMaxI k rest x
  | _ => none
def aMinI (k : IntKind) : List AV → Int → Option AV
  | [], x => some (.int k x)
  | .int _ y :: rest, x => aMinI k rest (if decide (y < x) then y else x)
  | _ :: _, _ => none
def aMin : List AV → Option AV
  | [] => none
  | [a] => some a
  | .int k x :: rest => aMinI k rest x
  | _ => none
def sMove (x : CX) (tm : Tm) (h : Heap) : Option (AV × Heap) :=
  some (x.ev tm, h)
def sPick (c a b : CX) (tm : Tm) (h : Heap) : Option (AV × Heap) :=
  match c.ev tm with
    | .bool true => some (a.ev tm, h)
    | .bool false => some (b.ev tm, h)
    | _ => none
def sAlloc (zero : List AV) (tm : Tm) (h : Heap) : Option (AV × Heap) :=
  let (r, h) := h.new (.row (freshCells zero) 0); some (.ptr r 0 0, h)
def sBox (n : Nat) (x : CX) (tm : Tm) (h : Heap) : Option (AV × Heap) :=
  let cs := (x.ev tm).cells; if Nat.beq cs.length n then let (r, h) := h.new (.row (freshCells cs) 0); some (.ptr r 0 0, h) else none
def sBuild (zero : List AV) (parts : List (Nat × Nat × CX)) (tm : Tm) (h : Heap) : Option (AV × Heap) :=
  match fillParts tm zero parts with
    | some cs => some (.agg cs, h)
    | none => none
def sBslice (n : Nat) (zero : List AV) (len : Nat) (parts : List (Nat × Nat × CX)) (tm : Tm) (h : Heap) : Option (AV × Heap) :=
  match fillParts tm zero parts with
    | some cs => let (r, h) := h.new (.row (freshCells cs) 0); some (.slice r 0 0 len (len + 1) n, h)
    | none => none
def sLoad (agg : Bool) (n : Nat) (x : CX) (tm : Tm) (h : Heap) : Option (AV × Heap) :=
  match x.ev tm with
    | .ptr r v o => match ldVar h agg n r v o with
      | some a => some (a, h)
      | none => none
    | _ => none
def sStore (n : Nat) (x v : CX) (tm : Tm) (h : Heap) : Option (AV × Heap) :=
  match x.ev tm with
    | .ptr r ver o => let vs := (v.ev tm).cells
      if Nat.beq vs.length n then match stCells h r ver o vs with
        | some h => some (.undef, h)
        | none => none
      else none
    | _ => none
def sNilchk (x : CX) (tm : Tm) (h : Heap) : Option (AV × Heap) :=
  match x.ev tm with
    | .ptr r v o => some (.ptr r v o, h)
    | .iface t v => some (.iface t v, h)
    | .func f a b => some (.func f a b, h)
    | _ => none
def sBin (op : BinOp) (ek : EK) (cst : Bool) (x y : CX) (tm : Tm) (h : Heap) : Option (AV × Heap) :=
  match aBin op ek cst (x.ev tm) (y.ev tm) with
    | some a => some (a, h)
    | none => none
def sUn (op : UnOp) (x : CX) (tm : Tm) (h : Heap) : Option (AV × Heap) :=
  match aUn op (x.ev tm) with
    | some a => some (a, h)
    | none => none
def sI2i (k : IntKind) (x : CX) (tm : Tm) (h : Heap) : Option (AV × Heap) :=
  match x.ev tm with
    | .int _ n => some (.int k (k.wrap n), h)
    | _ => none
def sS2b (x : CX) (tm : Tm) (h : Heap) : Option (AV × Heap) :=
  match x.ev tm with
    | .str s => let (r, h) := h.new (.row (freshCells (bytesToCells s)) 0); some (.slice r 0 0 s.length 0 1, h)
    | _ => none
def sB2s (x : CX) (tm : Tm) (h : Heap) : Option (AV × Heap) :=
  match x.ev tm with
    | .nils => some (.str [], h)
    | .slice r v o len _ _ => match ldCells h r v o len with
      | some cs => match bytesOfCells cs with
        | some s => some (.str s, h)
        | none => none
      | none => none
    | _ => none
def sSame (x : CX) (tm : Tm) (h : Heap) : Option (AV × Heap) :=
  match x.ev tm with
    | .str s => some (.str s, h)
    | _ => none
def sMkif (t : Nat) (x : CX) (tm : Tm) (h : Heap) : Option (AV × Heap) :=
  some (.iface t (x.ev tm), h)
def sMkfn (f : Nat) (first caps : List CX) (tm : Tm) (h : Heap) : Option (AV × Heap) :=
  some (.func f (first.map (·.ev tm)) (caps.map (·.ev tm)), h)
def sMkmap  (tm : Tm) (h : Heap) : Option (AV × Heap) :=
  let (r, h) := h.new (.map [] 0); some (.map r, h)
def sMkslice (bytes : Nat) (zero : List AV) (len cap : CX) (tm : Tm) (h : Heap) : Option (AV × Heap) :=
  match asIdx (len.ev tm), asIdx (cap.ev tm) with
    | some l, some c => if Nat.ble l c && Nat.ble (c * bytes) 1048576 && Nat.ble c 1048576 then
        let (r, h) := h.new (.row (freshCells ((List.replicate c zero).flatten)) 0)
        some (.slice r 0 0 l (c + 1) zero.length, h)
      else none
    | _, _ => none
def sSlstr (x : CX) (lo hi : Option CX) (tm : Tm) (h : Heap) : Option (AV × Heap) :=
  match x.ev tm with
    | .str s => match optIdx tm lo 0, optIdx tm hi s.length with
      | some l, some hh => if Nat.ble l hh && Nat.ble hh s.length then some (.str ((s.take hh).drop l), h) else none
      | _, _ => none
    | _ => none
def sSlsl (n : Nat) (x : CX) (lo hi mx : Option CX) (tm : Tm) (h : Heap) : Option (AV × Heap) :=
  match x.ev tm with
    | .slice r v o len capk e => if Nat.beq n e then match sliceIt n r v o len capk tm lo hi mx (fun o len capk r => .slice r v o len capk e) with
      | some a => some (a, h)
      | none => none
      else none
    | .nils => match optIdx tm lo 0, optIdx tm hi 0, mx with
      | some 0, some 0, none => some (.nils, h)
      | some 0, some 0, some m => match asIdx (m.ev tm) with
        | some 0 => some (.nils, h)
        | _ => none
      | _, _, _ => none
    | _ => none
def sSlarr (len n : Nat) (x : CX) (lo hi mx : Option CX) (tm : Tm) (h : Heap) : Option (AV × Heap) :=
  match x.ev tm with
    | .ptr r v o => match h.get r with
      | some (.row cs ver) => if Nat.beq ver v && Nat.blt 0 (len * n) && Nat.ble (o + len * n) cs.length then
          match sliceIt n r v o len (len + 1) tm lo hi mx (fun o len capk r => .slice r v o len capk n) with
          | some a => some (a, h)
          | none => none
        else none
      | _ => none
    | _ => none
def sFld (off : Nat) (x : CX) (tm : Tm) (h : Heap) : Option (AV × Heap) :=
  match x.ev tm with
    | .ptr r v o => some (.ptr r v (o + off), h)
    | _ => none
def sFldv (agg : Bool) (off n : Nat) (x : CX) (tm : Tm) (h : Heap) : Option (AV × Heap) :=
  match x.ev tm with
    | .agg cs => if agg then some (.agg ((cs.drop off).take n), h) else match cs.drop off with
      | a :: _ => some (a, h)
      | [] => none
    | _ => none
def sIdxa (len n : Nat) (x i : CX) (tm : Tm) (h : Heap) : Option (AV × Heap) :=
  match x.ev tm, asIdx (i.ev tm) with
    | .ptr r v o, some i => if Nat.blt i len then some (.ptr r v (o + i * n), h) else none
    | _, _ => none
def sIdxs (n : Nat) (x i : CX) (tm : Tm) (h : Heap) : Option (AV × Heap) :=
  match x.ev tm, asIdx (i.ev tm) with
    | .slice r v o len _ e, some i => if Nat.blt i len && Nat.beq n e then some (.ptr r v (o + i * n), h) else none
    | _, _ => none
def sIxv (agg : Bool) (len n : Nat) (x i : CX) (tm : Tm) (h : Heap) : Option (AV × Heap) :=
  match x.ev tm, asIdx (i.ev tm) with
    | .agg cs, some i => if Nat.blt i len then (if agg then some (.agg ((cs.drop (i * n)).take n), h) else match cs.drop (i * n) with
      | a :: _ => some (a, h)
      | [] => none) else none
    | _, _ => none
def sIxs (x i : CX) (tm : Tm) (h : Heap) : Option (AV × Heap) :=
  match x.ev tm, asIdx (i.ev tm) with
    | .str s, some i => match s.drop i with
      | b :: _ => some (.int .u8 (Int.ofNat b), h)
      | [] => none
    | _, _ => none
def sLookup (kn : EK) (zero : AV) (ok : Bool) (x i : CX) (tm : Tm) (h : Heap) : Option (AV × Heap) :=
  match x.ev tm with
    | .nilm => if keyOk kn (i.ev tm) then some ((if ok then .tup [zero, .bool false] else zero), h) else none
    | .map r => match h.get r with
      | some (.map es _) => match findKey kn (i.ev tm) es 0 with
        | some (some (_, e)) => some ((if ok then .tup [e.val, .bool true] else e.val), h)
        | some none => some ((if ok then .tup [zero, .bool false] else zero), h)
        | none => none
      | _ => none
    | _ => none
def sMapupd (kn : EK) (m k v : CX) (tm : Tm) (h : Heap) : Option (AV × Heap) :=
  match mapOf h (m.ev tm) with
    | some (r, es, clock) => match findKey kn (k.ev tm) es 0 with
      | some (some (i, _)) => some (.undef, h.put r (.map (modAt es i fun e => { e with key := k.ev tm, val := v.ev tm }) clock))
      | some none => some (.undef, h.put r (.map (es ++ [⟨k.ev tm, v.ev tm, clock⟩]) (clock + 1)))
      | none => none
    | none => none
def sMapent (kn : EK) (zero : AV) (m k : CX) (tm : Tm) (h : Heap) : Option (AV × Heap) :=
  match mapOf h (m.ev tm) with
    | some (r, es, clock) => match findKey kn (k.ev tm) es 0 with
      | some (some (i, e)) => some (.tup [e.val, goI e.born], h.put r (.map (modAt es i fun e => { e with key := k.ev tm }) clock))
      | some none => some (.tup [zero, goI clock], h.put r (.map (es ++ [⟨k.ev tm, zero, clock⟩]) (clock + 1)))
      | none => none
    | none => none
def sEntst (m s v : CX) (tm : Tm) (h : Heap) : Option (AV × Heap) :=
  match mapOf h (m.ev tm), s.ev tm with
    | some (r, es, clock), .int _ born => match es.findIdx? (fun e => Int.ofNat e.born == born) with
      | some i => some (.undef, h.put r (.map (modAt es i fun e => { e with val := v.ev tm }) clock))
      | none => none
    | _, _ => none
def sRngm (x : CX) (tm : Tm) (h : Heap) : Option (AV × Heap) :=
  match x.ev tm with
    | .nilm => let (r, h) := h.new (.mapIter none 0 [] 0); some (.ptr r 0 0, h)
    | .map m => match h.get m with
      | some (.map _ clock) => let (r, h) := h.new (.mapIter (some m) clock [] clock); some (.ptr r 0 0, h)
      | _ => none
    | _ => none
def sRngs (x : CX) (tm : Tm) (h : Heap) : Option (AV × Heap) :=
  match x.ev tm with
    | .str s => let (r, h) := h.new (.strIter s 0); some (.ptr r 0 0, h)
    | _ => none
def sNext (x : CX) (tm : Tm) (h : Heap) : Option (AV × Heap) :=
  match x.ev tm with
    | .ptr r 0 0 => match h.get r with
      | some (.mapIter none _ _ _) => some (.tup [.bool false], h)
      | some (.mapIter (some m) since seen last) => match h.get m with
        | some (.map es clock) =>
          if !seen.isEmpty && !es.isEmpty && es.all (fun e => Nat.ble last e.born) then none else
          let left := es.filter fun e => !seen.contains e.born
          match left with
          | [] => some (.tup [.bool false], h)
          | [e] => if Nat.blt e.born since then some (.tup [.bool true, e.key, e.val], h.put r (.mapIter (some m) since (seen ++ [e.born]) clock)) else none
          | _ => none
        | _ => none
      | _ => none
    | _ => none
def sEntry (x : CX) (tm : Tm) (h : Heap) : Option (AV × Heap) :=
  match x.ev tm with
    | .ptr r 0 0 => match h.get r with
      | some (.mapIter (some m) _ seen stepped) => match seen.getLast?, h.get m with
        | some stamp, some (.map es clock) => if Nat.beq clock stepped then match es.find? (fun e => Nat.beq e.born stamp) with
            | some e => some (.tup [e.key, e.val], h)
            | none => none
          else none
        | _, _ => none
      | _ => none
    | _ => none
def sExt (x : CX) (i : Nat) (tm : Tm) (h : Heap) : Option (AV × Heap) :=
  match x.ev tm with
    | .tup l => match l.drop i with
      | a :: _ => some (a, h)
      | [] => none
    | _ => none
def sLen (k : LK) (x : CX) (tm : Tm) (h : Heap) : Option (AV × Heap) :=
  match k, x.ev tm with
    | .const n, _ => some (goI n, h)
    | .str, .str s => some (goI s.length, h)
    | .slice, .slice _ _ _ n _ _ => some (goI n, h)
    | .slice, .nils => some (goI 0, h)
    | .map, .nilm => some (goI 0, h)
    | .map, .map r => match h.get r with
      | some (.map es _) => some (goI es.length, h)
      | _ => none
    | _, _ => none
def sAppend (n b : Nat) (x y : CX) (tm : Tm) (h : Heap) : Option (AV × Heap) :=
  match y.ev tm with
  | .str _ => if Nat.beq n 1 then aAppend h n b (x.ev tm) (y.ev tm) else none
  | _ => aAppend h n b (x.ev tm) (y.ev tm)
def sCopy (n : Nat) (x y : CX) (tm : Tm) (h : Heap) : Option (AV × Heap) :=
  match lenOfA (x.ev tm), lenOfA (y.ev tm) with
    | some a, some b =>
      let cnt := min b a
      match srcCells h n cnt (y.ev tm) with
      | some cs => match x.ev tm with
        | .nils => some (goI cnt, h)
        | .slice r v o _ _ e => if Nat.beq cnt 0 then some (goI 0, h) else if !Nat.beq n e then none else match stCells h r v o cs with
          | some h => some (goI cnt, h)
          | none => none
        | _ => none
      | none => none
    | _, _ => none
def sDelete (kn : EK) (m k : CX) (tm : Tm) (h : Heap) : Option (AV × Heap) :=
  match m.ev tm with
    | .nilm => if keyOk kn (k.ev tm) then some (.undef, h) else none
    | .map _ => match mapOf h (m.ev tm) with
      | some (r, es, clock) => match findKey kn (k.ev tm) es 0 with
        | some (some (i, _)) => some (.undef, h.put r (.map (delAt es i) clock))
        | some none => some (.undef, h.put r (.map es clock))
        | none => none
      | none => none
    | _ => none
def sClearm (x : CX) (tm : Tm) (h : Heap) : Option (AV × Heap) :=
  match x.ev tm with
    | .nilm => some (.undef, h)
    | .map _ => match mapOf h (x.ev tm) with
      | some (r, _, clock) => some (.undef, h.put r (.map [] clock))
      | none => none
    | _ => none
def sClears (n : Nat) (zero : List AV) (x : CX) (tm : Tm) (h : Heap) : Option (AV × Heap) :=
  match x.ev tm with
    | .nils => some (.undef, h)
    | .slice r v o len _ e => if Nat.beq len 0 then some (.undef, h) else if !Nat.beq n e then none else match stCells h r v o ((List.replicate len zero).flatten) with
      | some h => if Nat.beq zero.length n then some (.undef, h) else none
      | none => none
    | _ => none
def sMx (args : List CX) (tm : Tm) (h : Heap) : Option (AV × Heap) :=
  match aMax (args.map (·.ev tm)) with
    | some a => some (a, h)
    | none => none
def sMn (args : List CX) (tm : Tm) (h : Heap) : Option (AV × Heap) :=
  match aMin (args.map (·.ev tm)) with
    | some a => some (a, h)
    | none => none
def sCap (x : CX) (tm : Tm) (h : Heap) : Option (AV × Heap) :=
  match x.ev tm with
    | .nils => some (goI 0, h)
    | .slice _ _ _ _ capk _ => if Nat.beq capk 0 then none else some (goI (capk - 1), h)
    | _ => none
def sXcall (k : XK) (args : List CX) (tm : Tm) (h : Heap) : Option (AV × Heap) :=
  match k, args with
  | (.add k), [a, d] => match a.ev tm, d.ev tm with
    | .ptr r v o, .int _ y => match ldCells h r v o 1 with
      | some [.int k' x] => if decide (k = k') then
          let n := AV.int k (k.wrap (x + y))
          match stCells h r v o [n] with
          | some h => some (n, h)
          | none => none
        else none
      | _ => none
    | _, _ => none
  | .indexByte, [s, c] => match s.ev tm, c.ev tm with
    | .str s, .int .u8 (.ofNat c) => if Nat.blt c 256 then match idxByte c s 0 with
      | some i => some (goI i, h)
      | none => some (.int .i64 (-1), h)
      else none
    | _, _ => none
  | .cmp, [x, y] => match x.ev tm, y.ev tm with
    | .str a, .str b => some (.int .i64 (cmpStr a b), h)
    | _, _ => none
  | .count, [s, c] => match s.ev tm, c.ev tm with
    | .str s, .int .u8 (.ofNat c) => if Nat.blt c 256 then some (goI (cntByte c s), h) else none
    | _, _ => none
  | _, _ => none
def stepOp (tm : Tm) (h : Heap) : COp → Option (AV × Heap)
  | .xcall k args => sXcall k args tm h
  | .move x => sMove x tm h
  | .pick c a b => sPick c a b tm h
  | .alloc zero => sAlloc zero tm h
  | .box n x => sBox n x tm h
  | .build zero parts => sBuild zero parts tm h
  | .bslice n zero len parts => sBslice n zero len parts tm h
  | .load agg n x => sLoad agg n x tm h
  | .store n x v => sStore n x v tm h
  | .nilchk x => sNilchk x tm h
  | .bin op ek cst x y => sBin op ek cst x y tm h
  | .un op x => sUn op x tm h
  | .i2i k x => sI2i k x tm h
  | .s2b x => sS2b x tm h
  | .b2s x => sB2s x tm h
  | .same x => sSame x tm h
  | .mkif t x => sMkif t x tm h
  | .mkfn f first caps => sMkfn f first caps tm h
  | .mkmap => sMkmap  tm h
  | .mkslice bytes zero len cap => sMkslice bytes zero len cap tm h
  | .slstr x lo hi => sSlstr x lo hi tm h
  | .slsl n x lo hi mx => sSlsl n x lo hi mx tm h
  | .slarr len n x lo hi mx => sSlarr len n x lo hi mx tm h
  | .fld off x => sFld off x tm h
  | .fldv agg off n x => sFldv agg off n x tm h
  | .idxa len n x i => sIdxa len n x i tm h
  | .idxs n x i => sIdxs n x i tm h
  | .ixv agg len n x i => sIxv agg len n x i tm h
  | .ixs x i => sIxs x i tm h
  | .lookup kn zero ok x i => sLookup kn zero ok x i tm h
  | .mapupd kn m k v => sMapupd kn m k v tm h
  | .mapent kn zero m k => sMapent kn zero m k tm h
  | .entst m s v => sEntst m s v tm h
  | .rngm x => sRngm x tm h
  | .rngs x => sRngs x tm h
  | .next false x => sNext x tm h
  | .next true _ => none
  | .entry x => sEntry x tm h
  | .ext x i => sExt x i tm h
  | .len k x => sLen k x tm h
  | .append n b x y => sAppend n b x y tm h
  | .copy n x y => sCopy n x y tm h
  | .delete kn m k => sDelete kn m k tm h
  | .clearm x => sClearm x tm h
  | .clears n zero x => sClears n zero x tm h
  | .mx args => sMx args tm h
  | .mn args => sMn args tm h
  | .cap x => sCap x tm h
  | .call .. | .callv .. | .defer _ | .bad => none
inductive XR where
  | normal | exit (id : Nat) | ret
  deriving Inhabited
structure St where
  tm : Tm
  h : Heap
  df : List AV
def setDst (tm : Tm) (d : Option Nat) (v : AV) : Tm :=
  match d with
  | some d => tm.set (d + 1) d v
  | none => tm
def argTm : List AV → Nat → Tm → Tm
  | [], _, t => t
  | a :: as, i, t => argTm as (i + 1) (t.set (i + 1) i a)
def resOf (h : Heap) (tm : Tm) : List CR → Option (List AV)
  | [] => some []
  | .tmp t :: rs => match resOf h tm rs with
    | some l => some ((CX.t t).ev tm :: l)
    | none => none
  | .cell a agg n :: rs => match (CX.t a).ev tm with
    | .ptr r v o => match ldVar h agg n r v o, resOf h tm rs with
      | some x, some l => some (x :: l)
      | _, _ => none
    | _ => none
def resVal : List AV → AV
  | [a] => a
  | l => .tup l
structure Env where
  fns : Nat → Option CF
  orc : Nat → List AV → Heap → Option (AV × Heap)
def wanted (tm : Tm) : Option (Nat × Bool) → Bool
  | none => true
  | some (j, want) => match tm.get j with
    | some (.bool b) => b == want
    | _ => false
def recheck (tm : Tm) (h : Heap) : List Chk → Bool
  | [] => true
  | .ne x y :: cs => (match x.ev tm, y.ev tm with
      | .ptr r _ _, .ptr r' _ _ => !Nat.beq r r'
      | _, _ => false) && recheck tm h cs
  | .re c :: cs => (if wanted tm c.guard then match stepOp tm h c.op, c.dst with
      | some (v, _), some d => AV.beq v ((CX.t d).ev tm)
      | _, _ => false
    else true) && recheck tm h cs
abbrev CallF := Nat → List AV → Heap → Option (AV × Heap)
def execOp1 (call : CallF) (o : COp) (s : St) : Option (AV × St) :=
  match o with
    | .call f args => match call f (args.map (·.ev s.tm)) s.h with
      | some (v, h) => some (v, { s with h := h })
      | none => none
    | .callv x args => match x.ev s.tm with
      | .func f first caps => match call f (first ++ args.map (·.ev s.tm) ++ caps) s.h with
        | some (v, h) => some (v, { s with h := h })
        | none => none
      | _ => none
    | .defer x => match x.ev s.tm with
      | .func f first caps => some (.undef, { s with df := .func f first caps :: s.df })
      | _ => none
    | o => match stepOp s.tm s.h o with
      | some (v, h) => some (v, { s with h := h })
      | none => none
def execOps (call : CallF) : List CI → St → Option St
  | [], s => some s
  | c :: cs, s =>
    if wanted s.tm c.guard then match execOp1 call c.op s with
      | some (v, s) => execOps call cs { s with tm := setDst s.tm c.dst v }
      | none => none
    else execOps call cs { s with tm := setDst s.tm c.dst .undef }
def execD (call : CallF) : List (CI × List Chk) → St → Option St
  | [], s => some s
  | (c, chk) :: cs, s =>
    if wanted s.tm c.guard then match execOp1 call c.op s with
      | some (v, s) =>
        let s := { s with tm := setDst s.tm c.dst v }
        if recheck s.tm s.h chk then execD call cs s else none
      | none => none
    else execD call cs { s with tm := setDst s.tm c.dst .undef }
def loopN (body : St → Option (XR × St)) : Nat → St → Option (XR × St)
  | 0, _ => none
  | n + 1, s => match body s with
    | some (.normal, s) => loopN body n s
    | r => r
def exec (call : CallF) (lf : Nat) : CC → St → Option (XR × St)
  | .skip, s => some (.normal, s)
  | .reg ops, s => match execOps call ops s with
    | some s => some (.normal, s)
    | none => none
  | .dreg ops, s => match execD call ops s with
    | some s => some (.normal, s)
    | none => none
  | .seq a b, s => match exec call lf a s with
    | some (.normal, s) => exec call lf b s
    | r => r
  | .cond c a b, s => match c.ev s.tm with
    | .bool true => exec call lf a s
    | .bool false => exec call lf b s
    | _ => none
  | .block id b, s => match exec call lf b s with
    | some (.exit i, s) => if Nat.beq i id then some (.normal, s) else some (.exit i, s)
    | r => r
  | .loop b, s => loopN (exec call lf b) lf s
  | .exit id, s => some (.exit id, s)
  | .scope b, s => exec call lf b s
  | .ret, s => some (.ret, s)
def execDf (fns : Nat → Option CF) (call : CallF) (lf : Nat) : List AV → Heap → Option Heap
  | [], h => some h
  | .func f first caps :: ds, h => match fns f with
    | none => none
    | some F => match exec call lf F.body { tm := argTm (first ++ caps) 0 .leaf, h := h, df := [] } with
      | some (.exit _, _) => none
      | some (_, s) => match s.df with
        | [] => match resOf s.h s.tm F.res with
          | some _ => execDf fns call lf ds s.h
          | none => none
        | _ :: _ => none
      | none => none
  | _ :: _, _ => none
def callN (E : Env) (lf : Nat) : Nat → CallF
  | 0, _, _, _ => none
  | d + 1, f, args, h => match E.orc f args h with
    | some r => some r
    | none => match E.fns f with
      | none => none
      | some F => match exec (callN E lf d) lf F.body { tm := argTm args 0 .leaf, h := h, df := [] } with
        | some (.exit _, _) => none
        | some (_, s) => match execDf E.fns (callN E lf d) lf s.df s.h with
          | some h => match resOf h s.tm F.res with
            | some l => some (resVal l, h)
            | none => none
          | none => none
        | none => none
end Go.Ex
namespace Go.Ex
open Go
mutual
def cvVal : Nat → Value → Option AV
  | 0, _ => none
  | f + 1, v => match v with
    | .bool b => some (.bool b)
    | .int k n => some (.int k n)
    | .string s => some (.str (s.data.toList.map (·.toNat)))
    | .pointer none => some .nilp
    | .slice none 0 0 => some .nils
    | .map none => some .nilm
    | .nilFunc => some .nilf
    | .nilIface => some .nili
    | .agg vs => match cvVals f vs.toList with
      | some l => some (.agg l)
      | none => none
    | .tuple vs => match cvVals f vs.toList with
      | some l => some (.tup l)
      | none => none
    | _ => none
def cvVals : Nat → List Value → Option (List AV)
  | 0, _ => none
  | _ + 1, [] => some []
  | f + 1, v :: vs => match cvVal f v, cvVals f vs with
    | some a, some l => some (a :: l)
    | _, _ => none
end
def cvX : Operand → Option CX
  | .tmp t => some (.t t)
  | .const v => match cvVal 100 v with
    | some a => some (.c a)
    | none => none
  | .global _ => none
  | .func f => some (.f f)
def cvXs (l : List Operand) : Option (List CX) := l.mapM cvX
def cvO : Option Operand → Option (Option CX)
  | none => some none
  | some x => (cvX x).map some
def baseT (P : Program) (t : TypeId) : Option BK := match P.underlying t with
  | some .bool => some .b
  | some (.int _) => some .i
  | some .string => some .s
  | _ => none
def fieldsT (P : Program) : List Field → Nat → Option (List BK)
  | [], _ => some []
  | f :: fs, i => if f.name != "_" && f.offset == i then match baseT P f.type, fieldsT P fs (i + 1) with
      | some k, some ks => some (k :: ks)
      | _, _ => none
    else none
def shapeT (P : Program) (t : TypeId) : Option EK :=
  match baseT P t with
  | some k => some (.base k)
  | none => match P.underlying t with
    | some (.struct fs) => if !P.stoodInHeld t then (fieldsT P fs.toList 0).map .cells else none
    | some (.array n e) => match baseT P e with
      | some k => if P.cellsOf e == 1 then some (.cells (List.replicate n k)) else none
      | none => none
    | _ => none
def ekOf (P : Program) (t : TypeId) : EK :=
  match shapeT P t with
  | some n => n
  | none => match P.underlying t with
    | some (.pointer e) => if P.cellsOf e = 0 then .no else .ptr
    | some (.slice _) => .slice
    | some (.map _ _) => .map
    | some (.func ..) => .func
    | some (.interface _) => .iface
    | _ => .no
def isAggT (P : Program) (t : TypeId) : Bool := match P.underlying t with
  | some (.struct _) | some (.array _ _) => true
  | _ => false
def zeroA (P : Program) (t : TypeId) : Option AV := do
  let i ← P.info? t
  let z ← i.zero
  cvVal 5000 z
def cvParts (P : Program) (places : Nat → Option (Nat × Nat)) (ps : List (Nat × Operand)) : Option (List (Nat × Nat × CX)) :=
  ps.mapM fun (i, x) => do
    let (off, n) ← places i
    pure (off, n, ← cvX x)
def xkOf (name : String) : Option XK :=
  if name == "sync/atomic.AddInt64" then some (.add .i64)
  else if name == "sync/atomic.AddUint64" then some (.add .u64)
  else if name == "internal/bytealg.IndexByteString" then some .indexByte
  else if name == "internal/bytealg.abigen_runtime_cmpstring" then some .cmp
  else if name == "internal/bytealg.CountString" then some .count
  else none
def utA (P : Program) (ats : Array TypeId) (i : Nat) : Option TypeDesc := match ats[i]? with
  | some t => P.underlying t
  | none => none
def cvAppend (P : Program) (e : TypeId) (x y : CX) : Option COp :=
  match zeroA P e with
  | some z => if P.bytesOf e = 0 then none else if z.cells.length ≠ P.cellsOf e then none else some (.append (P.cellsOf e) (P.bytesOf e) x y)
  | none => none
def cvBuiltin (P : Program) (b : Builtin) (ats : Array TypeId) (args : List CX) : Option COp :=
  match b, args with
  | .len, [x] => match utA P ats 0 with
    | some .string => some (.len .str x)
    | some (.array n _) => some (.len (.const n) x)
    | some (.slice _) => some (.len .slice x)
    | some (.map _ _) => some (.len .map x)
    | some (.pointer a) => match P.underlying a with
      | some (.array n _) => some (.len (.const n) x)
      | _ => none
    | _ => none
  | .append, [x, y] => match utA P ats 0, utA P ats 1 with
    | some (.slice e), some (.slice _) => cvAppend P e x y
    | some (.slice e), some .string => cvAppend P e x y
    | _, _ => none
  | .copy, [x, y] => match utA P ats 0 with
    | some (.slice e) => if (P.info? e).isNone then none else some (.copy (P.cellsOf e) x y)
    | _ => none
  | .delete, [m, k] => match utA P ats 0 with
    | some (.map kt _) => match shapeT P kt with
      | some s => some (.delete s m k)
      | none => none
    | _ => none
  | .clear, [x] => match utA P ats 0 with
    | some (.map _ _) => some (.clearm x)
    | some (.slice e) => match zeroA P e with
      | some z => some (.clears (P.cellsOf e) z.cells x)
      | none => none
    | _ => none
  | .max, l => some (.mx l)
  | .min, l => some (.mn l)
  | .cap, [x] => match utA P ats 0 with
    | some (.slice _) => some (.cap x)
    | _ => none
  | _, _ => none
def constX : Operand → Bool
  | .const _ => true
  | _ => false
def cvOp (P : Program) (o : Oper) : Option COp :=
  match o.op with
  | .move x | .assign x => return .move (← cvX x)
  | .pick c a b => return .pick (← cvX c) (← cvX a) (← cvX b)
  | .alloc e => return .alloc (← zeroA P e).cells
  | .box e x => return .box (P.cellsOf e) (← cvX x)
  | .build t parts => do
    let z ← zeroA P t
    match P.underlying t with
    | some (.struct fields) =>
      if !(fields.toList.all fun f => (P.info? f.type).isSome) then none
      let ps ← cvParts P (fun i => (fields[i]?).map fun f => (f.offset, P.cellsOf f.type)) parts.toList
      pure (.build z.cells ps)
    | some (.array _ e) =>
      if (P.info? e).isNone then none
      let n := P.cellsOf e
      let ps ← cvParts P (fun i => some (i * n, n)) parts.toList
      pure (.build z.cells ps)
    | _ => none
  | .buildSlice t len parts => do
    let some (.slice e) := P.underlying t | none
    let n := P.cellsOf e
    if len * n > 100000 then none
    let z ← zeroA P e
    if z.cells.length ≠ n then none
    let ps ← cvParts P (fun i => some (i * n, n)) parts.toList
    pure (.bslice n ((List.replicate len z.cells).flatten) len ps)
  | .load t x => if (P.underlying t).isNone then none else return .load (isAggT P t) (if isAggT P t then P.cellsOf t else 1) (← cvX x)
  | .store t x v => if (P.underlying t).isNone then none else return .store (P.cellsOf t) (← cvX x) (← cvX v)
  | .nilCheck x => return .nilchk (← cvX x)
  | .binOp op t x y _ => return .bin op (ekOf P t) (constX x || constX y) (← cvX x) (← cvX y)
  | .unOp op _ x => return .un op (← cvX x)
  | .convert s d x => do
    match P.underlying s, P.underlying d with
    | some (.int _), some (.int k) => return .i2i k (← cvX x)
    | some .string, some .string => return .same (← cvX x)
    | some .string, some (.slice e) => match P.underlying e with
      | some (.int .u8) => return .s2b (← cvX x)
      | _ => none
    | some (.slice e), some .string => match P.underlying e with
      | some (.int .u8) => return .b2s (← cvX x)
      | _ => none
    | _, _ => none
  | .makeInterface t x => match P.underlying t with
    | some (.interface _) => none
    | some _ => return .mkif t (← cvX x)
    | none => none
  | .makeFunc (.func f) first caps => return .mkfn f (← cvXs first.toList) (← cvXs caps.toList)
  | .makeMap _ none => return .mkmap
  | .makeSlice t l c => do
    let some (.slice e) := P.underlying t | none
    let z ← zeroA P e
    if z.cells.length ≠ P.cellsOf e then none
    pure (.mkslice (P.bytesOf e) z.cells (← cvX l) (← cvX c))
  | .slice t x lo hi mx => do
    if mx.isSome && hi.isNone then none
    match P.underlying t with
    | some .string => if mx.isSome then none else return .slstr (← cvX x) (← cvO lo) (← cvO hi)
    | some (.slice e) => if (P.info? e).isNone then none else return .slsl (P.cellsOf e) (← cvX x) (← cvO lo) (← cvO hi) (← cvO mx)
    | some (.array n e) => if (P.info? e).isNone then none else return .slarr n (P.cellsOf e) (← cvX x) (← cvO lo) (← cvO hi) (← cvO mx)
    | _ => none
  | .fieldAddr s x f => do
    let some (.struct fields) := P.underlying s | none
    let fl ← fields[f]?
    if P.cellsOf fl.type = 0 then none else return .fld fl.offset (← cvX x)
  | .field s x f => do
    let some (.struct fields) := P.underlying s | none
    let fl ← fields[f]?
    if (P.underlying fl.type).isNone then none else return .fldv (isAggT P fl.type) fl.offset (P.cellsOf fl.type) (← cvX x)
  | .indexAddr t x i => do
    match P.underlying t with
    | some (.array n e) => if (P.info? e).isNone then none else return .idxa n (P.cellsOf e) (← cvX x) (← cvX i)
    | some (.slice e) => if (P.info? e).isNone then none else return .idxs (P.cellsOf e) (← cvX x) (← cvX i)
    | _ => none
  | .index t x i => do
    match P.underlying t with
    | some (.array n e) => if (P.underlying e).isNone then none else return .ixv (isAggT P e) n (P.cellsOf e) (← cvX x) (← cvX i)
    | some .string => return .ixs (← cvX x) (← cvX i)
    | _ => none
  | .lookup t x i ok => do
    let some (.map k e) := P.underlying t | none
    return .lookup (← shapeT P k) (← zeroA P e) ok (← cvX x) (← cvX i)
  | .mapUpdate t m k v | .insert t m k v => do
    let some (.map kt _) := P.underlying t | none
    return .mapupd (← shapeT P kt) (← cvX m) (← cvX k) (← cvX v)
  | .mapEntry t m k => do
    let some (.map kt e) := P.underlying t | none
    return .mapent (← shapeT P kt) (← zeroA P e) (← cvX m) (← cvX k)
  | .entryStore _ m s v => return .entst (← cvX m) (← cvX s) (← cvX v)
  | .range t x => do
    match P.underlying t with
    | some (.map _ _) => return .rngm (← cvX x)
    | _ => none
  | .next x s => return .next s (← cvX x)
  | .entry x => return .entry (← cvX x)
  | .extract x i => return .ext (← cvX x) i
  | .call c => match c.callee with
    | .value (.func f) => match P.funcs[f]?, cvXs c.args.toList with
      | some fn, some args =>
        if fn.name = "runtime.NumGoroutine" then none else
        if fn.body.isSome then some (.call f args) else
        if fn.origin ≠ "" then none else
        match xkOf fn.name with
        | some k => some (.xcall k args)
        | none => none
      | _, _ => none
    | .value x => return .callv (← cvX x) (← cvXs c.args.toList)
    | .invoke _ _ => none
    | .builtin b => match cvXs c.args.toList with
      | some args => cvBuiltin P b c.argTypes args
      | none => none
  | .defer c => match c.callee with
    | .value x => if c.args.isEmpty then return .defer (← cvX x) else none
    | _ => none
  | _ => none
def cvCI (P : Program) (ops : Array Oper) (o : Oper) : Option CI := do
  let g ← match o.guard with
    | none => some none
    | some (j, b) => do
      let d ← (← ops[j]?).dst
      some (some (d, b))
  pure { dst := o.dst, guard := g, op := (cvOp P o).getD .bad }
def oReads : Option CX → List CX
  | none => []
  | some x => [x]
def COp.reads : COp → List CX
  | .move x => [x]
  | .pick c a b => [c, a, b]
  | .alloc _ => []
  | .box _ x => [x]
  | .build _ ps => ps.map (·.2.2)
  | .bslice _ _ _ ps => ps.map (·.2.2)
  | .load _ _ x => [x]
  | .store _ x v => [x, v]
  | .nilchk x => [x]
  | .bin _ _ _ x y => [x, y]
  | .un _ x => [x]
  | .i2i _ x => [x]
  | .s2b x => [x]
  | .b2s x => [x]
  | .same x => [x]
  | .mkif _ x => [x]
  | .mkfn _ a b => a ++ b
  | .mkmap => []
  | .mkslice _ _ l c => [l, c]
  | .slstr x lo hi => x :: (oReads lo ++ oReads hi)
  | .slsl _ x lo hi top => x :: (oReads lo ++ oReads hi ++ oReads top)
  | .slarr _ _ x lo hi top => x :: (oReads lo ++ oReads hi ++ oReads top)
  | .fld _ x => [x]
  | .fldv _ _ _ x => [x]
  | .idxa _ _ x i => [x, i]
  | .idxs _ x i => [x, i]
  | .ixv _ _ _ x i => [x, i]
  | .ixs x i => [x, i]
  | .lookup _ _ _ x i => [x, i]
  | .mapupd _ m k v => [m, k, v]
  | .mapent _ _ m k => [m, k]
  | .entst m s v => [m, s, v]
  | .rngm x => [x]
  | .rngs x => [x]
  | .next _ x => [x]
  | .entry x => [x]
  | .ext x _ => [x]
  | .call _ as => as
  | .callv x as => x :: as
  | .xcall _ as => as
  | .len _ x => [x]
  | .append _ _ x y => [x, y]
  | .copy _ x y => [x, y]
  | .delete _ m k => [m, k]
  | .clearm x => [x]
  | .clears _ _ x => [x]
  | .mx as => as
  | .mn as => as
  | .cap x => [x]
  | .defer x => [x]
  | .bad => []
def COp.still : COp → Bool
  | .move _ | .pick .. | .build .. | .load .. | .nilchk _ | .bin .. | .un .. | .i2i .. | .b2s _ | .same _ | .mkif .. | .mkfn .. | .slstr .. | .slsl .. | .slarr .. | .fld .. | .fldv ..
  | .idxa .. | .idxs .. | .ixv .. | .ixs .. | .lookup .. | .entry _ | .ext .. | .len .. | .mx _ | .mn _ | .cap _ => true
  | _ => false
def COp.blind : COp → Bool
  | .move _ | .pick .. | .build .. | .nilchk _ | .bin .. | .un .. | .i2i .. | .same _ | .mkif .. | .mkfn .. | .slstr .. | .slsl .. | .fld .. | .fldv ..
  | .idxa .. | .idxs .. | .ixv .. | .ixs .. | .ext .. | .mx _ | .mn _ | .cap _ => true
  | .len k _ => match k with
    | .map => false
    | _ => true
  | _ => false
def COp.pend : COp → Bool
  | .alloc _ => true
  | .bslice .. => true
  | _ => false
def COp.fl : COp → Bool
  | .fld _ (.t _) => true
  | _ => false
structure Reg where
  ops : Array Oper
  cis : List CI
  bf : Array Nat
  pos : Nat → Nat
  opAt : Nat → Nat
def Reg.n (R : Reg) : Nat := R.ops.size
def Reg.ci (R : Reg) (i : Nat) : CI := R.cis.getD i default
def Reg.bit (R : Reg) (i j : Nat) : Bool := (R.bf.getD i 0).testBit j
def Reg.aft (R : Reg) (i : Nat) : List Edge := match R.ops[i]? with
  | some o => o.after.toList
  | none => []
def Reg.opReads (R : Reg) (i d : Nat) : Bool := match R.ops[i]? with
  | some o => o.op.operands.toList.any fun x => match x with
    | .tmp u => Nat.beq u d
    | _ => false
  | none => false
def CI.opr (c : CI) (d : Nat) : Bool := c.op.reads.any fun x => match x with
    | .t u => Nat.beq u d
    | _ => false
def CI.gr (c : CI) (d : Nat) : Bool := match c.guard with
    | some (u, _) => Nat.beq u d
    | none => false
def COp.strict (c : COp) : Bool := c.fl || c.pend || (c.still && !c.blind)
def COp.isStore : COp → Bool
  | .store .. => true
  | _ => false
def COp.addr : COp → CX
  | .store _ x _ => x
  | _ => .f 0
def Reg.re (R : Reg) (i : Nat) : List Nat := (List.range R.n).filter fun j => (R.ci j).op.still && !(R.ci j).op.blind && Nat.blt (R.pos j) (R.pos i) && !R.bit i j
def Reg.swap (R : Reg) (i j : Nat) : Bool :=
  (R.ci i).op.isStore && (R.ci j).op.isStore && Nat.beq (R.pos i) (R.pos j + 1) && !R.bit i j && (R.ci i).dst.isNone && (R.ci j).dst.isNone && (R.ci i).guard.isNone && (R.ci j).guard.isNone &&
  (R.re i).isEmpty && (R.re j).isEmpty
def Reg.chk (R : Reg) (i : Nat) : List Chk :=
  if (R.ci i).op.still then [] else (R.re i).map (fun j => .re (R.ci j)) ++ ((List.range R.n).filter fun j => R.swap i j).map fun j => .ne (R.ci j).op.addr (R.ci i).op.addr
def Reg.pairOK (R : Reg) (i j : Nat) : Bool :=
  (!R.bit i j || (R.aft i).any fun e => Region.binds .any e && (Nat.beq e.on j || R.bit e.on j)) &&
  (Nat.beq i j || match (R.ci i).dst, (R.ci j).dst with
    | some a, some b => !Nat.beq a b
    | _, _ => true) &&
  (R.bit i j || match (R.ci j).dst with
    | none => true
    | some d => !(R.ci i).gr d && ((!R.opReads i d && !(R.ci i).opr d) || (R.bit j i && !(R.ci i).op.strict))) &&
  ((R.ci i).op.pend || (R.ci i).op.fl || (R.ci j).op.still || !Nat.blt (R.pos j) (R.pos i) || R.bit i j || (R.swap i j && (List.range R.n).all fun k => !R.swap k i && !R.swap j k)) &&
  (!R.bit i j || (Nat.beq (R.bf.getD i 0 ||| R.bf.getD j 0) (R.bf.getD i 0) && (!(R.ci i).op.pend || !(R.ci j).op.pend ||
    (List.range R.n).any fun k => !(R.ci k).op.still && !(R.ci k).op.pend && R.bit i k && R.bit k j)))
def Reg.oneOK (R : Reg) (i : Nat) : Bool :=
  Nat.blt (R.pos i) R.n && Nat.beq (R.opAt (R.pos i)) i && Nat.blt (R.opAt i) R.n && Nat.beq (R.pos (R.opAt i)) i &&
  ((R.aft i).all fun e => !Region.binds .any e || (Nat.blt e.on R.n && Nat.blt (R.pos e.on) (R.pos i) && R.bit i e.on))
def Reg.ok (R : Reg) : Bool :=
  Nat.beq R.cis.length R.n && (List.range R.n).all fun i => R.oneOK i && (List.range R.n).all fun j => R.pairOK i j
def ordOf (cis : List CI) (bf : Array Nat) : Nat → List Nat → List Nat → List Nat
  | 0, _, acc => acc.reverse
  | n + 1, left, acc =>
    let op (i : Nat) := (cis.getD i default).op
    let ready := left.filter fun i => left.all fun j => !(bf.getD i 0).testBit j
    let heavy (i : Nat) := !(op i).still && !(op i).pend
    let nextW := left.find? heavy
    match ready.find? (fun i => (op i).still) with
    | some i => ordOf cis bf n (left.filter (· != i)) (i :: acc)
    | none => match ready.find? heavy with
      | some i => ordOf cis bf n (left.filter (· != i)) (i :: acc)
      | none =>
        match ready.find? (fun i => (op i).pend && (match nextW with | some w => (bf.getD w 0).testBit i | none => true)) with
        | some i => ordOf cis bf n (left.filter (· != i)) (i :: acc)
        | none => match ready with
          | i :: _ => ordOf cis bf n (left.filter (· != i)) (i :: acc)
          | [] => acc.reverse
def cvDreg (P : Program) (ops : Array Oper) : Option (List (CI × List Chk)) :=
  match ops.toList.mapM (cvCI P ops) with
  | none => none
  | some cis =>
    let bf := Region.before ops
    let ord := ordOf cis bf ops.size (List.range ops.size) []
    let R : Reg := { ops, cis, bf, pos := fun i => ord.idxOf i, opAt := fun q => ord.getD q ops.size }
    if R.ok then some ((List.range R.n).map fun q => (R.ci (R.opAt q), R.chk (R.opAt q))) else none
def cvC (P : Program) : Code → Option CC
  | .skip => some .skip
  | .region _ ops false => do
    let l ← ops.toList.mapM (cvCI P ops)
    pure (.reg l)
  | .region _ ops true => do pure (.dreg (← cvDreg P ops))
  | .seq a b => do pure (.seq (← cvC P a) (← cvC P b))
  | .cond c a b => do pure (.cond (← cvX c) (← cvC P a) (← cvC P b))
  | .block id b => do pure (.block id (← cvC P b))
  | .loop b => do pure (.loop (← cvC P b))
  | .exit id => some (.exit id)
  | .scope b => do pure (.scope (← cvC P b))
  | .ret => some .ret
  | _ => none
def okDst (n : Nat) : Option Nat → Bool
  | none => true
  | some d => Nat.blt d n
def okC (n : Nat) : CC → Bool
  | .skip | .exit _ | .ret => true
  | .reg ops => ops.all fun c => okDst n c.dst
  | .dreg ops => ops.all fun c => okDst n c.1.dst
  | .seq a b => okC n a && okC n b
  | .cond _ a b => okC n a && okC n b
  | .block _ b => okC n b
  | .loop b => okC n b
  | .scope _ => false
def cvRes (P : Program) : List ResultVar → Option (List CR)
  | [] => some []
  | .tmp t :: rs => match cvRes P rs with
    | some l => some (.tmp t :: l)
    | none => none
  | .cell a t :: rs => if (P.underlying t).isNone then none else match cvRes P rs with
    | some l => some (.cell a (isAggT P t) (if isAggT P t then P.cellsOf t else 1) :: l)
    | none => none
def cvF (P : Program) (fn : Func) : Option CF :=
  match fn.body with
  | none => none
  | some b => match cvC P b with
    | none => none
    | some body => if okC fn.ntmps body && !(fn.name == "runtime.NumGoroutine") then match cvRes P fn.results.toList with
      | some res => some { body, res }
      | none => none
      else none
end Go.Ex
namespace Go.Ex
open Go
theorem beq0 {k : Nat} (h : ¬ k = 0) : Nat.beq k 0 = false := by
  cases k with
  | zero => exact absurd rfl h
  | succ n => rfl
theorem half_odd {k : Nat} : (k + 1) % 2 = 1 ↔ k % 2 = 0 := by omega
theorem beq_mod {k : Nat} : Nat.beq (Nat.mod k 2) 0 = decide (k % 2 = 0) := by
  show Nat.beq (k % 2) 0 = _
  by_cases h : k % 2 = 0
  · rw [h]; rfl
  · have : k % 2 = 1 := by omega
    rw [this]; rfl
theorem T.get_leaf {α : Type} (k : Nat) : (T.leaf : T α).get k = none := rfl
theorem T.get_node {α : Type} (v : Option α) (l r : T α) (k : Nat) :
    (T.node v l r).get k = if k = 0 then v else if k % 2 = 1 then l.get (k / 2) else r.get (k / 2 - 1) := by
  cases k with
  | zero => rfl
  | succ k =>
    show (Bool.rec (motive := fun _ => Option α) (r.get (k / 2)) (l.get (k / 2)) (Nat.beq (Nat.mod k 2) 0) : Option α) = _
    rw [beq_mod, if_neg (by omega)]
    by_cases h : k % 2 = 0
    · rw [if_pos (half_odd.2 h), show (k + 1) / 2 = k / 2 by omega]; simp [h]
    · rw [if_neg (fun e => h (half_odd.1 e)), show (k + 1) / 2 - 1 = k / 2 by omega]; simp [h]
theorem T.set_leaf {α : Type} (n k : Nat) (a : α) :
    T.set (n + 1) .leaf k a = if k = 0 then .node (some a) .leaf .leaf else if k % 2 = 1 then .node none (T.set n .leaf (k / 2) a) .leaf else .node none .leaf (T.set n .leaf (k / 2 - 1) a) := by
  cases k with
  | zero => rfl
  | succ k =>
    show (Bool.rec (motive := fun _ => T α) (.node none .leaf (T.set n .leaf (k / 2) a)) (.node none (T.set n .leaf (k / 2) a) .leaf) (Nat.beq (Nat.mod k 2) 0) : T α) = _
    rw [beq_mod, if_neg (by omega)]
    by_cases h : k % 2 = 0
    · rw [if_pos (half_odd.2 h), show (k + 1) / 2 = k / 2 by omega]; simp [h]
    · rw [if_neg (fun e => h (half_odd.1 e)), show (k + 1) / 2 - 1 = k / 2 by omega]; simp [h]
theorem T.set_node {α : Type} (n k : Nat) (a : α) (v : Option α) (l r : T α) :
    T.set (n + 1) (.node v l r) k a = if k = 0 then .node (some a) l r else if k % 2 = 1 then .node v (T.set n l (k / 2) a) r else .node v l (T.set n r (k / 2 - 1) a) := by
  cases k with
  | zero => rfl
  | succ k =>
    show (Bool.rec (motive := fun _ => T α) (.node v l (T.set n r (k / 2) a)) (.node v (T.set n l (k / 2) a) r) (Nat.beq (Nat.mod k 2) 0) : T α) = _
    rw [beq_mod, if_neg (by omega)]
    by_cases h : k % 2 = 0
    · rw [if_pos (half_odd.2 h), show (k + 1) / 2 = k / 2 by omega]; simp [h]
    · rw [if_neg (fun e => h (half_odd.1 e)), show (k + 1) / 2 - 1 = k / 2 by omega]; simp [h]
theorem T.get_set {α : Type} (n : Nat) : ∀ (t : T α) (k : Nat) (a : α) (j : Nat), k < n → (T.set n t k a).get j = if j = k then some a else t.get j := by
  induction n with
  | zero => intro t k a j h; omega
  | succ n ih =>
    intro t k a j h
    cases t with
    | leaf =>
      rw [T.set_leaf]
      by_cases hk : k = 0
      · subst hk
        simp only [if_true, T.get_node]
        by_cases hj : j = 0
        · simp [hj]
        · simp [hj, T.get_leaf]
      · by_cases h2 : k % 2 = 1
        · simp only [hk, if_false, h2, if_true, T.get_node, T.get_leaf]
          by_cases hj : j = 0
          · subst hj; simp [Ne.symm hk]
          · by_cases hj2 : j % 2 = 1
            · simp only [hj, if_false, hj2, if_true]
              rw [ih _ _ _ _ (by omega), T.get_leaf]
              by_cases e : j = k
              · simp [e]
              · have : ¬ j / 2 = k / 2 := by omega
                simp [e, this]
            · have : ¬ j = k := by rintro rfl; exact hj2 h2
              simp [hj, hj2, this]
        · simp only [hk, if_false, h2, T.get_node, T.get_leaf]
          by_cases hj : j = 0
          · subst hj; simp [Ne.symm hk]
          · by_cases hj2 : j % 2 = 1
            · have : ¬ j = k := by rintro rfl; exact h2 hj2
              simp [hj, hj2, this]
            · simp only [hj, if_false, hj2]
              rw [ih _ _ _ _ (by omega), T.get_leaf]
              by_cases e : j = k
              · simp [e]
              · have : ¬ j / 2 - 1 = k / 2 - 1 := by omega
                simp [e, this]
    | node v l r =>
      rw [T.set_node]
      by_cases hk : k = 0
      · subst hk
        simp only [if_true, T.get_node]
        by_cases hj : j = 0
        · simp [hj]
        · simp [hj]
      · by_cases h2 : k % 2 = 1
        · simp only [hk, if_false, h2, if_true, T.get_node]
          by_cases hj : j = 0
          · subst hj; simp [Ne.symm hk]
          · by_cases hj2 : j % 2 = 1
            · simp only [hj, if_false, hj2, if_true]
              rw [ih _ _ _ _ (by omega)]
              by_cases e : j = k
              · simp [e]
              · have : ¬ j / 2 = k / 2 := by omega
                simp [e, this]
            · have : ¬ j = k := by rintro rfl; exact hj2 h2
              simp [hj, hj2, this]
        · simp only [hk, if_false, h2, T.get_node]
          by_cases hj : j = 0
          · subst hj; simp [Ne.symm hk]
          · by_cases hj2 : j % 2 = 1
            · have : ¬ j = k := by rintro rfl; exact h2 hj2
              simp [hj, hj2, this]
            · simp only [hj, if_false, hj2]
              rw [ih _ _ _ _ (by omega)]
              by_cases e : j = k
              · simp [e]
              · have : ¬ j / 2 - 1 = k / 2 - 1 := by omega
                simp [e, this]
theorem Heap.get_put (h : Heap) (r : Nat) (o : AObj) (j : Nat) : (h.put r o).get j = if j = r then some o else h.get j := by
  simp only [Heap.put, Heap.get]; exact T.get_set _ _ _ _ _ (by omega)
theorem Heap.put_next (h : Heap) (r : Nat) (o : AObj) : (h.put r o).next = h.next := rfl
theorem Heap.get_new (h : Heap) (o : AObj) (j : Nat) : (h.new o).2.get j = if j = h.next then some o else h.get j := by
  simp only [Heap.new, Heap.get]; exact T.get_set _ _ _ _ _ (by omega)
theorem Heap.new_next (h : Heap) (o : AObj) : (h.new o).2.next = h.next + 1 := rfl
theorem Heap.new_fst (h : Heap) (o : AObj) : (h.new o).1 = h.next := rfl
structure Blk where
  b : Nat
  s : Int
  z : Nat
abbrev Ren := Nat → Nat → Option Blk
def Ren.le (ρ ρ' : Ren) : Prop := ∀ r v B, ρ r v = some B → ρ' r v = some B
theorem Ren.le_refl (ρ : Ren) : ρ.le ρ := fun _ _ _ h => h
theorem Ren.le_trans {a b c : Ren} (h : a.le b) (h' : b.le c) : a.le c := fun _ _ _ x => h' _ _ _ (h _ _ _ x)
mutual
inductive VR (ρ : Ren) : AV → Value → Prop where
  | bool (b : Bool) : VR ρ (.bool b) (.bool b)
  | int (k : IntKind) (n : Int) : VR ρ (.int k n) (.int k n)
  | str (s : ByteArray) : VR ρ (.str (s.data.toList.map (·.toNat))) (.string s)
  | ptr {r v o : Nat} {B : Blk} {c : Nat} (h : ρ r v = some B) (hc : (c : Int) = o + B.s) : VR ρ (.ptr r v o) (.pointer (some ⟨B.b, c, none⟩))
  | nilp : VR ρ .nilp (.pointer none)
  | slice {r v o n cap e : Nat} {B : Blk} {c cc : Nat} (h : ρ r v = some B) (hc : (c : Int) = o + B.s ∨ (n = 0 ∧ cc = 0)) (hn : n ≤ cc)
      (hz : c + cc * e ≤ B.z) (hcap : cap = 0 ∨ cap = cc + 1) : VR ρ (.slice r v o n cap e) (.slice (some ⟨B.b, c, none⟩) n cc)
  | nils : VR ρ .nils (.slice none 0 0)
  | opq (a : Addr) (n cc : Nat) : VR ρ (.opq a n cc) (.slice (some a) n cc)
  | map {r : Nat} {B : Blk} (h : ρ r 0 = some B) : VR ρ (.map r) (.map (some B.b))
  | nilm : VR ρ .nilm (.map none)
  | func {f : Nat} {as bs : List AV} {as' bs' : Array Value} (ha : VRs ρ as as'.toList) (hb : VRs ρ bs bs'.toList) : VR ρ (.func f as bs) (.func (.func f) as' bs')
  | nilf : VR ρ .nilf .nilFunc
  | iface {t : Nat} {a : AV} {v : Value} (h : VR ρ a v) : VR ρ (.iface t a) (.iface t v)
  | nili : VR ρ .nili .nilIface
  | agg {l : List AV} {vs : Array Value} (h : VRs ρ l vs.toList) : VR ρ (.agg l) (.agg vs)
  | tup {l : List AV} {vs : Array Value} (h : VRs ρ l vs.toList) : VR ρ (.tup l) (.tuple vs)
inductive VRs (ρ : Ren) : List AV → List Value → Prop where
  | nil : VRs ρ [] []
  | cons {a : AV} {v : Value} {l : List AV} {vs : List Value} (h : VR ρ a v) (t : VRs ρ l vs) : VRs ρ (a :: l) (v :: vs)
end
mutual
theorem VR.mono {ρ ρ' : Ren} (hl : ρ.le ρ') : ∀ {a : AV} {v : Value}, VR ρ a v → VR ρ' a v
  | _, _, .bool b => .bool b
  | _, _, .int k n => .int k n
  | _, _, .str s => .str s
  | _, _, .ptr h hc => .ptr (hl _ _ _ h) hc
  | _, _, .nilp => .nilp
  | _, _, .slice h hc hn hz hcap => .slice (hl _ _ _ h) hc hn hz hcap
  | _, _, .nils => .nils
  | _, _, .opq a n cc => .opq a n cc
  | _, _, .map h => .map (hl _ _ _ h)
  | _, _, .nilm => .nilm
  | _, _, .func ha hb => .func (VRs.mono hl ha) (VRs.mono hl hb)
  | _, _, .nilf => .nilf
  | _, _, .iface h => .iface (VR.mono hl h)
  | _, _, .nili => .nili
  | _, _, .agg h => .agg (VRs.mono hl h)
  | _, _, .tup h => .tup (VRs.mono hl h)
theorem VRs.mono {ρ ρ' : Ren} (hl : ρ.le ρ') : ∀ {l : List AV} {vs : List Value}, VRs ρ l vs → VRs ρ' l vs
  | _, _, .nil => .nil
  | _, _, .cons h t => .cons (VR.mono hl h) (VRs.mono hl t)
end
theorem VRs.length {ρ : Ren} : ∀ {l : List AV} {vs : List Value}, VRs ρ l vs → l.length = vs.length
  | _, _, .nil => rfl
  | _, _, .cons _ t => by simp [VRs.length t]
theorem VRs.append {ρ : Ren} : ∀ {l : List AV} {vs : List Value} {l' : List AV} {vs' : List Value}, VRs ρ l vs → VRs ρ l' vs' → VRs ρ (l ++ l') (vs ++ vs')
  | _, _, _, _, .nil, h => h
  | _, _, _, _, .cons a t, h => .cons a (VRs.append t h)
theorem VRs.take {ρ : Ren} : ∀ (n : Nat) {l : List AV} {vs : List Value}, VRs ρ l vs → VRs ρ (l.take n) (vs.take n)
  | 0, _, _, _ => by simpa using VRs.nil
  | n + 1, _, _, .nil => by simpa using VRs.nil
  | n + 1, _, _, .cons a t => by simpa using VRs.cons a (VRs.take n t)
theorem VRs.drop {ρ : Ren} : ∀ (n : Nat) {l : List AV} {vs : List Value}, VRs ρ l vs → VRs ρ (l.drop n) (vs.drop n)
  | 0, _, _, h => by simpa using h
  | n + 1, _, _, .nil => by simpa using VRs.nil
  | n + 1, _, _, .cons a t => by simpa using VRs.drop n t
theorem VRs.get {ρ : Ren} : ∀ {l : List AV} {vs : List Value}, VRs ρ l vs → ∀ (i : Nat) (a : AV), l[i]? = some a → ∃ v, vs[i]? = some v ∧ VR ρ a v
  | _, _, .nil, i, a, h => by simp at h
  | _, _, .cons (v := v) h t, 0, a, e => by simp at e; subst e; exact ⟨v, by simp, h⟩
  | _, _, .cons h t, i + 1, a, e => by simpa using VRs.get t i a (by simpa using e)
theorem VRs.of_get {ρ : Ren} : ∀ (l : List AV) (vs : List Value), l.length = vs.length → (∀ (i : Nat) (a : AV) (v : Value), l[i]? = some a → vs[i]? = some v → VR ρ a v) → VRs ρ l vs
  | [], [], _, _ => .nil
  | a :: l, v :: vs, hn, h => .cons (h 0 a v (by simp) (by simp)) (VRs.of_get l vs (by simpa using hn) fun i a v ha hv => h (i + 1) a v (by simpa using ha) (by simpa using hv))
  | [], _ :: _, hn, _ => by simp at hn
  | _ :: _, [], hn, _ => by simp at hn
theorem VR.cells {ρ : Ren} {a : AV} {v : Value} (h : VR ρ a v) : VRs ρ a.cells v.cells.toList := by
  cases h with
  | agg h => exact h
  | ptr h hc => exact .cons (.ptr h hc) .nil
  | slice h hc hn hz hcap => exact .cons (.slice h hc hn hz hcap) .nil
  | map h => exact .cons (.map h) .nil
  | func ha hb => exact .cons (.func ha hb) .nil
  | iface h => exact .cons (.iface h) .nil
  | tup h => exact .cons (.tup h) .nil
  | bool b => exact .cons (.bool b) .nil
  | int k n => exact .cons (.int k n) .nil
  | str s => exact .cons (.str s) .nil
  | nilp => exact .cons .nilp .nil
  | nils => exact .cons .nils .nil
  | opq a n cc => exact .cons (.opq a n cc) .nil
  | nilm => exact .cons .nilm .nil
  | nilf => exact .cons .nilf .nil
  | nili => exact .cons .nili .nil
structure MR (ρ : Ren) (e : ME) (e' : MapEntry) : Prop where
  key : VR ρ e.key e'.key
  val : VR ρ e.val e'.val
  born : e.born = e'.born
inductive MRs (ρ : Ren) : List ME → List MapEntry → Prop where
  | nil : MRs ρ [] []
  | cons {e : ME} {e' : MapEntry} {l : List ME} {l' : List MapEntry} (h : MR ρ e e') (t : MRs ρ l l') : MRs ρ (e :: l) (e' :: l')
theorem MR.mono {ρ ρ' : Ren} (hl : ρ.le ρ') {e : ME} {e' : MapEntry} (h : MR ρ e e') : MR ρ' e e' := ⟨h.key.mono hl, h.val.mono hl, h.born⟩
theorem MRs.mono {ρ ρ' : Ren} (hl : ρ.le ρ') : ∀ {l : List ME} {l' : List MapEntry}, MRs ρ l l' → MRs ρ' l l'
  | _, _, .nil => .nil
  | _, _, .cons h t => .cons (h.mono hl) (MRs.mono hl t)
theorem MRs.length {ρ : Ren} : ∀ {l : List ME} {l' : List MapEntry}, MRs ρ l l' → l.length = l'.length
  | _, _, .nil => rfl
  | _, _, .cons _ t => by simp [MRs.length t]
structure RowR (ρ : Ren) (cs : List Cell) (v : Nat) (B : Blk) (w : World) : Prop where
  intro ::
  ex : ∃ c el fr, w.heap[B.b]? = some (.cells c el fr) ∧ c.size = B.z ∧ (∀ i, i < c.size → ¬ (fr.1 ≤ i ∧ i < fr.2)) ∧
    ∀ (i : Nat) (cell : Cell), cs[i]? = some cell → cell.m ≤ v → ∀ j : Nat, (j : Int) = i + B.s → ∃ x, c[j]? = some x ∧ VR ρ cell.v x
structure RoR (ρ : Ren) (cs : List Cell) (v : Nat) (B : Blk) (ob : Obj) : Prop where
  intro ::
  ex : ∃ c el fr, ob = .cells c el fr ∧
    ∀ (i : Nat) (cell : Cell), cs[i]? = some cell → cell.m ≤ v → ∀ j : Nat, (j : Int) = i + B.s → ∃ x, c[j]? = some x ∧ VR ρ cell.v x
theorem RoR.mono {ρ ρ' : Ren} (hl : ρ.le ρ') {cs : List Cell} {v : Nat} {B : Blk} {ob : Obj} (h : RoR ρ cs v B ob) : RoR ρ' cs v B ob :=
  let ⟨c, el, fr, h1, h3⟩ := h.ex
  ⟨c, el, fr, h1, fun i cell hi hm j hj => let ⟨x, hx, hv⟩ := h3 i cell hi hm j hj; ⟨x, hx, hv.mono hl⟩⟩
def OR (ρ : Ren) (r : Nat) (o : AObj) (w : World) : Prop :=
  match o with
  | .row cs ver => (∀ cell, cell ∈ cs → cell.m ≤ ver) ∧ (∀ v, v ≤ ver → ∃ B, ρ r v = some B) ∧ ∀ v B, ρ r v = some B → v ≤ ver ∧ RowR ρ cs v B w
  | .map es clock => ∃ B es', ρ r 0 = some B ∧ w.heap[B.b]? = some (.map es' clock) ∧ MRs ρ es es'.toList
  | .mapIter m since seen st => ∃ B m', (ρ r 0 = some B ∧ B.s = 0) ∧ w.heap[B.b]? = some (.mapIter m' since seen.toArray st) ∧
      ((m = none ∧ m' = none) ∨ ∃ mr B', m = some mr ∧ ρ mr 0 = some B' ∧ m' = some B'.b)
  | .strIter s pos => ∃ B s', (ρ r 0 = some B ∧ B.s = 0) ∧ w.heap[B.b]? = some (.stringIter s' pos) ∧ s = s'.data.toList.map (·.toNat)
  | .ro cs ob => ∀ v B, ρ r v = some B → w.heap[B.b]? = some ob ∧ RoR ρ cs v B ob
structure WR (ρ : Ren) (H : Heap) (w : World) : Prop where
  obj : ∀ r o, H.get r = some o → OR ρ r o w
  dom : ∀ r v B, ρ r v = some B → r < H.next ∧ B.b < w.heap.size
  inj : ∀ r r' v v' B B', ρ r v = some B → ρ r' v' = some B' → r ≠ r' → B.b ≠ B'.b
  same : ∀ r v v' B B', ρ r v = some B → ρ r v' = some B' → B.b = B'.b → B = B'
  lt : ∀ r o, H.get r = some o → r < H.next
def KindKept (w w' : World) : Prop := ∀ (b : Nat) (c : Array Value) (el : TypeId) (fr : Nat × Nat), w.heap[b]? = some (.cells c el fr) → ∃ c', w'.heap[b]? = some (.cells c' el fr)
theorem KindKept.of_keep {w w' : World} (h : ∀ b, b < w.heap.size → w'.heap[b]? = w.heap[b]?) : KindKept w w' := fun b c el fr e =>
  ⟨c, by rw [h b (Array.getElem?_eq_some_iff.1 e).1]; exact e⟩
theorem KindKept.trans {w w' w'' : World} (h : KindKept w w') (h' : KindKept w' w'') : KindKept w w'' := fun b c el fr e =>
  let ⟨_, h1⟩ := h b c el fr e; h' b _ el fr h1
structure Fr (ρ : Ren) (w w' : World) : Prop where
  size : w.heap.size ≤ w'.heap.size
  keep : ∀ b, b < w.heap.size → (∀ r v B, ρ r v = some B → B.b ≠ b) → w'.heap[b]? = w.heap[b]?
  tape : w'.tape = w.tape
  os : w'.os = w.os
  out : w'.output = w.output
  kind : KindKept w w'
theorem Fr.refl (ρ : Ren) (w : World) : Fr ρ w w := ⟨Nat.le_refl _, fun _ _ _ => rfl, rfl, rfl, rfl, .of_keep fun _ _ => rfl⟩
def Ren.newer (ρ ρ' : Ren) (w : World) : Prop := ∀ r v B, ρ' r v = some B → (∃ v, ρ r v = some B) ∨ w.heap.size ≤ B.b
theorem Ren.newer_refl (ρ : Ren) (w : World) : ρ.newer ρ w := fun _ v _ h => .inl ⟨v, h⟩
theorem Fr.trans {ρ ρ' : Ren} {w w' w'' : World} (h : Fr ρ w w') (hn : ρ.newer ρ' w) (h' : Fr ρ' w' w'') : Fr ρ w w'' :=
  ⟨Nat.le_trans h.size h'.size, fun b hb hx => by
      rw [h'.keep b (Nat.lt_of_lt_of_le hb h.size) (fun r v B hB => ?_), h.keep b hb hx]
      rcases hn r v B hB with ⟨v', h1⟩ | h1
      · exact hx r v' B h1
      · omega,
    h'.tape.trans h.tape, h'.os.trans h.os, h'.out.trans h.out, h.kind.trans h'.kind⟩
theorem Ren.newer_trans {a b c : Ren} {w w' : World} (h : a.newer b w) (hs : w.heap.size ≤ w'.heap.size) (h' : b.newer c w') : a.newer c w := by
  intro r v B hB
  rcases h' r v B hB with ⟨v', h1⟩ | h1
  · exact h r v' B h1
  · exact .inr (by omega)
theorem RowR.heap {ρ : Ren} {cs : List Cell} {v : Nat} {B : Blk} {w w' : World} (h : RowR ρ cs v B w) (e : w'.heap[B.b]? = w.heap[B.b]?) : RowR ρ cs v B w' := by
  obtain ⟨c, el, fr, h1, h2⟩ := h.ex
  exact ⟨c, el, fr, by rw [e]; exact h1, h2⟩
theorem OR.heap {ρ : Ren} {r : Nat} {o : AObj} {w w' : World} (h : OR ρ r o w) (e : ∀ v B, ρ r v = some B → w'.heap[B.b]? = w.heap[B.b]?) : OR ρ r o w' := by
  cases o with
  | row cs ver => exact ⟨h.1, h.2.1, fun v B hB => ⟨(h.2.2 v B hB).1, (h.2.2 v B hB).2.heap (e v B hB)⟩⟩
  | map es clock => obtain ⟨B, es', h1, h2, h3⟩ := h; exact ⟨B, es', h1, by rw [e _ _ h1]; exact h2, h3⟩
  | mapIter m since seen st => obtain ⟨B, m', h1, h2, h3⟩ := h; exact ⟨B, m', h1, by rw [e _ _ h1.1]; exact h2, h3⟩
  | strIter s pos => obtain ⟨B, s', h1, h2, h3⟩ := h; exact ⟨B, s', h1, by rw [e _ _ h1.1]; exact h2, h3⟩
  | ro cs ob => exact fun v B hB => ⟨by rw [e _ _ hB]; exact (h v B hB).1, (h v B hB).2⟩
theorem WR.drew {ρ : Ren} {H : Heap} {w : World} (h : WR ρ H w) (n : Nat) : WR ρ H { w with drawn := n } :=
  ⟨fun r o ho => (h.obj r o ho).heap fun _ _ _ => rfl, h.dom, h.inj, h.same, h.lt⟩
theorem Fr.drew (ρ : Ren) (w : World) : Fr ρ w { w with drawn := w.drawn + 1 } := ⟨Nat.le_refl _, fun _ _ _ => rfl, rfl, rfl, rfl, .of_keep fun _ _ => rfl⟩
def TR (ρ : Ren) (tm : Tm) (tmps : Array Value) : Prop := ∀ i, VR ρ ((CX.t i).ev tm) (tmps.getD i undef)
theorem VR.undef (ρ : Ren) : VR ρ .undef Go.undef := .tup .nil
theorem TR.mono {ρ ρ' : Ren} (hl : ρ.le ρ') {tm : Tm} {t : Array Value} (h : TR ρ tm t) : TR ρ' tm t := fun i => (h i).mono hl
theorem ev_set (tm : Tm) (d : Nat) (v : AV) (i : Nat) : (CX.t i).ev (tm.set (d + 1) d v) = if i = d then v else (CX.t i).ev tm := by
  simp only [CX.ev]; rw [T.get_set _ _ _ _ _ (by omega)]
  by_cases h : i = d <;> simp [h]
end Go.Ex
namespace Go.Ex
open Go
variable {P : Program}
theorem WR.cell {ρ : Ren} {H : Heap} {w : World} {r v o c ver : Nat} {B : Blk} {cs : List Cell} {cell : Cell} (h : WR ρ H w) (hr : H.get r = some (.row cs ver))
    (hB : ρ r v = some B) (hc : (c : Int) = o + B.s) (hcell : cs[o]? = some cell) (hm : cell.m ≤ v) :
    ∃ x, w.cell? ⟨B.b, c, none⟩ = some x ∧ VR ρ cell.v x := by
  obtain ⟨k, el, fr, h1, h2, h3, h4⟩ := ((h.obj r _ hr).2.2 v B hB).2.ex
  obtain ⟨x, hx, hv⟩ := h4 o cell hcell hm c hc
  exact ⟨x, by simp [World.cell?, h1, hx], hv⟩
theorem add_none (b c i : Nat) : (Addr.mk b c none).add i = ⟨b, c + i, none⟩ := by
  unfold Addr.add; split
  · subst_vars; rfl
  · rfl
theorem ldList_spec {v : Nat} : ∀ {cs : List Cell} {n : Nat} {l : List AV}, ldList v cs n = some l →
    l.length = n ∧ ∀ i, i < n → ∃ cell, cs[i]? = some cell ∧ cell.m ≤ v ∧ l[i]? = some cell.v
  | cs, 0, l, h => by
    cases cs <;> (simp [ldList] at h; subst h; exact ⟨rfl, fun i hi => absurd hi (by omega)⟩)
  | [], n + 1, l, h => by simp [ldList] at h
  | c :: cs, n + 1, l, h => by
    simp only [ldList] at h
    by_cases hm : Nat.ble c.m v = true
    · rw [if_pos hm] at h
      cases e : ldList v cs n with
      | none => simp [e] at h
      | some l' =>
        simp only [e, Option.some.injEq] at h
        subst h
        obtain ⟨h1, h2⟩ := ldList_spec e
        refine ⟨by simp [h1], fun i hi => ?_⟩
        cases i with
        | zero => exact ⟨c, by simp, Nat.le_of_ble_eq_true hm, by simp⟩
        | succ i => simpa using h2 i (by omega)
    · rw [if_neg hm] at h; simp at h
theorem loadCellsFrom_run {w : World} {b c : Nat} : ∀ (n i : Nat) (acc : Array Value) (xs : List Value), xs.length = n →
    (∀ k, k < n → w.cell? ⟨b, c + (i + k), none⟩ = xs[k]?) → (loadCellsFrom ⟨b, c, none⟩ i n acc).run P w = .ok (acc ++ xs.toArray) w
  | 0, i, acc, xs, hl, _ => by
    have : xs = [] := List.eq_nil_of_length_eq_zero hl
    subst this
    simp [loadCellsFrom, pure, Sem.run]
  | n + 1, i, acc, xs, hl, h => by
    cases xs with
    | nil => simp at hl
    | cons x xs =>
      have h0 := h 0 (by omega)
      simp only [Nat.add_zero, List.getElem?_cons_zero] at h0
      have ih := loadCellsFrom_run n (i + 1) (acc.push x) xs (by simpa using hl) (fun k hk => by
        have := h (k + 1) (by omega)
        simp only [List.getElem?_cons_succ] at this
        rw [← this, show c + (i + 1 + k) = c + (i + (k + 1)) from by omega])
      simp only [loadCellsFrom, bind, load, Sem.bind, Sem.run, add_none, h0]
      rw [ih]; simp
theorem ldCells_runs {ρ : Ren} {H : Heap} {w : World} {r v o n c : Nat} {B : Blk} {l : List AV} (h : WR ρ H w) (hl : ldCells H r v o n = some l)
    (hB : ρ r v = some B) (hc : (c : Int) = o + B.s) :
    ∃ xs : List Value, (∀ k, (loadCells ⟨B.b, c, none⟩ n).run P { w with drawn := k } = .ok xs.toArray { w with drawn := k }) ∧ VRs ρ l xs := by
  unfold ldCells at hl
  split at hl
  · rename_i cs ver hr
    obtain ⟨h1, h2⟩ := ldList_spec hl
    have key : ∀ k, k < n → ∃ x, w.cell? ⟨B.b, c + k, none⟩ = some x ∧ ∀ a, l[k]? = some a → VR ρ a x := by
      intro k hk
      obtain ⟨cell, e1, e2, e3⟩ := h2 k hk
      obtain ⟨x, hx, hv⟩ := h.cell (c := c + k) (o := o + k) hr hB (by push_cast; omega) (by simpa using e1) e2
      exact ⟨x, hx, fun a ha => by rw [e3] at ha; cases ha; exact hv⟩
    let f : Nat → Value := fun k => (w.cell? ⟨B.b, c + k, none⟩).getD undef
    refine ⟨(List.range n).map f, ?_, ?_⟩
    · intro dr
      have := loadCellsFrom_run (P := P) (w := { w with drawn := dr }) (b := B.b) (c := c) n 0 #[] ((List.range n).map f) (by simp) (fun k hk => by
        obtain ⟨x, hx, _⟩ := key k hk
        have hx' : ({ w with drawn := dr } : World).cell? ⟨B.b, c + k, none⟩ = some x := hx
        simp [f, hk, hx, hx'])
      simpa [loadCells] using this
    · refine VRs.of_get _ _ (by simp [h1]) fun i a x ha hx => ?_
      have hi : i < n := by
        rw [← h1]; exact (List.getElem?_eq_some_iff.1 ha).1
      obtain ⟨y, hy, hv⟩ := key i hi
      simp [f, hi, hy] at hx
      subst hx; exact hv a ha
  · simp at hl
theorem ldCells_run {ρ : Ren} {H : Heap} {w : World} {r v o n c : Nat} {B : Blk} {l : List AV} (h : WR ρ H w) (hl : ldCells H r v o n = some l)
    (hB : ρ r v = some B) (hc : (c : Int) = o + B.s) :
    ∃ xs : List Value, (loadCells ⟨B.b, c, none⟩ n).run P w = .ok xs.toArray w ∧ VRs ρ l xs :=
  let ⟨xs, h1, h2⟩ := ldCells_runs (P := P) h hl hB hc; ⟨xs, h1 w.drawn, h2⟩
theorem ldC_run {ρ : Ren} {H : Heap} {w : World} {r v o n c : Nat} {B : Blk} {l : List AV} (h : WR ρ H w) (hl : ldC H r v o n = some l)
    (hB : ρ r v = some B) (hc : (c : Int) = o + B.s) :
    ∃ xs : List Value, (loadCells ⟨B.b, c, none⟩ n).run P w = .ok xs.toArray w ∧ VRs ρ l xs := by
  cases e : H.get r with
  | none => simp [ldC, e] at hl
  | some ob =>
    cases ob with
    | row cs ver => exact ldCells_run h (by simp only [ldCells, ldC, e] at hl ⊢; exact hl) hB hc
    | ro cs ob =>
      simp only [ldC, e] at hl
      obtain ⟨g1, g2⟩ := h.obj r _ e v B hB
      obtain ⟨k, el, fr, rfl, g3⟩ := g2.ex
      obtain ⟨h1, h2⟩ := ldList_spec hl
      have key : ∀ i, i < n → ∃ x, w.cell? ⟨B.b, c + i, none⟩ = some x ∧ ∀ a, l[i]? = some a → VR ρ a x := by
        intro i hi
        obtain ⟨cell, e1, e2, e3⟩ := h2 i hi
        obtain ⟨x, hx, hv⟩ := g3 (o + i) cell (by simpa using e1) e2 (c + i) (by push_cast; omega)
        refine ⟨x, ?_, fun a ha => by rw [e3] at ha; cases ha; exact hv⟩
        simp only [World.cell?, g1]; exact hx
      let f : Nat → Value := fun i => (w.cell? ⟨B.b, c + i, none⟩).getD undef
      refine ⟨(List.range n).map f, ?_, VRs.of_get _ _ (by simp [h1]) fun i a x ha hx => ?_⟩
      · have := loadCellsFrom_run (P := P) (w := w) (b := B.b) (c := c) n 0 #[] ((List.range n).map f) (by simp) (fun i hi => by
          obtain ⟨x, hx, _⟩ := key i hi
          simp [f, hi, hx])
        simpa [loadCells] using this
      · have hi : i < n := by
          rw [← h1]; exact (List.getElem?_eq_some_iff.1 ha).1
        obtain ⟨y, hy, hv⟩ := key i hi
        simp [f, hi, hy] at hx
        subst hx; exact hv a ha
    | map es cl => simp [ldC, e] at hl
    | mapIter a b c d => simp [ldC, e] at hl
    | strIter a b => simp [ldC, e] at hl
theorem WR.congr {ρ : Ren} {H H' : Heap} {w : World} (h : WR ρ H w) (hg : ∀ r, H'.get r = H.get r) (hn : H'.next = H.next) : WR ρ H' w :=
  ⟨fun r o ho => h.obj r o (by rw [← hg]; exact ho), fun r v B hB => by rw [hn]; exact h.dom r v B hB, h.inj, h.same, fun r o ho => by rw [hn]; exact h.lt r o (by rw [← hg]; exact ho)⟩
theorem stList_spec {m : Nat} : ∀ {cs : List Cell} {vs : List AV} {cs' : List Cell}, stList m cs vs = some cs' →
    cs'.length = cs.length ∧ vs.length ≤ cs.length ∧ (∀ (i : Nat) (a : AV), vs[i]? = some a → a.isCell = true ∧ cs'[i]? = some ⟨m, a⟩) ∧ ∀ i, vs.length ≤ i → cs'[i]? = cs[i]?
  | cs, [], cs', h => by
    cases cs <;> (simp [stList] at h; subst h; exact ⟨rfl, by simp, fun i a e => by simp at e, fun i _ => rfl⟩)
  | [], v :: vs, cs', h => by simp [stList] at h
  | c :: cs, v :: vs, cs', h => by
    simp only [stList] at h
    by_cases hm : v.isCell = true
    · rw [if_pos hm] at h
      cases e : stList m cs vs with
      | none => simp [e] at h
      | some l =>
        simp only [e, Option.some.injEq] at h
        subst h
        obtain ⟨h1, h2, h3, h4⟩ := stList_spec e
        refine ⟨by simp [h1], by simpa using h2, fun i a ha => ?_, fun i hi => ?_⟩
        · cases i with
          | zero => simp at ha; subst ha; exact ⟨hm, by simp⟩
          | succ i => simpa using h3 i a (by simpa using ha)
        · cases i with
          | zero => simp at hi
          | succ i => simpa using h4 i (by simpa using hi)
    · rw [if_neg hm] at h; simp at h
theorem stAt_spec {m : Nat} : ∀ {o : Nat} {cs : List Cell} {vs : List AV} {cs' : List Cell}, stAt m cs o vs = some cs' →
    cs'.length = cs.length ∧ o + vs.length ≤ cs.length ∧ (∀ (i : Nat) (a : AV), vs[i]? = some a → a.isCell = true ∧ cs'[o + i]? = some ⟨m, a⟩) ∧ ∀ i, (i < o ∨ o + vs.length ≤ i) → cs'[i]? = cs[i]?
  | 0, cs, vs, cs', h => by
    have h : stList m cs vs = some cs' := by cases cs <;> simpa [stAt] using h
    obtain ⟨h1, h2, h3, h4⟩ := stList_spec h
    exact ⟨h1, by omega, by simpa using h3, fun i hi => h4 i (by omega)⟩
  | o + 1, [], vs, cs', h => by simp [stAt] at h
  | o + 1, c :: cs, vs, cs', h => by
    simp only [stAt] at h
    cases e : stAt m cs o vs with
    | none => simp [e] at h
    | some l =>
      simp only [e, Option.some.injEq] at h
      subst h
      obtain ⟨h1, h2, h3, h4⟩ := stAt_spec e
      refine ⟨by simp [h1], by simp; omega, fun i a ha => ?_, fun i hi => ?_⟩
      · have := h3 i a ha
        rw [show o + 1 + i = (o + i) + 1 from by omega]; simpa using this
      · cases i with
        | zero => simp
        | succ i => simpa using h4 i (by omega)
theorem heap_setCell (w : World) (b c : Nat) (x : Value) (j : Nat) : (w.setCell ⟨b, c, none⟩ x).heap[j]? = if j = b then (w.heap[j]?).map (fun
      | .cells k el fr => .cells (k.setIfInBounds c x) el fr
      | o => o) else w.heap[j]? := by
  simp only [World.setCell, Array.getElem?_modify]
  by_cases h : b = j
  · subst h; simp; cases w.heap[b]? with
    | none => rfl
    | some o => cases o <;> rfl
  · have : ¬ j = b := fun e => h e.symm
    simp [h, this]
theorem WR.set1 {ρ : Ren} {H : Heap} {w : World} {r o c ver : Nat} {B : Blk} {cs : List Cell} {a : AV} {x : Value} (h : WR ρ H w) (hr : H.get r = some (.row cs ver))
    (hB : ρ r ver = some B) (hc : (c : Int) = o + B.s) (ho : o < cs.length) (hv : VR ρ a x) :
    WR ρ (H.put r (.row (cs.set o ⟨ver, a⟩) ver)) (w.setCell ⟨B.b, c, none⟩ x) ∧ (∃ y, w.cell? ⟨B.b, c, none⟩ = some y) ∧ w.frozen? ⟨B.b, c, none⟩ = false := by
  obtain ⟨hro0, hro1, hro2⟩ := h.obj r _ hr
  obtain ⟨k, el, fr, h1, h2, h3, h4⟩ := (hro2 ver B hB).2.ex
  have hcell : cs[o]? = some cs[o] := by simp [ho]
  obtain ⟨y, hy, _⟩ := h4 o cs[o] hcell (hro0 _ (List.mem_of_getElem? hcell)) c hc
  have hck : c < k.size := by
    rcases Nat.lt_or_ge c k.size with e | e
    · exact e
    · simp [Array.getElem?_eq_none e] at hy
  refine ⟨?_, ⟨y, by simp [World.cell?, h1, hy]⟩, ?_⟩
  · have hne : ∀ r' v' B', ρ r' v' = some B' → r' ≠ r → (w.setCell ⟨B.b, c, none⟩ x).heap[B'.b]? = w.heap[B'.b]? := by
      intro r' v' B' hB' hne
      rw [heap_setCell, if_neg (h.inj r' r v' ver B' B hB' hB hne)]
    refine ⟨fun r' o' ho' => ?_, fun r' v' B' hB' => ?_, h.inj, h.same, fun r' o' ho' => ?_⟩
    · rw [Heap.get_put] at ho'
      by_cases e : r' = r
      · subst e
        simp at ho'; subst ho'
        refine ⟨fun cell hc => ?_, hro1, fun v B' hB' => ⟨(hro2 v B' hB').1, ?_⟩⟩
        · rcases List.mem_or_eq_of_mem_set hc with e | e
          · exact hro0 _ e
          · subst e; exact Nat.le_refl _
        obtain ⟨k', el', fr', g1, g2, g3, g4⟩ := (hro2 v B' hB').2.ex
        by_cases eb : B'.b = B.b
        · have eB : B' = B := h.same r' v ver B' B hB' hB eb
          subst eB
          rw [h1] at g1; cases g1
          refine ⟨k.setIfInBounds c x, el, fr, by rw [heap_setCell]; simp [h1], by simp [h2], by simpa using h3, fun i cell hi hmi j hj => ?_⟩
          by_cases ei : i = o
          · subst ei
            rw [List.getElem?_set_self ho] at hi
            cases hi
            have : j = c := by omega
            subst this
            exact ⟨x, by simp [hck], hv⟩
          · rw [List.getElem?_set_ne (fun e => ei e.symm)] at hi
            obtain ⟨z, hz, hz'⟩ := g4 i cell hi hmi j hj
            have : ¬ c = j := by omega
            exact ⟨z, by simp [Array.getElem?_setIfInBounds, this, hz], hz'⟩
        · refine ⟨k', el', fr', by rw [heap_setCell, if_neg eb]; exact g1, g2, g3, fun i cell hi hmi j hj => ?_⟩
          by_cases ei : i = o
          · subst ei
            rw [List.getElem?_set_self ho] at hi
            cases hi
            have hle := (hro2 v B' hB').1
            have : v = ver := by simp at hmi; omega
            subst this
            rw [hB] at hB'; cases hB'; exact absurd rfl eb
          · rw [List.getElem?_set_ne (fun e => ei e.symm)] at hi
            exact g4 i cell hi hmi j hj
      · rw [if_neg e] at ho'
        exact (h.obj r' o' ho').heap fun v' B' hB' => hne r' v' B' hB' e
    · have := h.dom r' v' B' hB'
      exact ⟨by simpa [Heap.put_next] using this.1, by simpa [World.setCell] using this.2⟩
    · rw [Heap.put_next]
      rw [Heap.get_put] at ho'
      by_cases e : r' = r
      · subst e; exact h.lt _ _ hr
      · rw [if_neg e] at ho'; exact h.lt _ _ ho'
  · have := h3 c hck
    simp only [World.frozen?, h1]
    simp only [Bool.and_eq_false_iff, decide_eq_false_iff_not]
    omega
theorem Fr.setCell {ρ : Ren} {w : World} {r v : Nat} {B : Blk} (hB : ρ r v = some B) (c : Nat) (x : Value) : Fr ρ w (w.setCell ⟨B.b, c, none⟩ x) :=
  ⟨by simp [World.setCell], fun b hb hx => by rw [heap_setCell, if_neg (fun e => hx r v B hB e.symm)], rfl, rfl, rfl, fun b k el fr e => by
    rw [heap_setCell]
    by_cases hb : b = B.b
    · rw [if_pos hb, e]; exact ⟨_, rfl⟩
    · rw [if_neg hb]; exact ⟨k, e⟩⟩
theorem VR.notAgg {ρ : Ren} {a : AV} {x : Value} (h : VR ρ a x) (hc : a.isCell = true) : (∀ vs, x ≠ .agg vs) ∧ ∀ vs, x ≠ .tuple vs := by
  cases h <;> simp [AV.isCell] at hc ⊢
theorem run_store {w : World} {p : Addr} {x y : Value} (h : w.cell? p = some y) (hf : w.frozen? p = false) (hx : (∀ vs, x ≠ .agg vs) ∧ ∀ vs, x ≠ .tuple vs) :
    (store p x).run P w = .ok () (w.setCell p x) := by
  cases x <;> simp_all [store, Sem.run]
theorem storeCells_run {ρ : Ren} {r ver : Nat} {B : Blk} : ∀ (vs : List AV) (xs : List Value) (H : Heap) (w : World) (cs : List Cell) (o c i : Nat) (cs' : List Cell),
    WR ρ H w → H.get r = some (.row cs ver) → ρ r ver = some B → ((c + i : Nat) : Int) = o + B.s → stAt ver cs o vs = some cs' → VRs ρ vs xs →
    ∃ w', (storeCells ⟨B.b, c, none⟩ xs i).run P w = .ok () w' ∧ WR ρ (H.put r (.row cs' ver)) w' ∧ Fr ρ w w'
  | [], xs, H, w, cs, o, c, i, cs', h, hr, hB, hc, hs, hv => by
    cases hv
    refine ⟨w, by simp [storeCells, pure, Sem.run], ?_, Fr.refl _ _⟩
    obtain ⟨e1, e2, e3, e4⟩ := stAt_spec hs
    have : cs' = cs := List.ext_getElem? fun j => e4 j (by simp; omega)
    subst this
    exact h.congr (fun r' => by rw [Heap.get_put]; split <;> simp_all) rfl
  | a :: vs, x :: xs, H, w, cs, o, c, i, cs', h, hr, hB, hc, hs, .cons hv ht => by
    obtain ⟨e1, e2, e3, e4⟩ := stAt_spec hs
    simp only [List.length_cons] at e2 e4
    obtain ⟨hcell, e30⟩ := e3 0 a (by simp)
    have ho : o < cs.length := by omega
    obtain ⟨g1, ⟨y, g2⟩, g3⟩ := h.set1 (a := a) (x := x) hr hB hc ho hv
    have hs2 : stAt ver (cs.set o ⟨ver, a⟩) (o + 1) vs = some cs' := by
      have gen : ∀ (o : Nat) (cs cs' : List Cell), stAt ver cs o (a :: vs) = some cs' → stAt ver (cs.set o ⟨ver, a⟩) (o + 1) vs = some cs' := by
        intro o
        induction o with
        | zero =>
          intro cs cs' hs
          cases cs with
          | nil => simp [stAt, stList] at hs
          | cons k cs =>
            simp only [stAt, stList] at hs
            by_cases hm : a.isCell = true
            · rw [if_pos hm] at hs
              cases e : stList ver cs vs with
              | none => simp [e] at hs
              | some l =>
                simp only [e, Option.some.injEq] at hs
                subst hs
                have : stAt ver cs 0 vs = some l := by cases cs <;> simpa [stAt] using e
                simp [stAt, this]
            · rw [if_neg hm] at hs; simp at hs
        | succ o ih =>
          intro cs cs' hs
          cases cs with
          | nil => simp [stAt] at hs
          | cons k cs =>
            simp only [stAt] at hs
            cases e : stAt ver cs o (a :: vs) with
            | none => simp [e] at hs
            | some l =>
              simp only [e, Option.some.injEq] at hs
              subst hs
              simp only [List.set_cons_succ]
              rw [stAt, ih cs l e]
      exact gen o cs cs' hs
    obtain ⟨w', r1, r2, r3⟩ := storeCells_run vs xs _ _ (cs.set o ⟨ver, a⟩) (o + 1) c (i + 1) cs' g1 (by rw [Heap.get_put]; simp) hB (by push_cast at hc ⊢; omega) hs2 ht
    refine ⟨w', ?_, r2.congr (fun r' => by rw [Heap.get_put, Heap.get_put, Heap.get_put]; split <;> simp_all) rfl, ?_⟩
    · simp only [storeCells, bind, add_none]
      have := run_store (P := P) g2 g3 (hv.notAgg hcell)
      simp only [store] at this ⊢
      cases x <;> simp_all [Sem.bind, Sem.run]
    · exact (Fr.setCell hB (c + i) x).trans (Ren.newer_refl ρ w) r3
def Ren.upd (ρ : Ren) (r v : Nat) (B : Blk) : Ren := fun r' v' => if r' = r ∧ v' = v then some B else ρ r' v'
theorem Ren.upd_self (ρ : Ren) (r v : Nat) (B : Blk) : ρ.upd r v B r v = some B := by simp [Ren.upd]
theorem Ren.upd_ne (ρ : Ren) (r v : Nat) (B : Blk) {r' v' : Nat} (h : r' ≠ r ∨ v' ≠ v) : ρ.upd r v B r' v' = ρ r' v' := by
  unfold Ren.upd; rw [if_neg]; rintro ⟨rfl, rfl⟩; simp at h
theorem Ren.le_upd {ρ : Ren} {r v : Nat} {B : Blk} (h : ρ r v = none) : ρ.le (ρ.upd r v B) := by
  intro r' v' B' e
  rw [Ren.upd_ne]; exact e
  by_cases e1 : r' = r
  · by_cases e2 : v' = v
    · subst e1 e2; rw [h] at e; cases e
    · exact .inr e2
  · exact .inl e1
theorem heap_push (w : World) (o : Obj) (j : Nat) : ({ w with heap := w.heap.push o } : World).heap[j]? = if j = w.heap.size then some o else w.heap[j]? := by
  simp only [Array.getElem?_push]
theorem Fr.push (ρ : Ren) (w : World) (o : Obj) : Fr ρ w { w with heap := w.heap.push o } :=
  ⟨by simp, fun b hb _ => by rw [heap_push, if_neg (by omega)], rfl, rfl, rfl, .of_keep fun b hb => by rw [heap_push, if_neg (by omega)]⟩
theorem WR.newObj {ρ : Ren} {H : Heap} {w : World} {o : AObj} {ob : Obj} {B : Blk} (h : WR ρ H w) (hb : B.b = w.heap.size)
    (ho : OR (ρ.upd H.next 0 B) H.next o { w with heap := w.heap.push ob }) :
    WR (ρ.upd H.next 0 B) (H.new o).2 { w with heap := w.heap.push ob } ∧ ρ.le (ρ.upd H.next 0 B) ∧ ρ.newer (ρ.upd H.next 0 B) w ∧ Fr ρ w { w with heap := w.heap.push ob } := by
  have hnone : ∀ v, ρ H.next v = none := fun v => by
    cases e : ρ H.next v with
    | none => rfl
    | some B' => exact absurd (h.dom _ _ _ e).1 (by omega)
  have hle := Ren.le_upd (B := B) (hnone 0)
  have hcase : ∀ r v B', ρ.upd H.next 0 B r v = some B' → (r = H.next ∧ v = 0 ∧ B' = B) ∨ (r ≠ H.next ∧ ρ r v = some B') := by
    intro r v B' e
    by_cases e1 : r = H.next
    · subst e1
      by_cases e2 : v = 0
      · subst e2; rw [Ren.upd_self] at e; cases e; exact .inl ⟨rfl, rfl, rfl⟩
      · rw [Ren.upd_ne _ _ _ _ (.inr e2), hnone] at e; cases e
    · rw [Ren.upd_ne _ _ _ _ (.inl e1)] at e; exact .inr ⟨e1, e⟩
  refine ⟨⟨fun r o' ho' => ?_, fun r v B' e => ?_, fun r r' v v' B1 B2 e1 e2 hne => ?_, fun r v v' B1 B2 e1 e2 hb' => ?_, fun r o' ho' => ?_⟩, hle, fun r v B' e => ?_, Fr.push ρ w ob⟩
  · rw [Heap.get_new] at ho'
    by_cases e : r = H.next
    · subst e; simp at ho'; subst ho'; exact ho
    · rw [if_neg e] at ho'
      have := h.obj r o' ho'
      have hk : ∀ v B', ρ r v = some B' → ({ w with heap := w.heap.push ob } : World).heap[B'.b]? = w.heap[B'.b]? := fun v B' hB' => by
        rw [heap_push, if_neg]; have := (h.dom _ _ _ hB').2; omega
      have hup : ∀ v, ρ.upd H.next 0 B r v = ρ r v := fun v => Ren.upd_ne _ _ _ _ (.inl e)
      have h2 := this.heap hk
      cases o' with
      | row cs ver =>
        refine ⟨h2.1, fun v hv => by rw [hup]; exact h2.2.1 v hv, fun v B' hB' => ?_⟩
        rw [hup] at hB'
        obtain ⟨c, el, fr, g1, g2, g3, g4⟩ := (h2.2.2 v B' hB').2.ex
        exact ⟨(h2.2.2 v B' hB').1, c, el, fr, g1, g2, g3, fun i cell hi hm j hj => let ⟨x, hx, hv⟩ := g4 i cell hi hm j hj; ⟨x, hx, hv.mono hle⟩⟩
      | map es clock => obtain ⟨B', es', g1, g2, g3⟩ := h2; exact ⟨B', es', hle _ _ _ g1, g2, g3.mono hle⟩
      | mapIter m since seen st =>
        obtain ⟨B', m', g1, g2, g3⟩ := h2
        refine ⟨B', m', ⟨hle _ _ _ g1.1, g1.2⟩, g2, ?_⟩
        rcases g3 with g3 | ⟨mr, B'', a1, a2, a3⟩
        · exact .inl g3
        · exact .inr ⟨mr, B'', a1, hle _ _ _ a2, a3⟩
      | strIter s pos => obtain ⟨B', s', g1, g2, g3⟩ := h2; exact ⟨B', s', ⟨hle _ _ _ g1.1, g1.2⟩, g2, g3⟩
      | ro cs ob =>
        intro v B' hB'
        rw [hup] at hB'
        exact ⟨(h2 v B' hB').1, (h2 v B' hB').2.mono hle⟩
  · rw [Heap.new_next]
    rcases hcase r v B' e with ⟨rfl, rfl, rfl⟩ | ⟨_, e⟩
    · exact ⟨by omega, by simp [hb]⟩
    · have := h.dom _ _ _ e
      exact ⟨by omega, by simp; omega⟩
  · rcases hcase r v B1 e1 with ⟨q1, q2, q3⟩ | ⟨g1, q⟩ <;> rcases hcase r' v' B2 e2 with ⟨p1, p2, p3⟩ | ⟨g2, p⟩
    · exact absurd (q1.trans p1.symm) hne
    · have := (h.dom _ _ _ p).2; subst q3; omega
    · have := (h.dom _ _ _ q).2; subst p3; omega
    · exact h.inj _ _ _ _ _ _ q p hne
  · rcases hcase r v B1 e1 with ⟨q1, q2, q3⟩ | ⟨g1, q⟩ <;> rcases hcase r v' B2 e2 with ⟨p1, p2, p3⟩ | ⟨g2, p⟩
    · rw [q3, p3]
    · exact absurd q1 g2
    · exact absurd p1 g1
    · exact h.same _ _ _ _ _ q p hb'
  · rw [Heap.new_next]
    rw [Heap.get_new] at ho'
    by_cases e : r = H.next
    · omega
    · rw [if_neg e] at ho'; have := h.lt _ _ ho'; omega
  · rcases hcase r v B' e with ⟨rfl, rfl, rfl⟩ | ⟨_, e⟩
    · exact .inr (by omega)
    · exact .inl ⟨v, e⟩
theorem fresh_get {l : List AV} {i : Nat} {cell : Cell} (h : (freshCells l)[i]? = some cell) : cell.m = 0 ∧ l[i]? = some cell.v := by
  simp only [freshCells, List.getElem?_map, Option.map_eq_some_iff] at h
  obtain ⟨a, h1, h2⟩ := h
  subst h2; exact ⟨rfl, h1⟩
theorem WR.newRow {ρ : Ren} {H : Heap} {w : World} {l : List AV} {c : Array Value} {el : TypeId} {fr : Nat × Nat} (h : WR ρ H w)
    (hv : ∀ (i : Nat) (a : AV), l[i]? = some a → ∃ x, c[i]? = some x ∧ VR ρ a x) (hf : ∀ i, i < c.size → ¬ (fr.1 ≤ i ∧ i < fr.2)) :
    let B : Blk := ⟨w.heap.size, 0, c.size⟩
    let ρ' := ρ.upd H.next 0 B
    let w' : World := { w with heap := w.heap.push (.cells c el fr) }
    WR ρ' (H.new (.row (freshCells l) 0)).2 w' ∧ ρ.le ρ' ∧ ρ.newer ρ' w ∧ Fr ρ w w' := by
  intro B ρ' w'
  have hnone : ∀ v, ρ H.next v = none := fun v => by
    cases e : ρ H.next v with
    | none => rfl
    | some B' => exact absurd (h.dom _ _ _ e).1 (by omega)
  have hle := Ren.le_upd (B := B) (hnone 0)
  refine h.newObj (B := B) rfl ⟨fun cell hc => ?_, fun v hv => ?_, fun v B' hB' => ?_⟩
  · obtain ⟨i, hi⟩ := List.mem_iff_getElem?.1 hc
    have := (fresh_get hi).1; omega
  · have : v = 0 := by omega
    subst this; exact ⟨B, Ren.upd_self _ _ _ _⟩
  · have : v = 0 ∧ B' = B := by
      by_cases e2 : v = 0
      · subst e2; rw [Ren.upd_self] at hB'; cases hB'; exact ⟨rfl, rfl⟩
      · rw [Ren.upd_ne _ _ _ _ (.inr e2), hnone] at hB'; cases hB'
    obtain ⟨rfl, rfl⟩ := this
    refine ⟨Nat.le_refl _, c, el, fr, by rw [heap_push]; simp [B], rfl, hf, fun i cell hi _ j hj => ?_⟩
    obtain ⟨x, hx, hxv⟩ := hv i cell.v (fresh_get hi).2
    have : j = i := by simp [B] at hj; omega
    subst this
    exact ⟨x, hx, hxv.mono hle⟩
theorem WR.putObj {ρ : Ren} {H : Heap} {w : World} {r : Nat} {o o0 : AObj} {ob : Obj} {B : Blk} (h : WR ρ H w) (hr : H.get r = some o0) (hB : ρ r 0 = some B)
    (ho : OR ρ r o { w with heap := w.heap.setIfInBounds B.b ob }) (hrow : ∀ cs v, o0 ≠ .row cs v := by intro _ _ hh; cases hh) (hro : ∀ cs v, o0 ≠ .ro cs v := by intro _ _ hh; cases hh) :
    WR ρ (H.put r o) { w with heap := w.heap.setIfInBounds B.b ob } ∧ Fr ρ w { w with heap := w.heap.setIfInBounds B.b ob } := by
  have hk : ∀ b, b ≠ B.b → ({ w with heap := w.heap.setIfInBounds B.b ob } : World).heap[b]? = w.heap[b]? := fun b hb => by
    simp only [Array.getElem?_setIfInBounds]; rw [if_neg (fun e => hb e.symm)]
  have hkk : KindKept w { w with heap := w.heap.setIfInBounds B.b ob } := fun b c el fr e => by
    by_cases hb : b = B.b
    · exfalso
      subst hb
      have q := h.obj r o0 hr
      cases o0 with
      | row cs v => exact hrow cs v rfl
      | map es clock => obtain ⟨B', es', h1, h2, _⟩ := q; rw [hB] at h1; cases h1; rw [h2] at e; cases e
      | mapIter m since seen st => obtain ⟨B', m', ⟨h1, _⟩, h2, _⟩ := q; rw [hB] at h1; cases h1; rw [h2] at e; cases e
      | strIter s pos => obtain ⟨B', s', ⟨h1, _⟩, h2, _⟩ := q; rw [hB] at h1; cases h1; rw [h2] at e; cases e
      | ro cs ob => exact hro cs ob rfl
    · exact ⟨c, by rw [hk b hb]; exact e⟩
  refine ⟨⟨fun r' o' ho' => ?_, fun r' v B' e => ?_, h.inj, h.same, fun r' o' ho' => ?_⟩, ⟨by simp, fun b hb hx => hk b (fun e => hx r 0 B hB e.symm), rfl, rfl, rfl, hkk⟩⟩
  · rw [Heap.get_put] at ho'
    by_cases e : r' = r
    · subst e; simp at ho'; subst ho'; exact ho
    · rw [if_neg e] at ho'
      exact (h.obj r' o' ho').heap fun v B' hB' => hk _ (h.inj _ _ _ _ _ _ hB' hB e)
  · have := h.dom _ _ _ e
    exact ⟨by simpa [Heap.put_next] using this.1, by simpa using this.2⟩
  · rw [Heap.put_next]
    rw [Heap.get_put] at ho'
    by_cases e : r' = r
    · subst e; exact h.lt _ _ hr
    · rw [if_neg e] at ho'; exact h.lt _ _ ho'
end Go.Ex
namespace Go.Ex
open Go
variable {P : Program}
theorem run_program {w : World} : (program).run P w = .ok P w := rfl
theorem run_pure {α : Type} (a : α) (w : World) : (pure a : Sem α).run P w = .ok a w := rfl
theorem run_under {t : TypeId} {d : TypeDesc} {w : World} (h : P.underlying t = some d) : (underlying t).run P w = .ok d w := by
  simp [underlying, program, bind, Sem.bind, Sem.run, h, pure]
theorem run_info {t : TypeId} {d : TypeInfo} {w : World} (h : P.info? t = some d) : (typeInfo t).run P w = .ok d w := by
  simp [typeInfo, program, bind, Sem.bind, Sem.run, h, pure]
theorem run_size {t : TypeId} {d : TypeInfo} {w : World} (h : P.info? t = some d) : (sizeOf t).run P w = .ok (P.cellsOf t) w := by
  simp [sizeOf, run_info h, run_pure, Program.cellsOf, h]
theorem info_of_under {t : TypeId} {d : TypeDesc} (h : P.underlying t = some d) : ∃ i, P.info? t = some i := by
  unfold Program.underlying at h
  cases e : P.info? t with
  | none => simp [e] at h
  | some i => exact ⟨i, rfl⟩
theorem run_size' {t : TypeId} {d : TypeDesc} {w : World} (h : P.underlying t = some d) : (sizeOf t).run P w = .ok (P.cellsOf t) w :=
  let ⟨_, hi⟩ := info_of_under h; run_size hi
theorem run_isAgg {t : TypeId} {d : TypeDesc} {w : World} (h : P.underlying t = some d) : (isAgg t).run P w = .ok (isAggT P t) w := by
  simp only [isAgg, isAggT, Sem.run_bind, run_under h, h]
  cases d <;> simp [run_pure]
theorem run_zero {t : TypeId} {i : TypeInfo} {v : Value} {w : World} (h : P.info? t = some i) (hz : i.zero = some v) : (zeroValue t).run P w = .ok v w := by
  simp [zeroValue, run_info h, run_pure, hz]
structure OpOK (P : Program) (ρ : Ren) (w : World) (s : Sem Value) (v : AV) (H' : Heap) : Prop where
  intro ::
  ex : ∃ v' w' ρ', s.run P w = .ok v' w' ∧ ρ.le ρ' ∧ ρ.newer ρ' w ∧ VR ρ' v v' ∧ WR ρ' H' w' ∧ Fr ρ w w'
theorem OpOK.pure {ρ : Ren} {H : Heap} {w : World} {s : Sem Value} {v : AV} {v' : Value} (h : WR ρ H w) (hr : s.run P w = .ok v' w) (hv : VR ρ v v') : OpOK P ρ w s v H :=
  ⟨v', w, ρ, hr, ρ.le_refl, ρ.newer_refl w, hv, h, Fr.refl ρ w⟩
theorem load_ok {ρ : Ren} {H : Heap} {w : World} {t : TypeId} {d : TypeDesc} {n r v o : Nat} {a : AV} {x : Value} (hd : P.underlying t = some d) (h : WR ρ H w)
    (hx : VR ρ (.ptr r v o) x) (hn : n = if isAggT P t then P.cellsOf t else 1) (hl : ldVar H (isAggT P t) n r v o = some a) : OpOK P ρ w (Instr.loadAt t x) a H := by
  cases hx with
  | ptr hB hc =>
    rename_i B c
    unfold ldVar at hl
    cases e : ldC H r v o n with
    | none => simp [e] at hl
    | some l =>
      simp only [e] at hl
      obtain ⟨xs, h1, h2⟩ := ldC_run (P := P) h e hB hc
      by_cases ha : isAggT P t = true
      · simp only [ha, if_true, Option.some.injEq] at hl hn
        subst hl
        refine .pure (v' := .agg xs.toArray) h ?_ (.agg (by simpa using h2))
        simp only [Instr.loadAt, Instr.sureAddr, loadVar, Sem.run_bind, Sem.run_pure, Result.andThen_ok, run_isAgg hd, ha, if_true, run_size' hd]
        rw [← hn, h1]; rfl
      · simp only [ha] at hl hn
        simp only [Bool.false_eq_true, if_false] at hl hn
        subst hn
        split at hl
        · rename_i y
          cases hl
          cases h2 with
          | cons hv ht =>
            cases ht
            rename_i z
            refine .pure (v' := z) h ?_ hv
            simp only [Instr.loadAt, Instr.sureAddr, loadVar, Sem.run_bind, Sem.run_pure, Result.andThen_ok, run_isAgg hd, ha, Bool.false_eq_true, if_false]
            simp only [loadCells, loadCellsFrom, Sem.run_bind, add_none, Nat.add_zero, Sem.run_pure] at h1
            cases e2 : (Go.load ⟨B.b, c, none⟩).run P w with
            | ok a w2 => rw [e2] at h1; simp at h1; rw [h1.1, h1.2]
            | halt a w2 => rw [e2] at h1; simp at h1
        · cases hl
theorem stCells_get {H H' : Heap} {r v o : Nat} {vs : List AV} (h : stCells H r v o vs = some H') :
    ∃ cs cs', H.get r = some (.row cs v) ∧ stAt v cs o vs = some cs' ∧ H' = H.put r (.row cs' v) := by
  unfold stCells at h
  split at h
  · rename_i cs ver hr
    by_cases hv : Nat.beq ver v = true
    · rw [if_pos hv] at h
      have hv := Nat.eq_of_beq_eq_true hv
      subst hv
      split at h
      · rename_i cs' e
        cases h
        exact ⟨cs, cs', hr, e, rfl⟩
      · cases h
    · rw [if_neg hv] at h; cases h
  · cases h
theorem store_ok {ρ : Ren} {H H' : Heap} {w : World} {t : TypeId} {d : TypeDesc} {r v o : Nat} {a : AV} {x y : Value} (hd : P.underlying t = some d) (h : WR ρ H w)
    (hx : VR ρ (.ptr r v o) x) (hy : VR ρ a y) (hn : a.cells.length = P.cellsOf t) (hs : stCells H r v o a.cells = some H') :
    ∃ w', (Instr.storeAt t x y).run P w = .ok () w' ∧ WR ρ H' w' ∧ Fr ρ w w' := by
  obtain ⟨cs, cs', hr, hst, rfl⟩ := stCells_get hs
  cases hx with
  | ptr hB hc =>
    obtain ⟨w', h1, h2, h3⟩ := storeCells_run (P := P) a.cells y.cells.toList H w cs o _ 0 cs' h hr hB (by simpa using hc) hst hy.cells
    refine ⟨w', ?_, h2, h3⟩
    have hsz : y.cells.size = P.cellsOf t := by rw [← hn, hy.cells.length]; simp
    simp only [Instr.storeAt, Instr.sureAddr, storeVar, Sem.run_bind, Sem.run_pure, Result.andThen_ok, run_size' hd, hsz, ne_eq, not_true_eq_false, if_false]
    exact h1
theorem u8_undo (s : ByteArray) : VR (fun _ _ => none) (.str (s.data.toList.map (·.toNat))) (.string s) := .str s
mutual
theorem cvVal_ok {ρ : Ren} : ∀ (f : Nat) (v : Value) (a : AV), cvVal f v = some a → VR ρ a v
  | 0, v, a, h => by simp [cvVal] at h
  | f + 1, v, a, h => by
    cases v with
    | bool b => simp [cvVal] at h; subst h; exact .bool b
    | int k n => simp [cvVal] at h; subst h; exact .int k n
    | string s => simp only [cvVal, Option.some.injEq] at h; subst h; exact .str s
    | pointer p => cases p <;> simp [cvVal] at h; subst h; exact .nilp
    | slice p l c =>
      cases p with
      | some p => simp [cvVal] at h
      | none =>
        cases l with
        | succ l => simp [cvVal] at h
        | zero => cases c with
          | succ c => simp [cvVal] at h
          | zero => simp [cvVal] at h; subst h; exact .nils
    | map p => cases p <;> simp [cvVal] at h; subst h; exact .nilm
    | nilFunc => simp [cvVal] at h; subst h; exact .nilf
    | nilIface => simp [cvVal] at h; subst h; exact .nili
    | agg vs =>
      simp only [cvVal] at h
      cases e : cvVals f vs.toList with
      | none => simp [e] at h
      | some l => simp only [e, Option.some.injEq] at h; subst h; exact .agg (cvVals_ok f _ _ e)
    | tuple vs =>
      simp only [cvVal] at h
      cases e : cvVals f vs.toList with
      | none => simp [e] at h
      | some l => simp only [e, Option.some.injEq] at h; subst h; exact .tup (cvVals_ok f _ _ e)
    | func fn x y => simp [cvVal] at h
    | float k b => simp [cvVal] at h
    | complex k b c => simp [cvVal] at h
    | chan r => simp [cvVal] at h
    | iface t x => simp [cvVal] at h
theorem cvVals_ok {ρ : Ren} : ∀ (f : Nat) (vs : List Value) (l : List AV), cvVals f vs = some l → VRs ρ l vs
  | 0, vs, l, h => by simp [cvVals] at h
  | f + 1, [], l, h => by simp [cvVals] at h; subst h; exact .nil
  | f + 1, v :: vs, l, h => by
    simp only [cvVals] at h
    cases e : cvVal f v with
    | none => simp [e] at h
    | some a => cases e2 : cvVals f vs with
      | none => simp [e, e2] at h
      | some l' => simp only [e, e2, Option.some.injEq] at h; subst h; exact .cons (cvVal_ok f v a e) (cvVals_ok f vs l' e2)
end
theorem zeroA_ok {ρ : Ren} {t : TypeId} {z : AV} (h : zeroA P t = some z) : ∃ i v, P.info? t = some i ∧ i.zero = some v ∧ VR ρ z v := by
  simp only [zeroA, bind, Option.bind] at h
  cases e : P.info? t with
  | none => simp [e] at h
  | some i =>
    simp only [e] at h
    cases e2 : i.zero with
    | none => simp [e2] at h
    | some v => simp only [e2] at h; exact ⟨i, v, rfl, e2, cvVal_ok _ _ _ h⟩
theorem run_zeroA {ρ : Ren} {t : TypeId} {z : AV} {w : World} (h : zeroA P t = some z) : ∃ v, (zeroValue t).run P w = .ok v w ∧ VR ρ z v :=
  let ⟨_, v, hi, hz, hv⟩ := zeroA_ok (ρ := ρ) h; ⟨v, run_zero hi hz, hv⟩
theorem VRs.ex {ρ : Ren} {l : List AV} {xs : Array Value} (h : VRs ρ l xs.toList) : ∀ (i : Nat) (a : AV), l[i]? = some a → ∃ x, xs[i]? = some x ∧ VR ρ a x := by
  intro i a ha
  obtain ⟨x, hx, hv⟩ := h.get i a ha
  exact ⟨x, by simpa using hx, hv⟩
theorem newRow_ok {ρ : Ren} {H : Heap} {w : World} {el : TypeId} {l : List AV} {xs : Array Value} (h : WR ρ H w) (hv : VRs ρ l xs.toList) :
    ∃ ρ' w', (newRow el xs).run P w = .ok ⟨w.heap.size, 0, none⟩ w' ∧ ρ.le ρ' ∧ ρ.newer ρ' w ∧ WR ρ' (H.new (.row (freshCells l) 0)).2 w' ∧ Fr ρ w w' ∧ ρ' H.next 0 = some ⟨w.heap.size, 0, xs.size⟩ := by
  obtain ⟨g1, g2, g3, g4⟩ := h.newRow (c := xs) (el := el) (fr := (0, 0)) hv.ex (by intro i hi; simp)
  exact ⟨_, _, by simp [newRow, newObj, Sem.run], g2, g3, g1, g4, Ren.upd_self _ _ _ _⟩
theorem alloc_ok {ρ : Ren} {H : Heap} {w : World} {e : TypeId} {z : AV} {old : Value} (hz : zeroA P e = some z) (h : WR ρ H w) :
    OpOK P ρ w (Instr.alloc e true old) (.ptr H.next 0 0) (H.new (.row (freshCells z.cells) 0)).2 := by
  obtain ⟨v, hr, hv⟩ := run_zeroA (P := P) (ρ := ρ) (w := w) hz
  obtain ⟨ρ', w', g1, g2, g3, g4, g5, g6⟩ := newRow_ok (P := P) (el := e) h hv.cells
  refine ⟨_, w', ρ', ?_, g2, g3, .ptr (c := 0) g6 (by simp), g4, g5⟩
  simp [Instr.alloc, hr, newVar, g1]
theorem box_ok {ρ : Ren} {H : Heap} {w : World} {e : TypeId} {a : AV} {x : Value} (hx : VR ρ a x) (h : WR ρ H w) :
    OpOK P ρ w (Instr.box e x) (.ptr H.next 0 0) (H.new (.row (freshCells a.cells) 0)).2 := by
  obtain ⟨ρ', w', g1, g2, g3, g4, g5, g6⟩ := newRow_ok (P := P) (el := e) h hx.cells
  refine ⟨_, w', ρ', ?_, g2, g3, .ptr (c := 0) g6 (by simp), g4, g5⟩
  simp [Instr.box, newVar, g1]
end Go.Ex
namespace Go.Ex
open Go
variable {P : Program}
theorem foldSet_list : ∀ (vs : List Value) (off k : Nat) (cs : Array Value),
    ((vs.zipIdx k).foldl (fun cs (c, j) => cs.setIfInBounds (off + j) c) cs).size = cs.size ∧
    ∀ j, ((vs.zipIdx k).foldl (fun cs (c, j) => cs.setIfInBounds (off + j) c) cs)[j]? =
      if j < cs.size then (if off + k ≤ j ∧ j < off + k + vs.length then vs[j - (off + k)]? else cs[j]?) else none
  | [], off, k, cs => by
    refine ⟨rfl, fun j => ?_⟩
    have : ¬ (off + k ≤ j ∧ j < off + k + ([] : List Value).length) := by simp
    by_cases h : j < cs.size
    · simp [h, this]
    · simp [h]
  | v :: vs, off, k, cs => by
    obtain ⟨h1, h2⟩ := foldSet_list vs off (k + 1) (cs.setIfInBounds (off + k) v)
    simp only [List.zipIdx_cons, List.foldl_cons]
    refine ⟨by rw [h1]; simp, fun j => ?_⟩
    rw [h2 j]
    simp only [Array.size_setIfInBounds, Array.getElem?_setIfInBounds, List.length_cons]
    by_cases hj : j < cs.size
    · simp only [hj, if_true]
      by_cases h3 : off + (k + 1) ≤ j ∧ j < off + (k + 1) + vs.length
      · have h4 : off + k ≤ j ∧ j < off + k + (vs.length + 1) := by omega
        rw [if_pos h3, if_pos h4]
        obtain ⟨m, rfl⟩ : ∃ m, j = off + (k + 1) + m := ⟨j - (off + (k + 1)), by omega⟩
        rw [show off + (k + 1) + m - (off + (k + 1)) = m from by omega, show off + (k + 1) + m - (off + k) = m + 1 from by omega]; simp
      · rw [if_neg h3]
        by_cases h5 : off + k = j
        · subst h5; simp [hj]
        · have h4 : ¬ (off + k ≤ j ∧ j < off + k + (vs.length + 1)) := by omega
          rw [if_neg h4, if_neg h5]
    · simp [hj]
theorem setCells_get (cells : List AV) (off : Nat) (vs : List AV) (h : off + vs.length ≤ cells.length) (j : Nat) :
    (setCells cells off vs)[j]? = if j < cells.length then (if off ≤ j ∧ j < off + vs.length then vs[j - off]? else cells[j]?) else none := by
  unfold setCells
  by_cases h1 : j < off
  · rw [List.append_assoc, List.getElem?_append_left (by simp; omega), List.getElem?_take]
    have : ¬ (off ≤ j ∧ j < off + vs.length) := by omega
    simp [h1, this]
  · by_cases h2 : j < off + vs.length
    · rw [List.getElem?_append_left (by simp; omega), List.getElem?_append_right (by simp; omega)]
      have : off ≤ j ∧ j < off + vs.length := by omega
      have h3 : j < cells.length := by omega
      simp only [this, and_self, if_true, h3]
      congr 1; simp; omega
    · rw [List.getElem?_append_right (by simp; omega), List.getElem?_drop]
      have : ¬ (off ≤ j ∧ j < off + vs.length) := by omega
      simp only [this, if_false]
      have e : off + vs.length + (j - (cells.take off ++ vs).length) = j := by simp; omega
      rw [e]
      by_cases h3 : j < cells.length
      · simp [h3]
      · simp [h3]
theorem fill1_ok {ρ : Ren} {l vs : List AV} {cs : Array Value} {v : Array Value} {off : Nat} (h : VRs ρ l cs.toList) (hv : VRs ρ vs v.toList) (ho : off + vs.length ≤ l.length) :
    VRs ρ (setCells l off vs) (v.zipIdx.foldl (fun cs (c, j) => cs.setIfInBounds (off + j) c) cs).toList := by
  have hf : v.zipIdx.foldl (fun cs (c, j) => cs.setIfInBounds (off + j) c) cs = (v.toList.zipIdx 0).foldl (fun cs (c, j) => cs.setIfInBounds (off + j) c) cs := by
    rw [← Array.foldl_toList, Array.toList_zipIdx]
  rw [hf]
  obtain ⟨h1, h2⟩ := foldSet_list v.toList off 0 cs
  have hl := h.length
  have hvl := hv.length
  refine VRs.of_get _ _ ?_ fun i a x ha hx => ?_
  · have : (setCells l off vs).length = l.length := by simp [setCells]; omega
    rw [this, hl, Array.length_toList, Array.length_toList, h1]
  · rw [setCells_get _ _ _ ho] at ha
    rw [Array.getElem?_toList, h2 i] at hx
    simp only [Nat.add_zero] at hx
    rw [← hvl] at hx
    have hsz : cs.size = l.length := by rw [hl]; simp
    rw [hsz] at hx
    by_cases h3 : i < l.length
    · simp only [h3, if_true] at ha hx
      by_cases h4 : off ≤ i ∧ i < off + vs.length
      · rw [if_pos h4] at ha hx
        obtain ⟨y, hy, hvy⟩ := hv.get _ _ ha
        rw [hy] at hx; cases hx; exact hvy
      · rw [if_neg h4] at ha hx
        obtain ⟨y, hy, hvy⟩ := h.get _ _ ha
        simp at hy hx
        rw [hy] at hx; cases hx; exact hvy
    · simp [h3] at ha
def XR1 (ρ : Ren) (tm : Tm) (ev : Operand → Value) : Prop := ∀ (x : Operand) (cx : CX), cvX x = some cx → VR ρ (cx.ev tm) (ev x)
theorem XR1.of {ρ : Ren} {tm : Tm} {a : Act} (h : TR ρ tm a.tmps) : XR1 ρ tm a.eval := by
  intro x cx hx
  cases x with
  | tmp t => simp [cvX] at hx; subst hx; exact h t
  | const v =>
    simp only [cvX] at hx
    cases e : cvVal 100 v with
    | none => simp [e] at hx
    | some b => simp only [e, Option.some.injEq] at hx; subst hx; exact cvVal_ok _ _ _ e
  | global g => simp [cvX] at hx
  | func f => simp [cvX] at hx; subst hx; exact .func .nil .nil
theorem cvParts_cons {places : Nat → Option (Nat × Nat)} {i : Nat} {x : Operand} {ps : List (Nat × Operand)} {qs : List (Nat × Nat × CX)} (h : cvParts P places ((i, x) :: ps) = some qs) :
    ∃ off n cx qs', places i = some (off, n) ∧ cvX x = some cx ∧ cvParts P places ps = some qs' ∧ qs = (off, n, cx) :: qs' := by
  simp only [cvParts, List.mapM_cons, bind, Option.bind] at h
  cases e : places i with
  | none => simp [e] at h
  | some p =>
    obtain ⟨off, n⟩ := p
    simp only [e] at h
    cases e2 : cvX x with
    | none => simp [e2] at h
    | some cx =>
      simp only [e2, pure] at h
      cases e3 : cvParts P places ps with
      | none => simp only [cvParts, bind, Option.bind, pure] at e3; simp only [e3] at h; cases h
      | some qs' =>
        simp only [cvParts, bind, Option.bind, pure] at e3
        simp only [e3] at h; cases h
        exact ⟨off, n, cx, qs', rfl, rfl, rfl, rfl⟩
theorem cvParts_nil {places : Nat → Option (Nat × Nat)} {qs : List (Nat × Nat × CX)} (h : cvParts P places [] = some qs) : qs = [] := by
  simp [cvParts, pure] at h; exact h
theorem fill_ok {ρ : Ren} {tm : Tm} {ev : Operand → Value} (hx : XR1 ρ tm ev) {places : Nat → Option (Nat × Nat)} :
    ∀ (ps : List (Nat × Operand)) (qs : List (Nat × Nat × CX)) (l l' : List AV) (cs : Array Value), cvParts P places ps = some qs → VRs ρ l cs.toList → fillParts tm l qs = some l' →
      ∃ cs', Instr.fill places cs (ps.map fun (i, x) => (i, ev x)) = some cs' ∧ VRs ρ l' cs'.toList
  | [], qs, l, l', cs, hq, hv, hf => by
    rw [cvParts_nil hq] at hf
    simp [fillParts] at hf; subst hf
    exact ⟨cs, by simp [Instr.fill], hv⟩
  | (i, x) :: ps, qs, l, l', cs, hq, hv, hf => by
    obtain ⟨off, n, cx, qs', h1, h2, h3, rfl⟩ := cvParts_cons hq
    simp only [fillParts] at hf
    by_cases hc : (Nat.beq ((cx.ev tm).cells).length n && Nat.ble (off + n) l.length) = true
    · rw [if_pos hc] at hf
      simp only [Bool.and_eq_true] at hc
      have e1 := Nat.eq_of_beq_eq_true hc.1
      have e2 := Nat.le_of_ble_eq_true hc.2
      have hvx := hx x cx h2
      have hlen := hvx.cells.length
      have := fill1_ok (off := off) hv hvx.cells (by omega)
      obtain ⟨cs', g1, g2⟩ := fill_ok hx ps qs' _ l' _ h3 this hf
      refine ⟨cs', ?_, g2⟩
      have hsz : (ev x).cells.size = n := by rw [← e1, hlen]; simp
      have hsz2 : cs.size = l.length := by rw [hv.length]; simp
      simp only [List.map_cons, Instr.fill, h1, hsz, hsz2, ne_eq, not_true_eq_false, decide_false, Bool.false_or]
      rw [if_neg (by simp; omega)]
      exact g1
    · rw [if_neg hc] at hf; cases hf
theorem zeros_ok {ρ : Ren} {z : List AV} {zs : Array Value} (h : VRs ρ z zs.toList) (m : Nat) :
    VRs ρ ((List.replicate m z).flatten) ((Array.range (m * zs.size)).map (fun i => zs[i % zs.size]!)).toList := by
  have hl := h.length
  have hsz : zs.size = z.length := by rw [hl]; simp
  refine VRs.of_get _ _ (by simp [hsz]) fun i a x ha hx => ?_
  have hi : i < m * zs.size := by
    rcases Nat.lt_or_ge i (m * zs.size) with e | e
    · exact e
    · rw [Array.getElem?_toList, Array.getElem?_eq_none (by simpa using e)] at hx; cases hx
  have hpos : 0 < zs.size := by
    rcases Nat.eq_zero_or_pos zs.size with e | e
    · rw [e] at hi; simp at hi
    · exact e
  have hx' : x = zs[i % zs.size]! := by simp [hi] at hx; exact hx.symm
  have ha' : z[i % z.length]? = some a := by
    clear hx hx'
    induction m generalizing i with
    | zero => simp at hi
    | succ m ih =>
      rw [List.replicate_succ, List.flatten_cons] at ha
      by_cases h1 : i < z.length
      · rw [List.getElem?_append_left h1] at ha; rw [Nat.mod_eq_of_lt h1]; exact ha
      · rw [List.getElem?_append_right (by omega)] at ha
        have := ih (i - z.length) ha (by rw [hsz] at hi ⊢; rw [Nat.succ_mul] at hi; omega)
        rw [← this]
        congr 1
        rw [Nat.mod_eq_sub_mod (by omega)]
  obtain ⟨y, hy, hvy⟩ := h.get _ _ ha'
  rw [← hsz] at hy
  rw [Array.getElem?_toList] at hy
  have : i % zs.size < zs.size := Nat.mod_lt _ hpos
  rw [hx', getElem!_pos zs _ this]
  rw [Array.getElem?_eq_getElem this] at hy
  cases hy; exact hvy
end Go.Ex
namespace Go.Ex
open Go
variable {P : Program}
theorem storeCells_conc {b c : Nat} {el : TypeId} {fr : Nat × Nat} : ∀ (xs : List Value) (i : Nat) (k : Array Value) (w : World), w.heap[b]? = some (.cells k el fr) → c + i + xs.length ≤ k.size →
    (∀ j, j < k.size → ¬ (fr.1 ≤ j ∧ j < fr.2)) → (∀ x ∈ xs, (∀ vs, x ≠ .agg vs) ∧ ∀ vs, x ≠ .tuple vs) →
    ∃ k', (storeCells ⟨b, c, none⟩ xs i).run P w = .ok () { w with heap := w.heap.setIfInBounds b (.cells k' el fr) } ∧ k'.size = k.size ∧
      (∀ j, j < xs.length → k'[c + i + j]? = xs[j]?) ∧ ∀ j, (j < c + i ∨ c + i + xs.length ≤ j) → k'[j]? = k[j]?
  | [], i, k, w, hb, _, _, _ => by
    refine ⟨k, ?_, rfl, fun j hj => by simp at hj, fun _ _ => rfl⟩
    have : w.heap.setIfInBounds b (.cells k el fr) = w.heap := by
      apply Array.ext_getElem?
      intro j
      rw [Array.getElem?_setIfInBounds]
      split
      · subst_vars
        split
        · exact hb.symm
        · rename_i h; rw [Array.getElem?_eq_none (by omega)]
      · rfl
    simp [storeCells, this]
  | x :: xs, i, k, w, hb, hl, hf, hx => by
    simp only [List.length_cons] at hl
    have hck : c + i < k.size := by omega
    have hbs : b < w.heap.size := by
      rcases Nat.lt_or_ge b w.heap.size with e | e
      · exact e
      · rw [Array.getElem?_eq_none e] at hb; cases hb
    have hcell : w.cell? ⟨b, c + i, none⟩ = some k[c + i] := by simp [World.cell?, hb, hck]
    have hfr : w.frozen? ⟨b, c + i, none⟩ = false := by
      have := hf _ hck
      simp only [World.frozen?, hb]
      simp only [Bool.and_eq_false_iff, decide_eq_false_iff_not]
      omega
    have hs := run_store (P := P) hcell hfr (hx x (by simp))
    have hb1 : (w.setCell ⟨b, c + i, none⟩ x).heap[b]? = some (.cells (k.setIfInBounds (c + i) x) el fr) := by rw [heap_setCell]; simp [hb]
    obtain ⟨k', g1, g2, g3, g4⟩ := storeCells_conc (c := c) xs (i + 1) (k.setIfInBounds (c + i) x) (w.setCell ⟨b, c + i, none⟩ x) hb1 (by simp only [Array.size_setIfInBounds]; omega) (by simpa using hf) (fun y hy => hx y (by simp [hy]))
    refine ⟨k', ?_, by simpa using g2, fun j hj => ?_, fun j hj => ?_⟩
    · simp only [storeCells, Sem.run_bind, add_none, hs, Result.andThen_ok, g1]
      have : (w.setCell ⟨b, c + i, none⟩ x).heap.setIfInBounds b (.cells k' el fr) = w.heap.setIfInBounds b (.cells k' el fr) := by
        apply Array.ext_getElem?
        intro j
        rw [Array.getElem?_setIfInBounds, Array.getElem?_setIfInBounds, heap_setCell]
        have : (w.setCell ⟨b, c + i, none⟩ x).heap.size = w.heap.size := by simp [World.setCell]
        rw [this]
        split
        · rfl
        · rename_i h; rw [if_neg (fun e => h e.symm)]
      rw [this]; rfl
    · cases j with
      | zero =>
        have := g4 (c + i) (by omega)
        simp only [Nat.add_zero, List.getElem?_cons_zero]
        rw [this]; simp [hck]
      | succ j =>
        have := g3 j (by simpa using hj)
        rw [show c + i + (j + 1) = c + (i + 1) + j from by omega, this]; simp
    · simp only [List.length_cons] at hj
      have := g4 j (by omega)
      rw [this, Array.getElem?_setIfInBounds]
      rw [if_neg (by omega)]
theorem VRs.notAgg {ρ : Ren} : ∀ {l : List AV} {xs : List Value}, VRs ρ l xs → (∀ a ∈ l, a.isCell = true) → ∀ x ∈ xs, (∀ vs, x ≠ .agg vs) ∧ ∀ vs, x ≠ .tuple vs
  | _, _, .nil, _, x, hx => by simp at hx
  | _, _, .cons h t, hc, x, hx => by
    rcases List.mem_cons.1 hx with rfl | hx
    · exact h.notAgg (hc _ (by simp))
    · exact t.notAgg (fun a ha => hc a (by simp [ha])) x hx
theorem ldList_of {v : Nat} : ∀ (cs : List Cell) (n : Nat), n ≤ cs.length → (∀ cell ∈ cs, cell.m ≤ v) → ldList v cs n = some ((cs.take n).map (·.v))
  | cs, 0, _, _ => by cases cs <;> simp [ldList]
  | [], n + 1, h, _ => by simp at h
  | c :: cs, n + 1, h, hm => by
    have h1 := ldList_of cs n (by simpa using h) (fun x hx => hm x (by simp [hx]))
    have h2 : Nat.ble c.m v = true := Nat.ble_eq_true_of_le (hm c (by simp))
    simp [ldList, h1, h2]
theorem WR.grow {ρ : Ren} {H : Heap} {w w' : World} {r ver k : Nat} {B' : Blk} {cs : List Cell} {new : List AV} (h : WR ρ H w) (hr : H.get r = some (.row cs ver))
    (hk : k ≤ cs.length) (hnone : ρ r (ver + 1) = none)
    (hB' : B'.b < w'.heap.size)
    (hother : ∀ r' v' B, ρ r' v' = some B → r' ≠ r → B.b ≠ B'.b ∧ w'.heap[B.b]? = w.heap[B.b]?)
    (hsame : ∀ v B, ρ r v = some B → B.b = B'.b → B = B')
    (hold : ∀ v B, ρ r v = some B → RowR ρ (cs.take k) v B w')
    (hnew : RowR ρ (cs.take k ++ new.map (fun a => ⟨ver + 1, a⟩)) (ver + 1) B' w')
    (hsz : w.heap.size ≤ w'.heap.size) :
    WR (ρ.upd r (ver + 1) B') (H.put r (.row (cs.take k ++ new.map (fun a => ⟨ver + 1, a⟩)) (ver + 1))) w' := by
  have hle := Ren.le_upd (B := B') hnone
  obtain ⟨o1, o2, o3⟩ := h.obj r _ hr
  have hcase : ∀ r' v B, ρ.upd r (ver + 1) B' r' v = some B → (r' = r ∧ v = ver + 1 ∧ B = B') ∨ ρ r' v = some B := by
    intro r' v B e
    by_cases e1 : r' = r ∧ v = ver + 1
    · obtain ⟨rfl, rfl⟩ := e1; rw [Ren.upd_self] at e; cases e; exact .inl ⟨rfl, rfl, rfl⟩
    · rw [Ren.upd_ne] at e
      · exact .inr e
      · by_cases e2 : r' = r
        · exact .inr (fun e3 => e1 ⟨e2, e3⟩)
        · exact .inl e2
  have rowmono : ∀ {cs : List Cell} {v : Nat} {B : Blk}, RowR ρ cs v B w' → RowR (ρ.upd r (ver + 1) B') cs v B w' := by
    intro cs v B hR
    obtain ⟨c, el, fr, g1, g2, g3, g4⟩ := hR.ex
    exact ⟨c, el, fr, g1, g2, g3, fun i cell hi hm j hj => let ⟨x, hx, hv⟩ := g4 i cell hi hm j hj; ⟨x, hx, hv.mono hle⟩⟩
  refine ⟨fun r' o' ho' => ?_, fun r' v B e => ?_, fun r1 r2 v1 v2 B1 B2 e1 e2 hne => ?_, fun r' v1 v2 B1 B2 e1 e2 hb => ?_, fun r' o' ho' => ?_⟩
  · rw [Heap.get_put] at ho'
    by_cases e : r' = r
    · subst e
      simp at ho'; subst ho'
      refine ⟨fun cell hc => ?_, fun v hv => ?_, fun v B e => ?_⟩
      · rcases List.mem_append.1 hc with hc | hc
        · have := o1 cell (List.mem_of_mem_take hc); omega
        · obtain ⟨a, _, rfl⟩ := List.mem_map.1 hc; exact Nat.le_refl _
      · by_cases hv' : v = ver + 1
        · subst hv'; exact ⟨B', Ren.upd_self _ _ _ _⟩
        · obtain ⟨B, hB⟩ := o2 v (by omega); exact ⟨B, hle _ _ _ hB⟩
      · rcases hcase r' v B e with ⟨_, rfl, rfl⟩ | e
        · exact ⟨Nat.le_refl _, rowmono hnew⟩
        · have hv := (o3 v B e).1
          refine ⟨by omega, rowmono ?_⟩
          obtain ⟨c, el, fr, g1, g2, g3, g4⟩ := (hold v B e).ex
          refine ⟨c, el, fr, g1, g2, g3, fun i cell hi hm j hj => ?_⟩
          by_cases hik : i < (cs.take k).length
          · rw [List.getElem?_append_left hik] at hi; exact g4 i cell hi hm j hj
          · rw [List.getElem?_append_right (by omega)] at hi
            simp only [List.getElem?_map, Option.map_eq_some_iff] at hi
            obtain ⟨a, _, rfl⟩ := hi
            simp at hm; omega
    · rw [if_neg e] at ho'
      have h2 := (h.obj r' o' ho').heap (w' := w') fun v B hB => (hother r' v B hB e).2
      have hup : ∀ v, ρ.upd r (ver + 1) B' r' v = ρ r' v := fun v => Ren.upd_ne _ _ _ _ (.inl e)
      cases o' with
      | row cs' ver' =>
        refine ⟨h2.1, fun v hv => by rw [hup]; exact h2.2.1 v hv, fun v B hB => ?_⟩
        rw [hup] at hB
        exact ⟨(h2.2.2 v B hB).1, rowmono (h2.2.2 v B hB).2⟩
      | map es clock => obtain ⟨B, es', g1, g2, g3⟩ := h2; exact ⟨B, es', hle _ _ _ g1, g2, g3.mono hle⟩
      | mapIter m since seen st =>
        obtain ⟨B, m', g1, g2, g3⟩ := h2
        refine ⟨B, m', ⟨hle _ _ _ g1.1, g1.2⟩, g2, ?_⟩
        rcases g3 with g3 | ⟨mr, B'', a1, a2, a3⟩
        · exact .inl g3
        · exact .inr ⟨mr, B'', a1, hle _ _ _ a2, a3⟩
      | strIter s pos => obtain ⟨B, s', g1, g2, g3⟩ := h2; exact ⟨B, s', ⟨hle _ _ _ g1.1, g1.2⟩, g2, g3⟩
      | ro cs ob =>
        intro v B' hB'
        rw [hup] at hB'
        exact ⟨(h2 v B' hB').1, (h2 v B' hB').2.mono hle⟩
  · rw [Heap.put_next]
    rcases hcase r' v B e with ⟨rfl, rfl, rfl⟩ | e
    · exact ⟨h.lt _ _ hr, hB'⟩
    · have := h.dom _ _ _ e; exact ⟨this.1, by omega⟩
  · rcases hcase r1 v1 B1 e1 with ⟨q1, q2, q3⟩ | q <;> rcases hcase r2 v2 B2 e2 with ⟨p1, p2, p3⟩ | p
    · exact absurd (q1.trans p1.symm) hne
    · subst q3 q1; exact fun e => (hother r2 v2 B2 p (fun e => hne e.symm)).1 e.symm
    · subst p3 p1; exact (hother r1 v1 B1 q hne).1
    · exact h.inj _ _ _ _ _ _ q p hne
  · rcases hcase r' v1 B1 e1 with ⟨q1, q2, q3⟩ | q <;> rcases hcase r' v2 B2 e2 with ⟨p1, p2, p3⟩ | p
    · rw [q3, p3]
    · subst q3 q1; exact (hsame v2 B2 p hb.symm).symm
    · subst p3 p1; exact hsame v1 B1 q hb
    · exact h.same _ _ _ _ _ q p hb
  · rw [Heap.put_next]
    rw [Heap.get_put] at ho'
    by_cases e : r' = r
    · subst e; exact h.lt _ _ hr
    · rw [if_neg e] at ho'; exact h.lt _ _ ho'
end Go.Ex
namespace Go.Ex
open Go
variable {P : Program}
theorem ldCells_zero {w : World} (a : Addr) : (loadCells a 0).run P w = .ok #[] w := by simp [loadCells, loadCellsFrom]
theorem lenOf_run {ρ : Ren} {y : AV} {y' : Value} {cnt : Nat} {w : World} (hy : VR ρ y y') (h : lenOfA y = some cnt) : (Builtin.lenOf y').run P w = .ok cnt w := by
  cases hy <;> simp [lenOfA] at h <;> subst h <;> simp [Builtin.lenOf]
theorem bytesCells_ok {ρ : Ren} (l : List UInt8) : VRs ρ (bytesToCells (l.map (·.toNat))) (l.map fun b => Value.int .u8 b.toNat) := by
  induction l with
  | nil => exact .nil
  | cons b l ih => exact .cons (.int _ _) ih
theorem firstCells_runs {ρ : Ren} {H : Heap} {w : World} {y : AV} {y' : Value} {n cnt : Nat} {l : List AV} (h : WR ρ H w) (hy : VR ρ y y') (hl : srcCells H n cnt y = some l) :
    ∃ xs : Array Value, (∀ k, (Builtin.firstCells n cnt y').run P { w with drawn := k } = .ok xs { w with drawn := k }) ∧ VRs ρ l xs.toList := by
  cases hy with
  | slice hB hc hn hz hcap =>
    rename_i r v o len cap e B c cc
    simp only [srcCells] at hl
    by_cases hg : (Nat.beq n e && Nat.ble cnt len) = true
    · rw [if_pos hg] at hl
      simp only [Bool.and_eq_true] at hg
      have e1 := Nat.eq_of_beq_eq_true hg.1
      have e2 := Nat.le_of_ble_eq_true hg.2
      rcases hc with hc | ⟨h0, h1⟩
      · obtain ⟨xs, g1, g2⟩ := ldCells_runs (P := P) h hl hB hc
        exact ⟨xs.toArray, fun k => by simpa [Builtin.firstCells] using g1 k, by simpa using g2⟩
      · have : cnt = 0 := by omega
        subst this
        simp only [Nat.zero_mul] at hl
        have : l = [] := by
          unfold ldCells at hl
          split at hl
          · have := (ldList_spec hl).1; exact List.eq_nil_of_length_eq_zero this
          · cases hl
        subst this
        exact ⟨#[], fun k => by simp [Builtin.firstCells, ldCells_zero], .nil⟩
    · rw [if_neg hg] at hl; cases hl
  | nils => simp [srcCells] at hl; subst hl; exact ⟨#[], fun k => by simp [Builtin.firstCells], .nil⟩
  | str s =>
    simp only [srcCells, Option.some.injEq] at hl
    subst hl
    refine ⟨(s.extract 0 cnt).data.map fun b => .int .u8 b.toNat, fun k => by simp [Builtin.firstCells], ?_⟩
    have : (s.data.toList.map (·.toNat)).take cnt = (s.data.toList.take cnt).map (·.toNat) := by rw [List.map_take]
    rw [this]
    have e : ((s.extract 0 cnt).data.map fun b => Value.int .u8 b.toNat).toList = (s.data.toList.take cnt).map fun b => Value.int .u8 b.toNat := by
      simp [ByteArray.data_extract]
    rw [e]
    exact bytesCells_ok _
  | bool b => simp [srcCells] at hl
  | opq a n k => simp [srcCells] at hl
  | int k n => simp [srcCells] at hl
  | ptr h hc => simp [srcCells] at hl
  | nilp => simp [srcCells] at hl
  | map h => simp [srcCells] at hl
  | nilm => simp [srcCells] at hl
  | func ha hb => simp [srcCells] at hl
  | nilf => simp [srcCells] at hl
  | iface h => simp [srcCells] at hl
  | nili => simp [srcCells] at hl
  | agg h => simp [srcCells] at hl
  | tup h => simp [srcCells] at hl
theorem firstCells_run {ρ : Ren} {H : Heap} {w : World} {y : AV} {y' : Value} {n cnt : Nat} {l : List AV} (h : WR ρ H w) (hy : VR ρ y y') (hl : srcCells H n cnt y = some l) :
    ∃ xs : Array Value, (Builtin.firstCells n cnt y').run P w = .ok xs w ∧ VRs ρ l xs.toList :=
  let ⟨xs, h1, h2⟩ := firstCells_runs (P := P) h hy hl; ⟨xs, h1 w.drawn, h2⟩
theorem growBy_le (need : Nat) : ∀ (rounds c : Nat), c ≤ 2 * need + 1024 → Builtin.growBy need rounds c ≤ 2 * need + 1024
  | 0, c, h => by simpa [Builtin.growBy] using h
  | rounds + 1, c, h => by
    simp only [Builtin.growBy]
    split
    · exact h
    · exact growBy_le need rounds _ (by omega)
theorem nextcap_le {need cap : Nat} (h : cap < need) : Builtin.nextslicecap need cap ≤ 2 * need + 1024 := by
  unfold Builtin.nextslicecap
  split
  · omega
  · split
    · omega
    · exact growBy_le _ _ _ (by omega)
theorem run_askRoom (n : Nat) (w : World) : (askRoom n).run P w = .ok () w := by
  unfold askRoom; split
  · rfl
  · rfl
def AppTypes (P : Program) (ats : Array TypeId) (e : TypeId) (n b : Nat) (z : AV) : Prop :=
  ∃ sT xT d, ats[0]? = some sT ∧ ats[1]? = some xT ∧ P.underlying sT = some (.slice e) ∧ P.underlying xT = some d ∧ (∀ k, d ≠ .int k) ∧ zeroA P e = some z ∧ z.cells.length = n ∧ n = P.cellsOf e ∧ b = P.bytesOf e ∧ b ≠ 0
theorem noInt (d : TypeDesc) (h : ∀ k, d ≠ .int k) : (match d with | .int _ => true | _ => false) = false := by
  cases d <;> first | rfl | exact absurd rfl (h _)
theorem append_fits {ρ : Ren} {w w' : World} {ats : Array TypeId} {ty : TypeId} {e : TypeId} {n b cnt : Nat} {z : AV} {base : Option Addr} {sLen sCap : Nat} {y : AV} {y' : Value} {xs : Array Value}
    (ht : AppTypes P ats e n b z) (hy : VR ρ y y') (hl : lenOfA y = some cnt) (hf : (Builtin.firstCells n cnt y').run P w = .ok xs w) (hfit : sLen + cnt ≤ sCap)
    (hst : (match base with | some a => storeCells (a.add (sLen * n)) xs.toList | none => pure ()).run P w = .ok () w') :
    (Builtin.append_ ats ty #[.slice base sLen sCap, y']).run P w = .ok (.slice base (sLen + cnt) sCap) w' := by
  obtain ⟨sT, xT, d, h0, h1, h2, h3, h4, h5, h6, h7, h8, h9⟩ := ht
  obtain ⟨i, hi⟩ := info_of_under h2
  have hsz : ∃ i, P.info? e = some i := let ⟨i, _, hi, _⟩ := zeroA_ok (ρ := ρ) h5; ⟨i, hi⟩
  obtain ⟨ie, hie⟩ := hsz
  subst h7
  have hsz : ∀ w : World, (sizeOf e).run P w = .ok (P.cellsOf e) w := fun w => run_size hie
  cases base with
  | none =>
    simp only [Sem.run_pure] at hst
    cases hst
    cases d <;> first | exact absurd rfl (h4 _) | (
      simp only [Builtin.append_, List.getElem?_toArray, List.getElem?_cons_zero, List.getElem?_cons_succ, h0, h1, Sem.run_bind, run_under h2, run_under h3, hsz, Result.andThen_ok, lenOf_run hy hl, Sem.run_pure, Bool.false_eq_true, if_false, hfit, if_true, Bool.not_false, hf])
  | some a =>
    simp only at hst
    cases d <;> first | exact absurd rfl (h4 _) | (
      simp only [Builtin.append_, List.getElem?_toArray, List.getElem?_cons_zero, List.getElem?_cons_succ, h0, h1, Sem.run_bind, run_under h2, run_under h3, hsz, Result.andThen_ok, lenOf_run hy hl, Sem.run_pure, Bool.false_eq_true, if_false, hfit, if_true, Bool.not_false, hf, hst])
theorem append_grows {ρ : Ren} {w : World} {ats : Array TypeId} {ty : TypeId} {e : TypeId} {n b cnt : Nat} {z : AV} {base : Option Addr} {sLen sCap : Nat} {y : AV} {y' : Value} {xs ys : Array Value}
    (ht : AppTypes P ats e n b z) (hy : VR ρ y y') (hl : lenOfA y = some cnt) (hbig : ¬ sLen + cnt ≤ sCap) (hsm : (sLen + cnt) * b ≤ 68719476736)
    (hf : ∀ k, (Builtin.firstCells n cnt y').run P { w with drawn := k } = .ok xs { w with drawn := k })
    (ho : ∀ k, (Builtin.firstCells n sLen (.slice base sLen sCap)).run P { w with drawn := k } = .ok ys { w with drawn := k }) :
    ∃ (nc : Nat) (rest : Array Value), sLen + cnt ≤ nc ∧ rest.size = (nc - (sLen + cnt)) * n ∧
    (Builtin.append_ ats ty #[.slice base sLen sCap, y']).run P w = .ok (.slice (some ⟨w.heap.size, 0, none⟩) (sLen + cnt) nc)
      { w with drawn := w.drawn + 1, heap := w.heap.push (.cells (ys ++ xs ++ rest) e) } := by
  obtain ⟨sT, xT, d, h0, h1, h2, h3, h4, h5, h6, h7, h8, h9⟩ := ht
  obtain ⟨ie, v, hie, hzv, hvz⟩ := zeroA_ok (ρ := ρ) h5
  have hb : ie.bytes = b := by rw [h8]; simp [Program.bytesOf, hie]
  have hzsz : v.cells.size = n := by rw [← h6, hvz.cells.length]; simp
  let nc := (Question.appendCap (sLen + cnt) sCap e).cut (w.tape w.drawn (.appendCap (sLen + cnt) sCap e))
  have hnc : sLen + cnt ≤ nc := by show _ ≤ sLen + cnt + _ ; omega
  refine ⟨nc, Builtin.zeroCells v.cells (nc - (sLen + cnt)), hnc, by simp [Builtin.zeroCells, hzsz], ?_⟩
  have hsz : ∀ w : World, (sizeOf e).run P w = .ok n w := fun w => by rw [run_size hie, ← h7]
  have hc1 : ¬ (((sLen + cnt : Nat) : Int) > IntKind.i64.max ∧ (False ∨ ie.bytes = 0)) := by
    rintro ⟨_, h | h⟩
    · exact h
    · rw [hb] at h; exact h9 h
  have hc2 : ¬ (Builtin.nextslicecap (sLen + cnt) sCap * ie.bytes > 2 ^ 48) := by
    rw [hb]
    have e1 := nextcap_le (need := sLen + cnt) (cap := sCap) (by omega)
    have e2 : Builtin.nextslicecap (sLen + cnt) sCap * b ≤ (2 * (sLen + cnt) + 1024) * b := Nat.mul_le_mul_right _ e1
    have e3 : (2 * (sLen + cnt) + 1024) * b ≤ 2 * ((sLen + cnt) * b) + 1024 * ((sLen + cnt) * b) := by
      have : 1 ≤ sLen + cnt := by omega
      have : b ≤ (sLen + cnt) * b := Nat.le_mul_of_pos_left _ (by omega)
      rw [Nat.add_mul, Nat.mul_assoc]; omega
    omega
  have hch : (choose (.appendCap (sLen + cnt) sCap e)).run P w = .ok nc { w with drawn := w.drawn + 1 } := by
    simp [choose, Sem.run, Question.forced, nc]
  have hz0 : ∀ w : World, (zeroValue e).run P w = .ok v w := fun w => run_zero hie hzv
  have hti : ∀ w : World, (typeInfo e).run P w = .ok ie w := fun w => run_info hie
  cases d <;> first | exact absurd rfl (h4 _) | (
    simp only [Builtin.append_, List.getElem?_toArray, List.getElem?_cons_zero, List.getElem?_cons_succ, h0, h1, Sem.run_bind, run_under h2, run_under h3, hsz, Result.andThen_ok, lenOf_run hy hl, Sem.run_pure, Bool.false_eq_true, if_false, if_true, Bool.not_false, Sem.run_ite, hbig, hti, hc1, hc2, hch, run_askRoom, hf, ho, hz0, newRow, newObj, Sem.run])
end Go.Ex
namespace Go.Ex
open Go
variable {P : Program}
theorem srcCells_length {H : Heap} {n cnt : Nat} {y : AV} {l : List AV} (h : srcCells H n cnt y = some l) (hl : lenOfA y = some cnt) (hn : n = 1 ∨ ∀ s, y ≠ .str s) : l.length = cnt * n := by
  cases y <;> simp only [srcCells, lenOfA] at h hl <;> try cases hl
  · rename_i s
    cases h
    rcases hn with rfl | hn
    · simp [bytesToCells]
    · exact absurd rfl (hn s)
  · split at h
    · unfold ldCells at h
      split at h
      · exact (ldList_spec h).1
      · cases h
    · cases h
  · cases h; simp
theorem nobody {ρ : Ren} {H : Heap} {w : World} (h : WR ρ H w) (r v : Nat) (cs : List Cell) (ver : Nat) (hr : H.get r = some (.row cs ver)) (hv : ver < v) : ρ r v = none := by
  cases e : ρ r v with
  | none => rfl
  | some B => have := ((h.obj r _ hr).2.2 v B e).1; omega
theorem fresh_old_new (l l' : List AV) (ys xs rest : Array Value) {ρ : Ren} (h1 : VRs ρ l ys.toList) (h2 : VRs ρ l' xs.toList) :
    ∀ (i : Nat) (a : AV), (l ++ l')[i]? = some a → ∃ x, (ys ++ xs ++ rest)[i]? = some x ∧ VR ρ a x := by
  intro i a ha
  obtain ⟨x, hx, hv⟩ := (h1.append h2).get i a ha
  refine ⟨x, ?_, hv⟩
  have : (ys.toList ++ xs.toList)[i]? = (ys ++ xs)[i]? := by rw [← Array.toList_append, Array.getElem?_toList]
  rw [this] at hx
  have hi : i < (ys ++ xs).size := by
    rcases Nat.lt_or_ge i (ys ++ xs).size with e | e
    · exact e
    · rw [Array.getElem?_eq_none e] at hx; cases hx
  rw [Array.getElem?_append_left hi]; exact hx
theorem WR.at {ρ : Ren} {H : Heap} {w : World} (h : WR ρ H w) (k : Nat) : WR ρ H { w with drawn := k } := h.drew k
theorem append_new {ρ : Ren} {H : Heap} {w : World} {ats : Array TypeId} {ty : TypeId} {e : TypeId} {n b cnt len cc : Nat} {z : AV} {base : Option Addr} {y : AV} {y' : Value} {old new : List AV}
    (h : WR ρ H w) (ht : AppTypes P ats e n b z) (hy : VR ρ y y') (hl : lenOfA y = some cnt) (hnew : srcCells H n cnt y = some new) (hbig : ¬ len + cnt ≤ cc) (hsm : (len + cnt) * b ≤ 68719476736)
    (hln : old.length = len * n) (hln' : new.length = cnt * n)
    (ho : ∃ ys : Array Value, (∀ k, (Builtin.firstCells n len (.slice base len cc)).run P { w with drawn := k } = .ok ys { w with drawn := k }) ∧ VRs ρ old ys.toList) :
    OpOK P ρ w (Builtin.append_ ats ty #[.slice base len cc, y']) (.slice H.next 0 0 (len + cnt) 0 n) (H.new (.row (freshCells (old ++ new)) 0)).2 := by
  obtain ⟨ys, hys, hvy⟩ := ho
  have hxs := firstCells_runs (P := P) h hy hnew
  obtain ⟨xs, hxs, hvx⟩ := hxs
  obtain ⟨nc, rest, e1, e2, e3⟩ := append_grows (ρ := ρ) (ty := ty) (base := base) (sCap := cc) (sLen := len) ht hy hl hbig hsm hxs hys
  have hw := h.at (w.drawn + 1)
  have g := hw.newRow (c := ys ++ xs ++ rest) (el := e) (fr := (0, 0)) (fresh_old_new old new ys xs rest hvy hvx) (by intro i hi; simp)
  obtain ⟨g1, g2, g3, g4⟩ := g
  have hsy : ys.size = len * n := by rw [← hln, hvy.length]; simp
  have hsx : xs.size = cnt * n := by rw [← hln', hvx.length]; simp
  refine ⟨_, _, _, e3, g2, ?_, .slice (c := 0) (cc := nc) (Ren.upd_self _ _ _ _) (.inl (by simp)) e1 ?_ (.inl rfl), g1, ?_⟩
  · intro r v B hB; rcases g3 r v B hB with q | q
    · exact .inl q
    · exact .inr q
  · simp only [Array.size_append, hsy, hsx, e2, Nat.zero_add]
    rw [← Nat.add_mul, ← Nat.add_mul]
    exact Nat.le_of_eq (congrArg (· * n) (by omega))
  · exact ⟨g4.size, g4.keep, g4.tape, g4.os, g4.out, g4.kind⟩
theorem append_ok {ρ : Ren} {H H' : Heap} {w : World} {ats : Array TypeId} {ty : TypeId} {e : TypeId} {n b : Nat} {z : AV} {x y v : AV} {x' y' : Value}
    (h : WR ρ H w) (ht : AppTypes P ats e n b z) (hstr : n = 1 ∨ ∀ s, y ≠ .str s) (hx : VR ρ x x') (hy : VR ρ y y') (ha : aAppend H n b x y = some (v, H')) :
    OpOK P ρ w (Builtin.append_ ats ty #[x', y']) v H' := by
  unfold aAppend at ha
  cases hl : lenOfA y with
  | none => simp [hl] at ha
  | some cnt =>
    simp only [hl] at ha
    have hsrc0 : cnt = 0 → ∃ xs : Array Value, (Builtin.firstCells n cnt y').run P w = .ok xs w ∧ xs.toList = [] := by
      intro h0; subst h0
      cases hy <;> simp [lenOfA] at hl
      · exact ⟨_, by simp [Builtin.firstCells]; rfl, by simp⟩
      · exact ⟨#[], by simp [Builtin.firstCells, ldCells_zero], rfl⟩
      · exact ⟨#[], by simp [Builtin.firstCells], rfl⟩
    cases hx with
    | nils =>
      simp only at ha
      by_cases h0 : Nat.beq cnt 0 = true
      · rw [if_pos h0] at ha
        have h0 := Nat.eq_of_beq_eq_true h0
        obtain ⟨xs, g1, g2⟩ := hsrc0 h0
        cases ha
        subst h0
        exact .pure (v' := .slice none 0 0) h (append_fits (ρ := ρ) (base := none) (sLen := 0) (sCap := 0) (ty := ty) (w' := w) ht hy hl g1 (Nat.le_refl _) (by simp)) .nils
      · rw [if_neg h0] at ha
        by_cases hs : Nat.ble (cnt * b) 68719476736 = true
        · rw [if_pos hs] at ha
          cases hn : srcCells H n cnt y with
          | none => simp [hn] at ha
          | some new =>
            simp only [hn, Option.some.injEq, Prod.mk.injEq] at ha
            obtain ⟨rfl, rfl⟩ := ha
            have hc0 : cnt ≠ 0 := fun e => h0 (by subst e; rfl)
            have := append_new (P := P) (ty := ty) (old := []) (base := none) (len := 0) (cc := 0) h ht hy hl hn (by omega) (by simpa using Nat.le_of_ble_eq_true hs) (by simp) (srcCells_length hn hl hstr)
              ⟨#[], fun k => by simp [Builtin.firstCells], .nil⟩
            simpa [Heap.new_fst] using this
        · rw [if_neg hs] at ha; cases ha
    | slice hB hc hnc hz hcap =>
      rename_i r vv o len capk el B c cc
      simp only at ha
      by_cases h0 : Nat.beq cnt 0 = true
      · rw [if_pos h0] at ha
        have h0 := Nat.eq_of_beq_eq_true h0
        obtain ⟨xs, g1, g2⟩ := hsrc0 h0
        cases ha
        subst h0
        refine .pure (v' := .slice (some ⟨B.b, c, none⟩) len cc) h ?_ (.slice hB hc hnc hz hcap)
        exact append_fits (ρ := ρ) (base := some ⟨B.b, c, none⟩) (sLen := len) (sCap := cc) (ty := ty) (w' := w) ht hy hl g1 (by omega) (by simp [g2, storeCells])
      · rw [if_neg h0] at ha
        have hc0 : cnt ≠ 0 := fun e => h0 (by subst e; rfl)
        by_cases hs : (Nat.beq n el && Nat.ble ((len + cnt) * b) 68719476736) = true
        · rw [if_pos hs] at ha
          simp only [Bool.and_eq_true] at hs
          have hne := Nat.eq_of_beq_eq_true hs.1
          have hsm := Nat.le_of_ble_eq_true hs.2
          subst hne
          cases hn : srcCells H n cnt y with
          | none => simp [hn] at ha
          | some new =>
            simp only [hn] at ha
            have hln := srcCells_length hn hl hstr
            obtain ⟨xs, hxs, hvx⟩ := firstCells_runs (P := P) h hy hn
            by_cases hk : Nat.beq capk 0 = true
            · rw [if_pos hk] at ha
              split at ha
              · rename_i cs ver hr
                by_cases hg : (Nat.beq vv ver && Nat.ble (o + len * n) cs.length && new.all AV.isCell) = true
                · rw [if_pos hg] at ha
                  simp only [Bool.and_eq_true] at hg
                  have e1 := Nat.eq_of_beq_eq_true hg.1.1
                  have e2 := Nat.le_of_ble_eq_true hg.1.2
                  have e3 : ∀ a ∈ new, a.isCell = true := by simpa using hg.2
                  subst e1
                  cases ha
                  obtain ⟨q1, q2, q3⟩ := h.obj r _ hr
                  obtain ⟨_, k, elx, fr, f1, f2, f3, f4⟩ := q3 vv B hB
                  have hnone : ρ r (vv + 1) = none := nobody h r (vv + 1) cs vv hr (by omega)
                  by_cases hfit : len + cnt ≤ cc
                  ·
                    have hc : (c : Int) = o + B.s := by rcases hc with hc | hc; exact hc; omega
                    have hxl : xs.toList.length = cnt * n := by rw [← hvx.length, hln]
                    have hle : (len + cnt) * n ≤ cc * n := Nat.mul_le_mul_right _ hfit
                    rw [Nat.add_mul] at hle
                    obtain ⟨k', s1, s2, s3, s4⟩ := storeCells_conc (P := P) (c := c + len * n) xs.toList 0 k w f1 (by omega) f3 (hvx.notAgg e3)
                    rw [Nat.add_zero] at s3 s4
                    have hbs : B.b < w.heap.size := (h.dom _ _ _ hB).2
                    refine ⟨.slice (some ⟨B.b, c, none⟩) (len + cnt) cc, { w with heap := w.heap.setIfInBounds B.b (.cells k' elx fr) }, ρ.upd r (vv + 1) B,
                      append_fits (ρ := ρ) (base := some ⟨B.b, c, none⟩) (ty := ty) ht hy hl (hxs w.drawn) hfit (by simp only [add_none]; exact s1), Ren.le_upd hnone, ?_, .slice (Ren.upd_self _ _ _ _) (.inl hc) hfit hz (.inl rfl), ?_, ?_⟩
                    · intro r' v' B' e
                      by_cases e' : r' = r ∧ v' = vv + 1
                      · obtain ⟨rfl, rfl⟩ := e'; rw [Ren.upd_self] at e; cases e; exact .inl ⟨vv, hB⟩
                      · rw [Ren.upd_ne] at e
                        · exact .inl ⟨v', e⟩
                        · by_cases e2 : r' = r
                          · exact .inr (fun e3 => e' ⟨e2, e3⟩)
                          · exact .inl e2
                    · have hkey : ∀ v1 B1, ρ r v1 = some B1 → B1.b = B.b → B1 = B := fun v1 B1 hB1 e => h.same _ _ _ _ _ hB1 hB e
                      have hheap : ∀ j, ({ w with heap := w.heap.setIfInBounds B.b (.cells k' elx fr) } : World).heap[j]? = if j = B.b then some (.cells k' elx fr) else w.heap[j]? := by
                        intro j
                        show (w.heap.setIfInBounds B.b (.cells k' elx fr))[j]? = _
                        rw [Array.getElem?_setIfInBounds]
                        by_cases e : B.b = j
                        · subst e; simp [hbs]
                        · rw [if_neg e, if_neg (fun e' => e e'.symm)]
                      have hRow : ∀ v1, v1 ≤ vv + 1 → ∀ (hsub : ∀ (i : Nat) (cell : Cell), cs[i]? = some cell → cell.m ≤ v1 → cell.m ≤ vv), RowR ρ (cs.take (o + len * n)) v1 B { w with heap := w.heap.setIfInBounds B.b (.cells k' elx fr) } := by
                        intro v1 hv1 hsub
                        refine ⟨k', elx, fr, by rw [hheap]; simp, by rw [s2]; exact f2, by rw [s2]; exact f3, fun i cell hi hm j hj => ?_⟩
                        rw [List.getElem?_take] at hi
                        split at hi
                        · rename_i hik
                          obtain ⟨y, hy1, hy2⟩ := f4 i cell hi (hsub i cell hi hm) j hj
                          refine ⟨y, ?_, hy2⟩
                          rw [s4 j (.inl (by omega))]; exact hy1
                        · cases hi
                      refine WR.grow (B' := B) h hr e2 hnone (by simpa using hbs) (fun r' v' B1 hB1 hne => ⟨h.inj _ _ _ _ _ _ hB1 hB hne, by rw [hheap, if_neg (h.inj _ _ _ _ _ _ hB1 hB hne)]⟩) hkey (fun v1 B1 hB1 => ?_) ?_ (by simp)
                      · by_cases eb : B1.b = B.b
                        · have := hkey v1 B1 hB1 eb
                          subst this
                          have := (q3 v1 B1 hB1).1
                          obtain ⟨g0⟩ := hRow (vv + 1) (Nat.le_refl _) (fun i cell hi hm => q1 cell (List.mem_of_getElem? hi))
                          obtain ⟨c1, el1, fr1, w1, w2, w3, w4⟩ := g0
                          exact ⟨c1, el1, fr1, w1, w2, w3, fun i cell hi hm j hj => w4 i cell hi (by omega) j hj⟩
                        · obtain ⟨c1, el1, fr1, w1, w2, w3, w4⟩ := (q3 v1 B1 hB1).2.ex
                          refine ⟨c1, el1, fr1, by rw [hheap, if_neg eb]; exact w1, w2, w3, fun i cell hi hm j hj => ?_⟩
                          rw [List.getElem?_take] at hi
                          split at hi
                          · exact w4 i cell hi hm j hj
                          · cases hi
                      · obtain ⟨c1, el1, fr1, w1, w2, w3, w4⟩ := (hRow (vv + 1) (Nat.le_refl _) (fun i cell hi hm => q1 cell (List.mem_of_getElem? hi))).ex
                        have hck : c1 = k' := by rw [hheap] at w1; simp at w1; exact w1.1.symm
                        subst hck
                        refine ⟨c1, el1, fr1, w1, w2, w3, fun i cell hi hm j hj => ?_⟩
                        have hlt : (cs.take (o + len * n)).length = o + len * n := by simp; omega
                        by_cases hik : i < o + len * n
                        · rw [List.getElem?_append_left (by omega)] at hi; exact w4 i cell hi hm j hj
                        · rw [List.getElem?_append_right (by omega), hlt] at hi
                          simp only [List.getElem?_map, Option.map_eq_some_iff] at hi
                          obtain ⟨a, ha, rfl⟩ := hi
                          obtain ⟨y, hy1, hy2⟩ := hvx.get _ _ ha
                          have hlen : i - (o + len * n) < xs.toList.length := (List.getElem?_eq_some_iff.1 hy1).1
                          have := s3 _ hlen
                          refine ⟨y, ?_, hy2⟩
                          rw [← hy1, ← this]; congr 1; omega
                    · exact ⟨by simp, fun b hb hx => by
                        show (w.heap.setIfInBounds B.b (.cells k' elx fr))[b]? = _
                        rw [Array.getElem?_setIfInBounds, if_neg (hx r vv B hB)], rfl, rfl, rfl, fun b kk el2 fr2 e => by
                        show ∃ c', (w.heap.setIfInBounds B.b (.cells k' elx fr))[b]? = some (.cells c' el2 fr2)
                        rw [Array.getElem?_setIfInBounds]
                        by_cases hb : B.b = b
                        · rw [if_pos hb]; rw [← hb, f1] at e; cases e; exact ⟨k', by rw [if_pos hbs]⟩
                        · rw [if_neg hb]; exact ⟨kk, e⟩⟩
                  ·
                    have hys : ∃ ys : Array Value, (∀ k, (Builtin.firstCells n len (.slice (some ⟨B.b, c, none⟩) len cc)).run P { w with drawn := k } = .ok ys { w with drawn := k }) ∧ VRs ρ (((cs.drop o).take (len * n)).map (·.v)) ys.toList := by
                      have hld : ldCells H r vv o (len * n) = some (((cs.drop o).take (len * n)).map (·.v)) := by
                        unfold ldCells; rw [hr]
                        exact ldList_of _ _ (by simp; omega) (fun cell hc => q1 cell (List.mem_of_mem_drop hc))
                      rcases hc with hc | ⟨p1, p2⟩
                      · obtain ⟨ys, y1, y2⟩ := ldCells_runs (P := P) h hld hB hc
                        exact ⟨ys.toArray, fun k => by simpa [Builtin.firstCells] using y1 k, by simpa using y2⟩
                      · subst p1
                        exact ⟨#[], fun k => by simp [Builtin.firstCells, ldCells_zero], by simpa using VRs.nil⟩
                    obtain ⟨ys, hys, hvy⟩ := hys
                    obtain ⟨nc, rest, e4, e5, e6⟩ := append_grows (ρ := ρ) (ty := ty) (base := some ⟨B.b, c, none⟩) (sCap := cc) (sLen := len) ht hy hl hfit hsm hxs hys
                    have hsy : ys.size = len * n := by
                      have := hvy.length; simp at this; rw [← this]; omega
                    have hsx : xs.size = cnt * n := by rw [← hln, hvx.length]; simp
                    let B' : Blk := ⟨w.heap.size, -(o : Int), (ys ++ xs ++ rest).size⟩
                    have hheap : ∀ j, ({ w with drawn := w.drawn + 1, heap := w.heap.push (.cells (ys ++ xs ++ rest) e) } : World).heap[j]? = if j = w.heap.size then some (.cells (ys ++ xs ++ rest) e) else w.heap[j]? := by
                      intro j; exact heap_push w _ j
                    refine ⟨_, _, ρ.upd r (vv + 1) B', e6, Ren.le_upd hnone, ?_, .slice (c := 0) (cc := nc) (B := B') (Ren.upd_self _ _ _ _) (.inl (by simp [B']; omega)) e4 ?_ (.inl rfl), ?_, ?_⟩
                    · intro r' v' B1 e
                      by_cases e' : r' = r ∧ v' = vv + 1
                      · obtain ⟨rfl, rfl⟩ := e'; rw [Ren.upd_self] at e; cases e; exact .inr (Nat.le_refl _)
                      · rw [Ren.upd_ne] at e
                        · exact .inl ⟨v', e⟩
                        · by_cases e2 : r' = r
                          · exact .inr (fun e3 => e' ⟨e2, e3⟩)
                          · exact .inl e2
                    · simp only [B', Array.size_append, hsy, hsx, e5, Nat.zero_add]
                      rw [← Nat.add_mul, ← Nat.add_mul]
                      exact Nat.le_of_eq (congrArg (· * n) (by omega))
                    · refine WR.grow (B' := B') h hr e2 hnone (by simp [B']) (fun r' v' B1 hB1 hne => ?_) (fun v1 B1 hB1 e => ?_) (fun v1 B1 hB1 => ?_) ?_ (by simp)
                      · have := (h.dom _ _ _ hB1).2
                        have hne : B1.b ≠ w.heap.size := by omega
                        exact ⟨hne, by rw [hheap, if_neg hne]⟩
                      · have := (h.dom _ _ _ hB1).2
                        simp [B'] at e; omega
                      · have := (h.dom _ _ _ hB1).2
                        have hne : B1.b ≠ w.heap.size := by omega
                        obtain ⟨c1, el1, fr1, w1, w2, w3, w4⟩ := (q3 v1 B1 hB1).2.ex
                        refine ⟨c1, el1, fr1, by rw [hheap, if_neg hne]; exact w1, w2, w3, fun i cell hi hm j hj => ?_⟩
                        rw [List.getElem?_take] at hi
                        split at hi
                        · exact w4 i cell hi hm j hj
                        · cases hi
                      · refine ⟨ys ++ xs ++ rest, e, (0, 0), by rw [hheap]; simp [B'], rfl, by intro i hi; simp, fun i cell hi hm j hj => ?_⟩
                        have hlt : (cs.take (o + len * n)).length = o + len * n := by simp; omega
                        simp only [B'] at hj
                        have hoi : o ≤ i := by omega
                        have hji : j = i - o := by omega
                        have hall : (((cs.drop o).take (len * n)).map (·.v) ++ new)[j]? = some cell.v := by
                          by_cases hik : i < o + len * n
                          · rw [List.getElem?_append_left (by omega)] at hi
                            rw [List.getElem?_append_left (by simp; omega)]
                            rw [List.getElem?_take] at hi
                            rw [List.getElem?_map, List.getElem?_take, List.getElem?_drop]
                            have : o + j = i := by omega
                            rw [this]
                            rw [if_pos hik] at hi
                            rw [if_pos (by omega), hi]; rfl
                          · rw [List.getElem?_append_right (by omega), hlt] at hi
                            simp only [List.getElem?_map, Option.map_eq_some_iff] at hi
                            obtain ⟨a, ha, rfl⟩ := hi
                            rw [List.getElem?_append_right (by simp; omega)]
                            rw [← ha]; congr 1; simp; omega
                        exact fresh_old_new _ _ ys xs rest hvy hvx j _ hall
                    · exact ⟨by simp, fun b hb hx => by rw [hheap, if_neg (by omega)], rfl, rfl, rfl, .of_keep fun b hb => by rw [hheap, if_neg (by omega)]⟩
                · rw [if_neg hg] at ha; cases ha
              · cases ha
            · rw [if_neg hk] at ha
              have hcap : capk = cc + 1 := by
                rcases hcap with e | e
                · exact absurd (by subst e; rfl) hk
                · exact e
              subst hcap
              by_cases hfit : Nat.ble (len + cnt + 1) (cc + 1) = true
              · rw [if_pos hfit] at ha
                have hfit := Nat.le_of_ble_eq_true hfit
                cases hst : stCells H r vv (o + len * n) new with
                | none => simp [hst] at ha
                | some H1 =>
                  simp only [hst] at ha
                  cases ha
                  obtain ⟨cs, cs', hr, hst', rfl⟩ := stCells_get hst
                  have hc : (c : Int) = o + B.s := by rcases hc with hc | hc; exact hc; omega
                  obtain ⟨w', r1, r2, r3⟩ := storeCells_run (P := P) new xs.toList H w cs (o + len * n) (c + len * n) 0 cs' h hr hB (by push_cast; omega) hst' hvx
                  exact ⟨.slice (some ⟨B.b, c, none⟩) (len + cnt) cc, w', ρ, append_fits (ρ := ρ) (base := some ⟨B.b, c, none⟩) (ty := ty) ht hy hl (hxs w.drawn) (by omega) (by simp only [add_none]; exact r1),
                    ρ.le_refl, ρ.newer_refl w, .slice hB (.inl hc) (by omega) hz (.inr rfl), r2, r3⟩
              · rw [if_neg hfit] at ha
                have hfit : ¬ len + cnt ≤ cc := fun e => hfit (Nat.ble_eq_true_of_le (by omega))
                cases hld : ldCells H r vv o (len * n) with
                | none => simp [hld] at ha
                | some old =>
                  simp only [hld] at ha
                  cases ha
                  have hol : old.length = len * n := by
                    unfold ldCells at hld
                    split at hld
                    · exact (ldList_spec hld).1
                    · cases hld
                  have := append_new (P := P) (ty := ty) (old := old) (base := some ⟨B.b, c, none⟩) (len := len) (cc := cc) h ht hy hl hn hfit hsm hol hln (by
                    rcases hc with hc | ⟨p1, p2⟩
                    · obtain ⟨ys, y1, y2⟩ := ldCells_runs (P := P) h hld hB hc
                      exact ⟨ys.toArray, fun k => by simpa [Builtin.firstCells] using y1 k, by simpa using y2⟩
                    · subst p1
                      have : old = [] := List.eq_nil_of_length_eq_zero (by simpa using hol)
                      subst this
                      exact ⟨#[], fun k => by simp [Builtin.firstCells, ldCells_zero], .nil⟩)
                  simpa [Heap.new_fst] using this
        · rw [if_neg hs] at ha; cases ha
    | bool b => simp at ha
    | int k n => simp at ha
    | str s => simp at ha
    | ptr h hc => simp at ha
    | nilp => simp at ha
    | map h => simp at ha
    | nilm => simp at ha
    | opq a n k => simp at ha
    | func ha hb => simp at ha
    | nilf => simp at ha
    | iface h => simp at ha
    | nili => simp at ha
    | agg h => simp at ha
    | tup h => simp at ha
end Go.Ex
end
