/-
  A functional interpreter over an own small code ('F-code'): definitions alone. Nothing is claimed here.
-/
import GoSem.Dispatch
set_option linter.unusedVariables false
set_option linter.unusedSimpArgs false
namespace Fi
open Go

/-- Pure data: no addresses. -/
inductive D where
  | v (x : Value)
  | fn (g : Nat)
  | n (sz : Nat)
  | i
  | s (sz : Nat) (es : List D)
  | a (cs : List D)
  | t (vs : List D)
  deriving Inhabited

inductive Ref where
  | loc (i : Nat)
  | old (i : Nat)
  deriving DecidableEq, Inhabited

def Ref.abs (n : Nat) : Ref → Nat
  | .loc i => n + i
  | .old i => i

/-- Values of a running call. -/
inductive FV where
  | u
  | d (x : D)
  | r (p : Ref) (off : Nat)
  | e (p : Ref) (ver sz i off : Nat)
  | rc (x : D)
  | ls (p : Ref) (ver sz off n : Nat)
  | f (g : Nat) (first captured : List FV)
  | a (cs : List FV)
  | t (vs : List FV)
  deriving Inhabited

inductive AObj where
  | box (cs : List FV)
  | row (ver sz : Nat) (es : List D)
  | frz (ver sz : Nat) (es : List D)
  deriving Inhabited

def D.cells : D → List D
  | .a cs => cs
  | x => [x]

def FV.cells : FV → List FV
  | .a cs => cs
  | .d (.a cs) => cs.map .d
  | x => [x]

def allD : List FV → Option (List D)
  | [] => some []
  | .d x :: r => match allD r with
    | some ds => some (x :: ds)
    | none => none
  | _ => none

def mkA (cs : List FV) : FV :=
  match allD cs with
  | some ds => .d (.a ds)
  | none => .a cs

def mkT (cs : List FV) : FV :=
  match allD cs with
  | some ds => .d (.t ds)
  | none => .t cs

/-- A nil slice reads as an empty one, once it leaves a call. -/
def D.norm1 : D → D
  | .n sz => .s sz []
  | x => x

def D.norm : D → D
  | .n sz => .s sz []
  | .a cs => .a (cs.map D.norm1)
  | .t cs => .t (cs.map D.norm1)
  | x => x

def oneV : Value → Bool
  | .agg _ | .tuple _ => false
  | _ => true

/-- One cell of memory holds it. -/
def D.one : D → Bool
  | .v x => oneV x
  | .a _ | .t _ => false
  | _ => true

def FV.one : FV → Bool
  | .d x => x.one
  | .r _ _ | .e _ _ _ _ _ | .rc _ | .ls _ _ _ _ _ | .f _ _ _ => true
  | .u | .a _ | .t _ => false

/-- Part of a row of cells: one cell, or an aggregate of n cells. -/
def partD (cs : List D) (agg : Bool) (off n : Nat) : Option D :=
  if agg then (if off + n ≤ cs.length then some (.a ((cs.drop off).take n)) else none) else cs[off]?

def partF (cs : List FV) (agg : Bool) (off n : Nat) : Option FV :=
  if agg then (if off + n ≤ cs.length then some (mkA ((cs.drop off).take n)) else none) else cs[off]?

def splice {α : Type} (cs : List α) (off : Nat) (xs : List α) : List α := cs.take off ++ xs ++ cs.drop (off + xs.length)

mutual
def FV.toOld (n : Nat) : FV → FV
  | .r (.loc i) off => .r (.old (n + i)) off
  | .e (.loc i) ver sz j off => .e (.old (n + i)) ver sz j off
  | .ls (.loc i) ver sz off len => .ls (.old (n + i)) ver sz off len
  | .f g first captured => .f g (FV.toOldL n first) (FV.toOldL n captured)
  | .a cs => .a (FV.toOldL n cs)
  | .t cs => .t (FV.toOldL n cs)
  | x => x
def FV.toOldL (n : Nat) : List FV → List FV
  | [] => []
  | x :: xs => FV.toOld n x :: FV.toOldL n xs
end

def AObj.toOld (n : Nat) : AObj → AObj
  | .box cs => .box (FV.toOldL n cs)
  | o => o

mutual
/-- What a call in an empty heap has made, seen from its caller, who holds m objects of its own. -/
def FV.shift (m : Nat) : FV → FV
  | .r (.old i) off => .r (.loc (m + i)) off
  | .r (.loc i) off => .r (.loc (m + i)) off
  | .e (.old i) ver sz j off => .e (.loc (m + i)) ver sz j off
  | .e (.loc i) ver sz j off => .e (.loc (m + i)) ver sz j off
  | .ls (.old i) ver sz off len => .ls (.loc (m + i)) ver sz off len
  | .ls (.loc i) ver sz off len => .ls (.loc (m + i)) ver sz off len
  | .f g first captured => .f g (FV.shiftL m first) (FV.shiftL m captured)
  | .a cs => .a (FV.shiftL m cs)
  | .t cs => .t (FV.shiftL m cs)
  | x => x
def FV.shiftL (m : Nat) : List FV → List FV
  | [] => []
  | x :: xs => FV.shift m x :: FV.shiftL m xs
end

def AObj.shift (m : Nat) : AObj → AObj
  | .box cs => .box (FV.shiftL m cs)
  | o => o

structure St where
  vars : List FV
  base : List AObj
  loc : List AObj
  dirty : Bool

def St.heap (st : St) : Ref → Option AObj
  | .loc i => st.loc[i]?
  | .old i => (st.base ++ st.loc)[i]?

def St.setHeap (st : St) (p : Ref) (o : AObj) : St :=
  match p with
  | .loc i => { st with loc := st.loc.set i o }
  | .old i =>
    { st with base := if i < st.base.length then st.base.set i o else st.base,
              loc := if i < st.base.length then st.loc else st.loc.set (i - st.base.length) o, dirty := true }

def AObj.view (ver sz off n : Nat) : AObj → Option (List D)
  | .row ver' sz' es | .frz ver' sz' es => if ver = ver' ∧ sz = sz' ∧ off + n ≤ es.length then some ((es.drop off).take n) else none
  | _ => none

/-- A slice's elements. -/
def elems (st : St) (sz : Nat) : FV → Option (List D)
  | .d (.n sz') => if sz = sz' then some [] else none
  | .d (.s sz' es) => if sz = sz' then some es else none
  | .ls p ver sz' off n => if sz = sz' then (match st.heap p with | some o => o.view ver sz off n | none => none) else none
  | _ => none

/-- A value as it leaves: own slices become data. -/
def leave1 (st : St) : FV → Option FV
  | .d x => some (.d x.norm1)
  | .ls p ver sz off n => match elems st sz (.ls p ver sz off n) with
    | some es => some (.d (.s sz es))
    | none => none
  | x => some x

def leaveL (st : St) : List FV → Option (List FV)
  | [] => some []
  | x :: r => match leave1 st x, leaveL st r with
    | some y, some s => some (y :: s)
    | _, _ => none

def leaves (st : St) : FV → Option FV
  | .d x => some (.d x.norm)
  | .a cs => match leaveL st cs with
    | some ds => some (mkA ds)
    | none => none
  | x => leave1 st x

def leavesL (st : St) : List FV → Option (List FV)
  | [] => some []
  | x :: r => match leaves st x, leavesL st r with
    | some y, some s => some (y :: s)
    | _, _ => none

/-- The own rows in a value. -/
def FV.rows1 : FV → List Ref
  | .ls p _ _ _ _ => [p]
  | _ => []

def FV.rows : FV → List Ref
  | .a cs => cs.flatMap FV.rows1
  | .t cs => cs.flatMap FV.rows1
  | x => x.rows1

def AObj.freeze : AObj → AObj
  | .row ver sz es => .frz ver sz es
  | o => o

def freezeAll (st : St) : List Ref → St
  | [] => st
  | p :: r => match st.heap p with
    | some (.row ver sz es) => freezeAll (st.setHeap p (.frz ver sz es)) r
    | _ => freezeAll st r

def D.isV : D → Bool
  | .v _ => true
  | _ => false

def scalar : FV → Bool
  | .d (.v _) => true
  | .d (.t vs) => vs.all D.isV
  | _ => false

inductive Arg where
  | var (i : Nat)
  | loc (j : Nat)
  | c (x : D)
  | g (k : Nat)
  deriving Inhabited

inductive K where
  | mov (x : Arg)
  | pick (c a b : Arg)
  | bin (op : BinOp) (x y : Arg)
  | beq (neg : Bool) (x y : Arg)
  | aeq (neg : Bool) (len : Nat) (x y : Arg)
  | nileq (kind : Nat) (neg : Bool) (x : Arg)
  | un (op : UnOp) (x : Arg)
  | conv (k : IntKind) (x : Arg)
  | box (x : Arg)
  | new (z : List D)
  | load (agg : Bool) (n : Nat) (p : Arg)
  | store (n : Nat) (p x : Arg)
  | faddr (off : Nat) (agg : Bool) (n : Nat) (p : Arg)
  | field (off : Nat) (agg : Bool) (n : Nat) (x : Arg)
  | iaddr (sz : Nat) (x i : Arg)
  | aaddr (len sz : Nat) (agg : Bool) (x i : Arg)
  | index (len sz : Nat) (agg : Bool) (x i : Arg)
  | sindex (x i : Arg)
  | build (z : List D) (parts : List (Nat × Nat × Arg))
  | lit (sz : Nat) (agg : Bool) (z : List D) (len : Nat) (parts : List (Nat × Arg))
  | len (x : Arg)
  | slen (x : Arg)
  | cap (x : Arg)
  | maxi (x y : Arg)
  | mini (x y : Arg)
  | app (sz bytes : Nat) (x y : Arg)
  | slice (sz : Nat) (x : Arg) (lo hi : Option Arg)
  | sslice (x : Arg) (lo hi : Option Arg)
  | mk (sz bytes : Nat) (agg : Bool) (z : List D) (len cap : Arg)
  | ext (x : Arg) (i : Nat)
  | clo (g : Nat) (first captured : List Arg)
  | call (g : Nat) (args : List Arg)
  | callv (f : Arg) (args : List Arg)
  deriving Inhabited

/-- It may write what is there (q: a call that must not). -/
def K.loud (q : Bool) : K → Bool
  | .app _ _ (.c (.n _)) _ => false
  | .store .. | .app .. => true
  | .call .. | .callv .. => !q
  | _ => false

/-- It looks at memory, or makes an object. -/
def K.mem : K → Bool
  | .store .. | .app .. | .call .. | .callv .. | .load .. | .box .. | .new .. | .mk .. | .lit .. => true
  | _ => false

structure FOp where
  q : Bool
  guard : Option (Nat × Bool)
  k : K
  deriving Inhabited

inductive FStmt where
  | skip
  | region (ops : List FOp) (outs apart : List (Nat × Nat))
  | seq (a b : FStmt)
  | cond (c : Arg) (a b : FStmt)
  | block (id : Nat) (b : FStmt)
  | loop (b : FStmt)
  | exit (id : Nat)
  | ret
  | kill (js : List Nat)
  deriving Inhabited

inductive Res where
  | var (j : Nat)
  | cell (j : Nat) (agg : Bool) (n : Nat)
  deriving Inhabited

structure FFunc where
  np : Nat
  nv : Nat
  res : List Res
  body : FStmt
  deriving Inhabited

abbrev CallR := Option (FV × Option (List AObj))

structure Env where
  fn : Nat → Option FFunc
  glob : Nat → Option D
  prim : Nat → Option (List D → Option D)

def argV (E : Env) (st : St) (env : List FV) : Arg → Option FV
  | .var i => st.vars[i]?
  | .loc j => env[j]?
  | .c x => some (.d x)
  | .g k => match E.glob k with
    | some x => some (.rc x)
    | none => none

def argsV (E : Env) (st : St) (env : List FV) : List Arg → Option (List FV)
  | [] => some []
  | x :: r => match argV E st env x, argsV E st env r with
    | some y, some s => some (y :: s)
    | _, _ => none

def binV (op : BinOp) (x y : Value) : Option Value :=
  match x, y with
  | .int k a, .int k' b =>
    match op with
    | .shl => if b < 0 then none else some (.int k (k.wrap (a * 2 ^ (min b.toNat k.bits))))
    | .shr => if b < 0 then none else some (.int k (a.fdiv (2 ^ (min b.toNat k.bits))))
    | op =>
      if k = k' then
        match op with
        | .add => some (.int k (k.wrap (a + b)))
        | .sub => some (.int k (k.wrap (a - b)))
        | .mul => some (.int k (k.wrap (a * b)))
        | .quo => if b = 0 then none else some (.int k (k.wrap (a.tdiv b)))
        | .rem => if b = 0 then none else some (.int k (a.tmod b))
        | .and => some (.int k (k.wrap (BitVec.ofInt k.bits a &&& BitVec.ofInt k.bits b).toNat))
        | .or => some (.int k (k.wrap (BitVec.ofInt k.bits a ||| BitVec.ofInt k.bits b).toNat))
        | .xor => some (.int k (k.wrap (BitVec.ofInt k.bits a ^^^ BitVec.ofInt k.bits b).toNat))
        | .andNot => some (.int k (k.wrap (BitVec.ofInt k.bits a &&& ~~~ BitVec.ofInt k.bits b).toNat))
        | .eql => some (.bool (a == b))
        | .neq => some (.bool (a != b))
        | .lss => some (.bool (a < b))
        | .leq => some (.bool (a ≤ b))
        | .gtr => some (.bool (a > b))
        | .geq => some (.bool (a ≥ b))
        | _ => none
      else none
  | .string a, .string b =>
    match op with
    | .add => if ((a.size + b.size : Nat) : Int) > IntKind.i64.max then none else some (.string (a ++ b))
    | .eql => some (.bool (a.toList == b.toList))
    | .neq => some (.bool !(a.toList == b.toList))
    | .lss => some (.bool (Op.bytesLess a.toList b.toList))
    | .leq => some (.bool (Op.bytesLess a.toList b.toList || a.toList == b.toList))
    | .gtr => some (.bool !(Op.bytesLess a.toList b.toList || a.toList == b.toList))
    | .geq => some (.bool !(Op.bytesLess a.toList b.toList))
    | _ => none
  | _, _ => none

def unV (op : UnOp) (x : Value) : Option Value :=
  match op, x with
  | .neg, .int k n => some (.int k (k.wrap (0 - n)))
  | .xor, .int k n => some (.int k (k.wrap (BitVec.ofInt k.bits (if k.signed then -1 else k.max) ^^^ BitVec.ofInt k.bits n).toNat))
  | .not, .bool b => some (.bool !b)
  | _, _ => none

def intsEq : List D → List D → Option Bool
  | [], [] => some true
  | .v (.int k a) :: r, .v (.int k' b) :: s => if k = k' then (match intsEq r s with | some t => some (a == b && t) | none => none) else none
  | _, _ => none

/-- Aggregates out of parts: (offset, size, what). -/
def fillF (cells : List FV) : List (Nat × Nat × FV) → Option (List FV)
  | [] => some cells
  | (off, size, x) :: r =>
    if x.cells.length = size ∧ off + size ≤ cells.length ∧ x.cells.all FV.one then fillF (splice cells off x.cells) r else none

def pureElem (agg : Bool) (sz : Nat) (x : FV) : Option D :=
  match x with
  | .d y => match y.norm with
    | .a cs => if agg ∧ cs.length = sz ∧ cs.all D.one then some (.a cs) else none
    | z => if !agg ∧ sz = 1 ∧ z.one then some z else none
  | _ => none

def fillE (es : List D) : List (Nat × D) → Option (List D)
  | [] => some es
  | (i, x) :: r => if i < es.length then fillE (es.set i x) r else none

/-- Room: what a slice may grow to, in bytes. -/
def most : Nat := 2 ^ 40

def asI : FV → Option Int
  | .d (.v (.int _ n)) => some n
  | _ => none

def St.push (st : St) (o : AObj) : St := { st with loc := st.loc ++ [o] }

/-- A call with data alone: the callee runs over an empty heap. -/
def callPure (rec : Nat → List FV → List AObj → CallR) (draw : Bool) (st : St) (g : Nat) (xs : List FV) (rows : List Ref) : Option (FV × St) :=
  match rec g xs [] with
  | some (v, none) => if scalar v ∨ rows = [] then some (v, st) else if draw then none else some (v, freezeAll st rows)
  | some (v, some B) => if rows = [] then some (v.shift st.loc.length, { st with loc := st.loc ++ B.map (AObj.shift st.loc.length) }) else none
  | none => none

/-- A call with pointers or closures among its arguments: the callee runs over all that is there. -/
def callFull (rec : Nat → List FV → List AObj → CallR) (draw : Bool) (st : St) (g : Nat) (xs : List FV) (rows : List Ref) : Option (FV × St) :=
  match rec g (FV.toOldL st.base.length xs) (((freezeAll st rows).base ++ (freezeAll st rows).loc).map (AObj.toOld st.base.length)) with
  | some (v, none) => if scalar v ∨ rows = [] then some (v, st) else if draw then none else some (v, freezeAll st rows)
  | some (v, some B) => if draw then none else some (v, { st with base := B.take st.base.length, loc := B.drop st.base.length, dirty := true })
  | none => none

/-- A call: its arguments leave, and the callee runs over what is there (nothing, if the arguments are data). -/
def doCall (rec : Nat → List FV → List AObj → CallR) (draw : Bool) (st : St) (g : Nat) (args : List FV) : Option (FV × St) :=
  match leavesL st args with
  | none => none
  | some xs => if (allD xs).isSome then callPure rec draw st g xs (args.flatMap FV.rows) else callFull rec draw st g xs (args.flatMap FV.rows)

def isPure : FV → Bool
  | .d _ => true
  | _ => false

def oneI (x : Option Arg) (dflt : Int) (get : Arg → Option FV) : Option Int :=
  match x with
  | none => some dflt
  | some a => match get a with
    | some v => asI v
    | none => none

def runK (E : Env) (rec : Nat → List FV → List AObj → CallR) (draw : Bool) (st : St) (env : List FV) (k : K) : Option (FV × St) :=
  let A := argV E st env
  match k with
  | .mov x => match A x with
    | some v => some (v, st)
    | none => none
  | .pick c a b => match A c with
    | some (.d (.v (.bool t))) => match A (if t then a else b) with
      | some v => some (v, st)
      | none => none
    | _ => none
  | .bin op x y => match A x, A y with
    | some (.d (.v p)), some (.d (.v q)) => match binV op p q with
      | some v => some (.d (.v v), st)
      | none => none
    | _, _ => none
  | .beq neg x y => match A x, A y with
    | some (.d (.v (.bool p))), some (.d (.v (.bool q))) => some (.d (.v (.bool (if neg then !(p == q) else p == q))), st)
    | _, _ => none
  | .aeq neg len x y => match A x, A y with
    | some (.d (.a p)), some (.d (.a q)) => if p.length = len then (match intsEq p q with
      | some t => some (.d (.v (.bool (if neg then !t else t))), st)
      | none => none) else none
    | _, _ => none
  | .nileq kind neg x => match kind, A x with
    | 0, some (.d (.n _)) => some (.d (.v (.bool (!neg))), st)
    | 0, some (.d (.s _ (_ :: _))) => some (.d (.v (.bool neg)), st)
    | 1, some (.d (.v .nilIface)) => some (.d (.v (.bool (!neg))), st)
    | 1, some (.d .i) => some (.d (.v (.bool neg)), st)
    | _, _ => none
  | .un op x => match A x with
    | some (.d (.v p)) => match unV op p with
      | some v => some (.d (.v v), st)
      | none => none
    | _ => none
  | .conv k x => match A x with
    | some (.d (.v (.int _ n))) => some (.d (.v (.int k (k.wrap n))), st)
    | _ => none
  | .box x => match A x with
    | some v => if v.cells.all FV.one then some (.r (.loc st.loc.length) 0, st.push (.box v.cells)) else none
    | none => none
  | .new z => some (.r (.loc st.loc.length) 0, st.push (.box (z.map .d)))
  | .load agg n p => match A p with
    | some (.r q off) => match st.heap q with
      | some (.box cs) => match partF cs agg off n with
        | some v => if draw && !isPure v then none else some (v, st)
        | none => none
      | _ => none
    | some (.e q ver sz i off) => match st.heap q with
      | some (.row ver' sz' es) => if ver = ver' ∧ sz = sz' then (match es[i]? with
          | some x => match partD x.cells agg off n with
            | some v => some (.d v, st)
            | none => none
          | none => none) else none
      | some (.frz ver' sz' es) => if ver = ver' ∧ sz = sz' then (match es[i]? with
          | some x => match partD x.cells agg off n with
            | some v => some (.d v, st)
            | none => none
          | none => none) else none
      | _ => none
    | some (.rc x) => match partD x.cells agg 0 n with
      | some v => some (.d v, st)
      | none => none
    | _ => none
  | .store n p x => match A p, A x with
    | some (.r q off), some v => match st.heap q with
      | some (.box cs) =>
        if v.cells.length = n ∧ off + n ≤ cs.length ∧ v.cells.all FV.one then some (.d (.t []), st.setHeap q (.box (splice cs off v.cells))) else none
      | _ => none
    | some (.e q ver sz i off), some (.d v) => match st.heap q with
      | some (.row ver' sz' es) =>
        if ver = ver' ∧ sz = sz' then (match es[i]? with
          | some (.a cs) => if v.norm.cells.length = n ∧ off + n ≤ cs.length ∧ v.norm.cells.all D.one then
              some (.d (.t []), st.setHeap q (.row ver sz (es.set i (.a (splice cs off v.norm.cells))))) else none
          | some _ => if n = 1 ∧ off = 0 ∧ v.norm.one then some (.d (.t []), st.setHeap q (.row ver sz (es.set i v.norm))) else none
          | none => none) else none
      | _ => none
    | _, _ => none
  | .faddr off agg n p => match A p with
    | some (.r q o) => some (.r q (o + off), st)
    | some (.e q ver sz i o) => some (.e q ver sz i (o + off), st)
    | some (.rc x) => match partD x.cells agg off n with
      | some v => some (.rc v, st)
      | none => none
    | _ => none
  | .field off agg n x => match A x with
    | some (.a cs) => match partF cs agg off n with
      | some v => some (v, st)
      | none => none
    | some (.d (.a cs)) => match partD cs agg off n with
      | some v => some (.d v, st)
      | none => none
    | _ => none
  | .iaddr sz x i => match A x, A i with
    | some (.ls q ver sz' off n), some (.d (.v (.int _ j))) => if sz = sz' ∧ 0 ≤ j ∧ j < n then some (.e q ver sz (off + j.toNat) 0, st) else none
    | some (.d (.s sz' es)), some (.d (.v (.int _ j))) => if sz = sz' ∧ 0 ≤ j then (match es[j.toNat]? with
        | some x => some (.rc x, st)
        | none => none) else none
    | _, _ => none
  | .aaddr len sz agg x i => match A x, A i with
    | some (.r q o), some (.d (.v (.int _ j))) => if 0 ≤ j ∧ j < len then some (.r q (o + j.toNat * sz), st) else none
    | some (.e q ver s m o), some (.d (.v (.int _ j))) => if 0 ≤ j ∧ j < len then some (.e q ver s m (o + j.toNat * sz), st) else none
    | some (.rc x), some (.d (.v (.int _ j))) => if 0 ≤ j ∧ j < len then (match partD x.cells agg (j.toNat * sz) sz with
        | some v => some (.rc v, st)
        | none => none) else none
    | _, _ => none
  | .index len sz agg x i => match A x, A i with
    | some (.d (.a cs)), some (.d (.v (.int _ j))) => if 0 ≤ j ∧ j < len then (match partD cs agg (j.toNat * sz) sz with
        | some v => some (.d v, st)
        | none => none) else none
    | _, _ => none
  | .sindex x i => match A x, A i with
    | some (.d (.v (.string s))), some (.d (.v (.int _ j))) => if 0 ≤ j then (match s[j.toNat]? with
        | some b => some (.d (.v (.int .u8 b.toNat)), st)
        | none => none) else none
    | _, _ => none
  | .build z parts => match argsV E st env (parts.map (·.2.2)) with
    | some xs => match fillF (z.map .d) (((parts.map (·.1)).zip ((parts.map (·.2.1)).zip xs))) with
      | some cs => some (mkA cs, st)
      | none => none
    | none => none
  | .lit sz agg z len parts => match argsV E st env (parts.map (·.2)) with
    | some xs => match xs.mapM (pureElem agg sz) with
      | some ys => match fillE (List.replicate len (if agg then .a z else z.headD (.t []))) ((parts.map (·.1)).zip ys) with
        | some es => if len = 0 then some (.ls (.loc st.loc.length) 0 sz 0 0, st.push (.row 0 sz [])) else some (.d (.s sz es), st)
        | none => none
      | none => none
    | none => none
  | .len x => match A x with
    | some (.d (.n _)) => some (.d (.v (.int .i64 0)), st)
    | some (.d (.s _ es)) => some (.d (.v (.int .i64 es.length)), st)
    | some (.ls _ _ _ _ n) => some (.d (.v (.int .i64 n)), st)
    | _ => none
  | .slen x => match A x with
    | some (.d (.v (.string s))) => some (.d (.v (.int .i64 s.size)), st)
    | _ => none
  | .cap _ => none
  | .maxi x y => match A x, A y with
    | some (.d (.v (.int k a))), some (.d (.v (.int _ b))) => some (.d (.v (.int k (if b > a then b else a))), st)
    | _, _ => none
  | .mini x y => match A x, A y with
    | some (.d (.v (.int k a))), some (.d (.v (.int _ b))) => some (.d (.v (.int k (if b < a then b else a))), st)
    | _, _ => none
  | .app sz bytes x y => match A x, A y with
    | some v, some w => match elems st sz w with
      | none => none
      | some ys => match v with
        | .d (.n sz') => if sz = sz' ∧ ys.length * bytes ≤ most ∧ ys.length ≤ most then
            (if ys.isEmpty then some (.d (.n sz), st) else some (.ls (.loc st.loc.length) 0 sz 0 ys.length, st.push (.row 0 sz ys))) else none
        | .ls q ver sz' off n => match st.heap q with
          | some (.row ver' sz'' es) => if sz = sz' ∧ sz = sz'' ∧ ver = ver' ∧ off + n ≤ es.length ∧ (n + ys.length) * bytes ≤ most ∧ n + ys.length ≤ most then
              some (.ls q (ver + 1) sz 0 (n + ys.length), st.setHeap q (.row (ver + 1) sz ((es.drop off).take n ++ ys))) else none
          | _ => none
        | _ => none
    | _, _ => none
  | .slice sz x lo hi => match A x with
    | some (.d (.s sz' es)) => match oneI lo 0 A, oneI hi es.length A with
      | some l, some h => if sz = sz' ∧ 0 ≤ l ∧ l ≤ h ∧ h ≤ es.length then some (.d (.s sz ((es.drop l.toNat).take (h.toNat - l.toNat))), st) else none
      | _, _ => none
    | some (.d (.n sz')) => match oneI lo 0 A, oneI hi 0 A with
      | some l, some h => if sz = sz' ∧ l = 0 ∧ h = 0 then some (.d (.n sz), st) else none
      | _, _ => none
    | some (.ls q ver sz' off n) => match oneI lo 0 A, oneI hi n A with
      | some l, some h => if sz = sz' ∧ 0 ≤ l ∧ l ≤ h ∧ h ≤ n then some (.ls q ver sz (off + l.toNat) (h.toNat - l.toNat), st) else none
      | _, _ => none
    | _ => none
  | .sslice x lo hi => match A x with
    | some (.d (.v (.string s))) => match oneI lo 0 A, oneI hi s.size A with
      | some l, some h => if 0 ≤ l ∧ l ≤ h ∧ h ≤ s.size then some (.d (.v (.string (s.extract l.toNat h.toNat))), st) else none
      | _, _ => none
    | _ => none
  | .mk sz bytes agg z len cap => match A len, A cap with
    | some (.d (.v (.int _ l))), some (.d (.v (.int _ c))) =>
      if 0 ≤ l ∧ l ≤ c ∧ c * bytes ≤ most ∧ c ≤ most then
        some (.ls (.loc st.loc.length) 0 sz 0 l.toNat, st.push (.row 0 sz (List.replicate l.toNat (if agg then .a z else z.headD (.t []))))) else none
    | _, _ => none
  | .ext x i => match A x with
    | some (.d (.t vs)) => match vs[i]? with
      | some v => some (.d v, st)
      | none => none
    | some (.t vs) => match vs[i]? with
      | some v => some (v, st)
      | none => none
    | _ => none
  | .clo g first captured => match argsV E st env first, argsV E st env captured with
    | some fs, some cs => if fs.isEmpty ∧ cs.isEmpty then some (.d (.fn g), st) else some (.f g fs cs, st)
    | _, _ => none
  | .call g args => match argsV E st env args with
    | some xs => doCall rec draw st g xs
    | none => none
  | .callv f args => match A f, argsV E st env args with
    | some (.d (.fn g)), some xs => doCall rec draw st g xs
    | some (.f g first captured), some xs => doCall rec draw st g (first ++ xs ++ captured)
    | _, _ => none

/-- Is the operation carried out? -/
def guardV (env : List FV) : Option (Nat × Bool) → Option Bool
  | none => some true
  | some (j, want) => match env[j]? with
    | some (.d (.v (.bool b))) => some (b == want)
    | some (.d (.t [])) => some false
    | _ => none

def runOps (E : Env) (rec : Nat → List FV → List AObj → CallR) : List FOp → St → List FV → Option (St × List FV)
  | [], st, env => some (st, env)
  | o :: rest, st, env =>
    match guardV env o.guard with
    | none => none
    | some false => runOps E rec rest st (env ++ [.d (.t [])])
    | some true => match runK E rec o.q st env o.k with
      | none => none
      | some (v, st') => runOps E rec rest st' (env ++ [v])

def setVars (vars : List FV) (env : List FV) : List (Nat × Nat) → List FV
  | [] => vars
  | (i, j) :: r => setVars (vars.set i (env.getD j .u)) env r

def killVars (vars : List FV) : List Nat → List FV
  | [] => vars
  | i :: r => killVars (vars.set i .u) r

/-- These variables point to different objects. -/
def apartOk (st : St) : List (Nat × Nat) → Bool
  | [] => true
  | (i, j) :: r => (match st.vars[i]?, st.vars[j]? with
    | some (.r p _), some (.r q _) => p.abs st.base.length != q.abs st.base.length
    | _, _ => false) && apartOk st r

inductive Out where
  | norm
  | exit (id : Nat)
  | ret
  deriving DecidableEq, Inhabited

def resV (st : St) : Res → Option FV
  | .var j => st.vars[j]?
  | .cell j agg n => match st.vars[j]? with
    | some (.r q off) => match st.heap q with
      | some (.box cs) => partF cs agg off n
      | _ => none
    | _ => none

def ressV (st : St) : List Res → Option (List FV)
  | [] => some []
  | x :: r => match resV st x, ressV st r with
    | some y, some s => some (y :: s)
    | _, _ => none

def oneOf : List FV → FV
  | [y] => y
  | ys => mkT ys

def finish2 (y : FV) (st : St) : FV × Option (List AObj) :=
  if isPure y && !st.dirty then (y, none)
  else (y.toOld st.base.length, some ((st.base ++ st.loc).map (AObj.toOld st.base.length)))

/-- What a call hands back, once its body has ended in st. -/
def finish (F : FFunc) (st : St) : CallR :=
  match ressV st F.res with
  | none => none
  | some xs => match leavesL st xs with
    | none => none
    | some ys => some (finish2 (oneOf ys) (freezeAll st (xs.flatMap FV.rows)))

/-- A call by its number: a function that is given as it is, or its body, run by 'run'. -/
def enter (E : Env) (g : Nat) (args : List FV) (B : List AObj) (run : FStmt → St → Option (Out × St)) : CallR :=
  match E.prim g with
  | some p => match B, allD args with
    | [], some ds => match p ds with
      | some v => some (.d v, none)
      | none => none
    | _, _ => none
  | none => match E.fn g with
    | none => none
    | some F =>
      if args.length = F.np then
        match run F.body { vars := args ++ List.replicate (F.nv - F.np) .u, base := B, loc := [], dirty := false } with
        | some (.exit _, _) => none
        | some (_, st') => finish F st'
        | none => none
      else none

def exec (E : Env) : Nat → FStmt → St → Option (Out × St)
  | 0, _, _ => none
  | n + 1, c, st =>
    let rec' : Nat → List FV → List AObj → CallR := fun g args B => enter E g args B fun F st' => exec E n F st'
    match c with
    | .skip => some (.norm, st)
    | .region ops outs apart => if apartOk st apart then (match runOps E rec' ops st [] with
      | some (st', env) => some (.norm, { st' with vars := setVars st'.vars env outs })
      | none => none) else none
    | .seq a b => match exec E n a st with
      | some (.norm, st') => exec E n b st'
      | r => r
    | .cond x a b => match argV E st [] x with
      | some (.d (.v (.bool t))) => exec E n (if t then a else b) st
      | _ => none
    | .block id b => match exec E n b st with
      | some (.exit id', st') => if id' = id then some (.norm, st') else some (.exit id', st')
      | r => r
    | .loop b => match exec E n b st with
      | some (.norm, st') => exec E n (.loop b) st'
      | r => r
    | .exit id => some (.exit id, st)
    | .ret => some (.ret, st)
    | .kill js => some (.norm, { st with vars := killVars st.vars js })

def callN (E : Env) (n : Nat) (g : Nat) (args : List FV) (B : List AObj) : CallR := enter E g args B (exec E n)

end Fi
