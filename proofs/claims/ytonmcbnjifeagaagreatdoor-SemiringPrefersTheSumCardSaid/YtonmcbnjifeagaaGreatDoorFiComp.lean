/-
  From the model's code to F-code: a function (the kernel runs it, once a function).
-/
import Derived.Test.YtonmcbnjifeagaaGreatDoorFiCore
set_option linter.unusedVariables false
set_option linter.unusedSimpArgs false
namespace Fi
open Go

def sizeT (P : Program) (t : TypeId) : Option Nat :=
  match P.info? t with
  | some i => some i.size
  | none => none

def bytesT (P : Program) (t : TypeId) : Option Nat :=
  match P.info? t with
  | some i => some i.bytes
  | none => none

def aggT (P : Program) (t : TypeId) : Option Bool :=
  match P.underlying t with
  | some (.struct _) => some true
  | some (.array _ _) => some true
  | some _ => some false
  | none => none

/-- Of each cell of a type: the size of its elements, if it is a slice (a mere hint). -/
def hints (P : Program) : Nat → TypeId → List Nat
  | 0, _ => []
  | d + 1, t =>
    match P.underlying t with
    | some (.slice e) => [(sizeT P e).getD 0]
    | some (.struct fs) => fs.toList.flatMap fun f => hints P d f.type
    | some (.array n e) => (List.replicate n (hints P d e)).flatten
    | _ => [0]

structure Cx where
  gid : FuncId → Option Nat
  vars : List Tmp
  kills : Nat → List Nat
  ntmps : Nat

def constD (cx : Cx) (hint : Nat) : Value → Option D
  | .slice none 0 0 => some (.n hint)
  | .func (.func f) first captured => if first.size = 0 ∧ captured.size = 0 then (match cx.gid f with
    | some g => some (.fn g)
    | none => none) else none
  | .func _ _ _ => none
  | .tuple _ => none
  | .agg _ => none
  | x => some (.v x)

def constDs (cx : Cx) : List Nat → List Value → Option (List D)
  | _, [] => some []
  | hs, x :: r => match constD cx (hs.headD 0) x, constDs cx hs.tail r with
    | some y, some s => some (y :: s)
    | _, _ => none

def constT (cx : Cx) (hs : List Nat) : Value → Option D
  | .agg cs => match constDs cx hs cs.toList with
    | some ds => some (.a ds)
    | none => none
  | x => constD cx (hs.headD 0) x

def zeroD (cx : Cx) (P : Program) (t : TypeId) : Option (List D) :=
  match P.info? t with
  | some i => match i.zero with
    | some z => constDs cx (hints P 8 t) z.cells.toList
    | none => none
  | none => none

/-- The last operation so far that writes temporary t. -/
def lastDst (dsts : List (Option Tmp)) (t : Tmp) : Option Nat :=
  match dsts.reverse.idxOf? (some t) with
  | some i => some (dsts.length - 1 - i)
  | none => none

def compArg (P : Program) (cx : Cx) (dsts : List (Option Tmp)) (ty : TypeId) : Operand → Option Arg
  | .tmp t => match lastDst dsts t with
    | some j => some (.loc j)
    | none => match cx.vars.idxOf? t with
      | some j => some (.var j)
      | none => none
  | .const v => match constT cx (hints P 8 ty) v with
    | some x => some (.c x)
    | none => none
  | .func f => match cx.gid f with
    | some g => some (.c (.fn g))
    | none => none
  | .global k => some (.g k)

def compArgs (P : Program) (cx : Cx) (dsts : List (Option Tmp)) : List TypeId → List Operand → Option (List Arg)
  | _, [] => some []
  | tys, x :: r => match compArg P cx dsts (tys.headD 0) x, compArgs P cx dsts tys.tail r with
    | some y, some s => some (y :: s)
    | _, _ => none

def optArg (P : Program) (cx : Cx) (dsts : List (Option Tmp)) : Option Operand → Option (Option Arg)
  | none => some none
  | some x => match compArg P cx dsts 0 x with
    | some y => some (some y)
    | none => none

def partsAt (P : Program) (cx : Cx) (dsts : List (Option Tmp)) (place : Nat → Option (Nat × TypeId)) : List (Nat × Operand) → Option (List (Nat × Nat × Arg))
  | [] => some []
  | (i, x) :: r => match place i with
    | none => none
    | some (off, ty) => match sizeT P ty, compArg P cx dsts ty x, partsAt P cx dsts place r with
      | some n, some y, some s => some ((off, n, y) :: s)
      | _, _, _ => none

def compBin (P : Program) (cx : Cx) (dsts : List (Option Tmp)) (op : BinOp) (xType : TypeId) (x y : Operand) (yType : TypeId) : Option K :=
  match compArg P cx dsts xType x, compArg P cx dsts yType y with
  | some a, some b => match P.underlying xType with
    | some (.int _) => some (.bin op a b)
    | some .string => some (.bin op a b)
    | some .bool => match op with
      | .eql => some (.beq false a b)
      | .neq => some (.beq true a b)
      | _ => none
    | some (.array len e) => match op, P.underlying e, sizeT P e with
      | .eql, some (.int _), some 1 => if P.eqGuardType P.depth xType then none else some (.aeq false len a b)
      | .neq, some (.int _), some 1 => if P.eqGuardType P.depth xType then none else some (.aeq true len a b)
      | _, _, _ => none
    | some (.slice _) => match y, op with
      | .const (.slice none 0 0), .eql => some (.nileq 0 false a)
      | .const (.slice none 0 0), .neq => some (.nileq 0 true a)
      | _, _ => none
    | some (.interface _) => match y, op with
      | .const .nilIface, .eql => some (.nileq 1 false a)
      | .const .nilIface, .neq => some (.nileq 1 true a)
      | _, _ => none
    | _ => none
  | _, _ => none

def compOp (P : Program) (cx : Cx) (dsts : List (Option Tmp)) (o : Oper) : Option K :=
  let A := compArg P cx dsts
  match o.op with
  | .move x | .assign x => match A o.type x with
    | some a => some (.mov a)
    | none => none
  | .pick c a b => match A 0 c, A o.type a, A o.type b with
    | some c, some a, some b => some (.pick c a b)
    | _, _, _ => none
  | .alloc e => match zeroD cx P e with
    | some z => some (.new z)
    | none => none
  | .box e x => match A e x with
    | some a => some (.box a)
    | none => none
  | .load t x => match A 0 x, aggT P t, sizeT P t with
    | some a, some g, some n => some (.load g n a)
    | _, _, _ => none
  | .store t x y => match A 0 x, A t y, sizeT P t with
    | some a, some b, some n => some (.store n a b)
    | _, _, _ => none
  | .fieldAddr s x i => match P.underlying s with
    | some (.struct fs) => match fs[i]? with
      | some f => match A 0 x, aggT P f.type, sizeT P f.type with
        | some a, some g, some n => if n = 0 then none else some (.faddr f.offset g n a)
        | _, _, _ => none
      | none => none
    | _ => none
  | .field s x i => match P.underlying s with
    | some (.struct fs) => match fs[i]? with
      | some f => match A s x, aggT P f.type, sizeT P f.type with
        | some a, some g, some n => some (.field f.offset g n a)
        | _, _, _ => none
      | none => none
    | _ => none
  | .indexAddr t x ix => match P.underlying t with
    | some (.slice e) => match A t x, A 0 ix, sizeT P e with
      | some a, some b, some n => some (.iaddr n a b)
      | _, _, _ => none
    | some (.array len e) => match A 0 x, A 0 ix, sizeT P e, aggT P e with
      | some a, some b, some n, some g => some (.aaddr len n g a b)
      | _, _, _, _ => none
    | _ => none
  | .index t x ix => match P.underlying t with
    | some (.array len e) => match A t x, A 0 ix, sizeT P e, aggT P e with
      | some a, some b, some n, some g => some (.index len n g a b)
      | _, _, _, _ => none
    | some .string => match A t x, A 0 ix with
      | some a, some b => some (.sindex a b)
      | _, _ => none
    | _ => none
  | .build t parts => match P.underlying t, zeroD cx P t with
    | some (.struct fs), some z => if fs.toList.any (fun f => (sizeT P f.type).isNone) then none else match partsAt P cx dsts (fun i => match fs[i]? with | some f => some (f.offset, f.type) | none => none) parts.toList with
      | some ps => some (.build z ps)
      | none => none
    | some (.array _ e), some z => match sizeT P e with
      | some n => match partsAt P cx dsts (fun i => some (i * n, e)) parts.toList with
        | some ps => some (.build z ps)
        | none => none
      | none => none
    | _, _ => none
  | .buildSlice t len parts => match P.underlying t with
    | some (.slice e) => match sizeT P e, aggT P e, zeroD cx P e, compArgs P cx dsts (parts.toList.map fun _ => e) (parts.toList.map (·.2)) with
      | some n, some g, some z, some as => if n = 0 ∨ len > 1000 ∨ n > 1000 ∨ z.length ≠ n ∨ (g = false ∧ n ≠ 1) then none else some (.lit n g (z.map D.norm1) len ((parts.toList.map (·.1)).zip as))
      | _, _, _, _ => none
    | _ => none
  | .makeSlice t l c => match P.underlying t with
    | some (.slice e) => match sizeT P e, bytesT P e, aggT P e, zeroD cx P e, A 0 l, A 0 c with
      | some n, some b, some g, some z, some a, some a' => if n = 0 ∨ z.length ≠ n ∨ (g = false ∧ n ≠ 1) then none else some (.mk n b g (z.map D.norm1) a a')
      | _, _, _, _, _, _ => none
    | _ => none
  | .slice t x lo hi none => match P.underlying t with
    | some (.slice e) => match sizeT P e, A t x, optArg P cx dsts lo, optArg P cx dsts hi with
      | some n, some a, some l, some h => if n = 0 then none else some (.slice n a l h)
      | _, _, _, _ => none
    | some .string => match A t x, optArg P cx dsts lo, optArg P cx dsts hi with
      | some a, some l, some h => some (.sslice a l h)
      | _, _, _ => none
    | _ => none
  | .extract x i => match A 0 x with
    | some a => some (.ext a i)
    | none => none
  | .makeFunc (.func f) first captured => match cx.gid f, compArgs P cx dsts [] first.toList, compArgs P cx dsts [] captured.toList with
    | some g, some fs, some cs => some (.clo g fs cs)
    | _, _, _ => none
  | .binOp op xType x y yType => compBin P cx dsts op xType x y yType
  | .unOp op t x => match A t x with
    | some a => some (.un op a)
    | none => none
  | .convert src dst x => match P.underlying src, P.underlying dst with
    | some (.int _), some (.int k) => match A src x with
      | some a => some (.conv k a)
      | none => none
    | _, _ => none
  | .call c => match c.callee with
    | .value (.func f) => match cx.gid f, compArgs P cx dsts c.argTypes.toList c.args.toList with
      | some g, some as => some (.call g as)
      | _, _ => none
    | .value x => match A 0 x, compArgs P cx dsts c.argTypes.toList c.args.toList with
      | some f, some as => some (.callv f as)
      | _, _ => none
    | .builtin b => match b, c.argTypes.toList, c.args.toList with
      | .len, [t], [x] => match P.underlying t with
        | some (.slice _) => (A t x).map .len
        | some .string => (A t x).map .slen
        | _ => none
      | .max, [t, u], [x, y] => match P.underlying t, A t x, A u y with
        | some (.int _), some a, some b => some (.maxi a b)
        | _, _, _ => none
      | .min, [t, u], [x, y] => match P.underlying t, A t x, A u y with
        | some (.int _), some a, some b => some (.mini a b)
        | _, _, _ => none
      | .append, [t, u], [x, y] => match P.underlying t, P.underlying u with
        | some (.slice e), some (.slice e') => if e = e' then (match sizeT P e, bytesT P e, zeroD cx P e, A t x, A u y with
          | some n, some b, some z, some a, some a' => if n = 0 ∨ z.length ≠ n then none else some (.app n b a a')
          | _, _, _, _, _ => none) else none
        | _, _ => none
      | _, _, _ => none
    | _ => none
  | _ => none

/-- The operation that a guard looks at still stands in its temporary. -/
def guardOk (dsts : List (Option Tmp)) : Option (Nat × Bool) → Bool
  | none => true
  | some (j, _) => match dsts[j]? with
    | some (some t) => lastDst dsts t == some j
    | _ => false

def dstOk (cx : Cx) : Option Tmp → Bool
  | none => true
  | some t => decide (t < cx.ntmps)

/-- Of each operation: which earlier ones it waits for, as bits. -/
def maskOf (ms : List Nat) (o : Oper) : Nat :=
  o.after.toList.foldl (fun s e => if Region.binds .any e then s ||| (2 ^ e.on ||| ms.getD e.on 0) else s) 0

def masks : List Oper → List Nat → List Nat
  | [], ms => ms
  | o :: r, ms => masks r (ms ++ [maskOf ms o])

/-- One of the two waits for the other. -/
def comparable (ms : List Nat) (i j : Nat) : Bool :=
  if i < j then (ms.getD j 0).testBit i else (ms.getD i 0).testBit j

def compOps (P : Program) (cx : Cx) : List Oper → List (Option Tmp) → Option (List FOp)
  | [], _ => some []
  | o :: r, dsts => if guardOk dsts o.guard && dstOk cx o.dst then (match compOp P cx dsts o, compOps P cx r (dsts ++ [o.dst]) with
    | some k, some ks => some (⟨false, o.guard, k⟩ :: ks)
    | _, _ => none) else none

def K.isCall : K → Bool
  | .call .. | .callv .. => true
  | _ => false

def K.isLoad : K → Bool
  | .load .. => true
  | _ => false

def K.isStore : K → Bool
  | .store .. => true
  | _ => false

/-- Calls that may come before or behind others that look at memory must write nothing; loads that may come before or behind a store must yield data. -/
def quietly (ms : List Nat) (ks : List FOp) : List FOp :=
  ks.zipIdx.map fun x => { x.1 with q := ks.zipIdx.any fun y => y.2 != x.2 && (x.1.k.isCall && y.1.k.mem || x.1.k.isLoad && y.1.k.isStore) && !comparable ms x.2 y.2 }

def tmpsOf (o : Oper) : List Tmp := o.op.operands.toList.filterMap fun | .tmp t => some t | _ => none

def farOf : K → K → Option (Nat × Nat)
  | .store _ (.var b) _, .load _ _ (.var a) => some (a, b)
  | _, _ => none

/-- Loads that may come before or behind a store: their variables must point to different objects. -/
def apartOf (ms : List Nat) (ks : List FOp) : List (Nat × Nat) :=
  ks.zipIdx.flatMap fun x => ks.zipIdx.filterMap fun y => if x.2 == y.2 || comparable ms x.2 y.2 then none else farOf x.1.k y.1.k

/-- Whatever order is drawn, the values are the same: what an operation reads has been written, and is not written again; what writes memory comes before or behind all else that looks at it. -/
def orderOk (ops : List Oper) (ms : List Nat) (ks : List FOp) (apart : List (Nat × Nat)) : Bool :=
  (ops.zipIdx.all fun x => x.1.after.toList.all fun e => !Region.binds .any e || decide (e.on < x.2)) &&
  (ops.zipIdx.all fun x => match x.1.dst with
    | none => true
    | some t => ops.zipIdx.all fun y => (x.2 == y.2) || (y.1.dst != some t && (!(tmpsOf y.1).contains t || comparable ms x.2 y.2))) &&
  (ops.zipIdx.all fun x => match x.1.guard with
    | none => true
    | some (g, _) => (ms.getD x.2 0).testBit g) &&
  (ks.zipIdx.all fun x => !x.1.k.loud x.1.q || ks.zipIdx.all fun y => (x.2 == y.2) || !y.1.k.mem || comparable ms x.2 y.2 ||
    (y.1.q && match farOf x.1.k y.1.k with
    | some p => apart.contains p
    | none => false))

/-- A region's operations. -/
def compRegion (P : Program) (cx : Cx) (ops : List Oper) (draw : Bool) : Option (List FOp × List (Nat × Nat)) :=
  match compOps P cx ops [] with
  | none => none
  | some ks =>
    if draw then
      (if orderOk ops (masks ops []) (quietly (masks ops []) ks) (apartOf (masks ops []) (quietly (masks ops []) ks))
       then some (quietly (masks ops []) ks, apartOf (masks ops []) (quietly (masks ops []) ks)) else none)
    else some (ks, [])

/-- Which operation is the last to write each of the variables. -/
def outsAt (dsts : List (Option Tmp)) : List Tmp → Nat → List (Nat × Nat)
  | [], _ => []
  | t :: r, i => match lastDst dsts t with
    | some j => (i, j) :: outsAt dsts r (i + 1)
    | none => outsAt dsts r (i + 1)

def comp (P : Program) (cx : Cx) : Code → Option FStmt
  | .skip => some .skip
  | .region id ops draw => match compRegion P cx ops.toList draw with
    | some (ks, ap) =>
      match cx.kills id with
      | [] => some (.region ks (outsAt (ops.toList.map (·.dst)) cx.vars 0) ap)
      | js => some (.seq (.region ks (outsAt (ops.toList.map (·.dst)) cx.vars 0) ap) (.kill js))
    | none => none
  | .seq a b => match comp P cx a, comp P cx b with
    | some x, some y => some (.seq x y)
    | _, _ => none
  | .cond c a b => match compArg P cx [] 0 c, comp P cx a, comp P cx b with
    | some t, some x, some y => some (.cond t x y)
    | _, _, _ => none
  | .block id b => match comp P cx b with
    | some x => some (.block id x)
    | none => none
  | .loop b => match comp P cx b with
    | some x => some (.loop x)
    | none => none
  | .exit id => some (.exit id)
  | .ret => some .ret
  | _ => none

def compRes (P : Program) (cx : Cx) : List ResultVar → Option (List Res)
  | [] => some []
  | .tmp t :: r => match cx.vars.idxOf? t, compRes P cx r with
    | some j, some s => some (.var j :: s)
    | _, _ => none
  | .cell t ty :: r => match cx.vars.idxOf? t, aggT P ty, sizeT P ty, compRes P cx r with
    | some j, some g, some n, some s => some (.cell j g n :: s)
    | _, _, _, _ => none

def compFunc (P : Program) (cx : Cx) (F : Func) : Option FFunc :=
  match F.body with
  | none => none
  | some c => match comp P cx c, compRes P cx F.results.toList with
    | some b, some rs =>
      let np := F.params.size + F.nfree
      if cx.vars.take np = List.range np ∧ cx.vars.Nodup ∧ cx.ntmps = F.ntmps ∧ cx.vars.all (· < cx.ntmps) then some { np := np, nv := cx.vars.length, res := rs, body := b } else none
    | _, _ => none

end Fi
