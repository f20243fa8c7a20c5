/-
  One operation of the model does what the functional interpreter says: operations that touch no memory.
-/
import Derived.Test.YtonmcbnjifeagaaGreatDoorFiHeap
set_option linter.unusedVariables false
set_option linter.unusedSimpArgs false
namespace Fi
open Go

/-- An operation, carried out in w, yields a value and a world of which Φ holds. -/
def Yields (P : Program) (o : Oper) (ρ : Operand → Value) (w : World) (Φ : Value → World → Prop) : Prop :=
  match (execOp ρ o).run P w with
  | .ok (.value x) w' => Φ x w'
  | .ok .skip w' => Φ undef w'
  | .ok (.enter f args) w' => Calls P f args w' (fun e w'' => ∃ x, e = .returned x ∧ Φ x w'')
  | _ => False

theorem Yields.wp {P : Program} {o : Oper} {a : Act} {w : World} {Φ : Value → World → Prop} (h : Yields P o a.eval w Φ) {next : Act → World → Prop} {Q : Exit → Act → World → Prop}
    (hn : ∀ x w', Φ x w' → next (a.put o.dst x) w') : o.wp P a w next Q := by
  unfold Yields at h
  unfold Oper.wp
  generalize (execOp a.eval o).run P w = r at *
  cases r with
  | ok x w' =>
    cases x <;> simp only [Oper.upon] at h ⊢ <;> first
      | exact hn _ _ h
      | exact h.mono (fun e w'' ⟨x, he, hx⟩ => by subst he; exact hn _ _ hx)
      | exact h.elim
  | halt x w' => exact h.elim

theorem Yields.mono {P : Program} {o : Oper} {ρ : Operand → Value} {w : World} {Φ Ψ : Value → World → Prop} (h : Yields P o ρ w Φ) (hm : ∀ x w', Φ x w' → Ψ x w') : Yields P o ρ w Ψ := by
  unfold Yields at *
  generalize (execOp ρ o).run P w = r at *
  cases r with
  | ok x w' =>
    cases x <;> simp only at h ⊢ <;> first
      | exact hm _ _ h
      | exact h.mono (fun e w'' ⟨x, he, hx⟩ => ⟨x, he, hm _ _ hx⟩)
      | exact h
  | halt x w' => exact h

/-- What holds behind a step of the interpreter. -/
def Post (σ : Nat → Option FuncId) (n m : Nat) (β : Map) (I Wr : Nat → Prop) (wd : Nat → Prop) (w : World) (st' : St) (v : FV) (x : Value) (w' : World) : Prop :=
  ∃ β' I', Ext β β' I I' Wr w w' ∧ SimH σ n β' I' Wr wd (st'.base ++ st'.loc) w' ∧ RepF σ β' I' w' n v x ∧ ∀ k u, k < m → ¬ wd k → β' k u = β k u

section ops
variable {P : Program} {σ : Nat → Option FuncId} {n : Nat} {β : Map} {I Wr : Nat → Prop} {wd : Nat → Prop} {w : World} {st : St} {ρ : Operand → Value}
variable {dst : Option Tmp} {type : TypeId} {pos : String} {after : Array Edge} {guard : Option (Nat × Bool)}

theorem Post.same (hS : SimH σ n β I Wr wd (st.base ++ st.loc) w) {v : FV} {x : Value} (h : RepF σ β I w n v x) : Post σ n (st.base ++ st.loc).length β I Wr wd w st v x w :=
  ⟨β, I, Ext.refl _ _ _ _, hS, h, fun _ _ _ _ => rfl⟩

theorem yields_value {o : Oper} {x : Value} {w' : World} {Φ : Value → World → Prop} (h : (execOp ρ o).run P w = .ok (.value x) w') (hx : Φ x w') : Yields P o ρ w Φ := by
  unfold Yields; rw [h]; exact hx

theorem yields_skip {o : Oper} {w' : World} {Φ : Value → World → Prop} (h : (execOp ρ o).run P w = .ok .skip w') (hx : Φ undef w') : Yields P o ρ w Φ := by
  unfold Yields; rw [h]; exact hx

theorem run_isAgg {t : TypeId} {g : Bool} (h : aggT P t = some g) (w : World) : (isAgg t).run P w = .ok g w := by
  unfold aggT at h
  unfold isAgg
  split at h <;> simp at h <;> subst h <;> rename_i h <;> simp [run_underlying h]

theorem run_sizeOf {t : TypeId} {m : Nat} (h : sizeT P t = some m) (w : World) : (Go.sizeOf t).run P w = .ok m w := by
  unfold sizeT at h
  split at h <;> simp at h
  subst h
  rename_i h
  simp [Go.sizeOf, typeInfo, h]

theorem RepF.bool {v : Bool} {x : Value} (h : RepF σ β I w n (.d (.v (.bool v))) x) : x = .bool v := by
  cases h with | d h => cases h; rfl

theorem RepF.val {v x : Value} (h : RepF σ β I w n (.d (.v v)) x) : x = v := by
  cases h with | d h => cases h; rfl

theorem RepF.ofV (x : Value) : RepF σ β I w n (.d (.v x)) x := .d (.v x)

theorem y_mov {op : Op} {x : Operand} {f : FV} (hop : op = .move x ∨ op = .assign x) (hS : SimH σ n β I Wr wd (st.base ++ st.loc) w) (hf : RepF σ β I w n f (ρ x)) :
    Yields P ⟨dst, op, type, pos, after, guard⟩ ρ w (Post σ n (st.base ++ st.loc).length β I Wr wd w st f) := by
  refine yields_value (x := ρ x) (w' := w) ?_ (Post.same hS hf)
  rcases hop with rfl | rfl <;> rfl

theorem y_pick {c a b : Operand} {t : Bool} {f : FV} (hS : SimH σ n β I Wr wd (st.base ++ st.loc) w) (hc : RepF σ β I w n (.d (.v (.bool t))) (ρ c)) (hf : RepF σ β I w n f (ρ (if t then a else b))) :
    Yields P ⟨dst, .pick c a b, type, pos, after, guard⟩ ρ w (Post σ n (st.base ++ st.loc).length β I Wr wd w st f) := by
  refine yields_value (x := ρ (if t then a else b)) (w' := w) ?_ (Post.same hS hf)
  have hb := hc.bool
  cases t <;> simp [execOp, asBool, hb]

theorem eqGuard_prim (op : BinOp) (t : TypeId) (x y : Operand) (a b : Value) (h : (∀ cs, a ≠ .agg cs) ∧ a ≠ .nilIface) : eqGuard op t x y a b = pure () := by
  obtain ⟨h1, h2⟩ := h
  unfold eqGuard
  cases a <;> cases op <;> first
    | rfl
    | exact absurd rfl (h1 _)
    | exact absurd rfl h2

theorem binOp_of_binV {op : BinOp} {p q v : Value} (h : binV op p q = some v) (t : TypeId) (w : World) : (binOp op t p q).run P w = .ok v w ∧ (∀ cs, p ≠ .agg cs) ∧ p ≠ .nilIface := by
  unfold binV at h
  split at h
  · rename_i k a k' b
    refine ⟨?_, (fun cs hc => by cases hc), (fun hc => by cases hc)⟩
    cases op <;> simp only at h
    case shl =>
      split at h <;> simp at h
      subst h
      simp [binOp, Op.shift, *]
    case shr =>
      split at h <;> simp at h
      subst h
      simp [binOp, Op.shift, *]
    all_goals
      split at h
      · rename_i hk
        subst hk
        first
          | (simp at h; subst h; simp [binOp, Op.intArith, Op.intBits, Op.intCmp]; done)
          | (split at h <;> simp at h; subst h; simp [binOp, Op.intDiv, *]; done)
          | (simp at h; done)
      · simp at h
  · rename_i a b
    refine ⟨?_, (fun cs hc => by cases hc), (fun hc => by cases hc)⟩
    cases op <;> simp only at h
    case add =>
      split at h
      · simp at h
      · rename_i hh
        simp only [Option.some.injEq] at h
        subst h
        simp only [binOp, Op.stringOp]
        rw [if_neg hh]
        rfl
    all_goals first
      | (simp at h; subst h; simp [binOp, Op.stringOp]; done)
      | (simp at h; done)
  · simp at h

theorem y_bin {op : BinOp} {xt yt : TypeId} {x y : Operand} {p q v : Value} (hv : binV op p q = some v) (hS : SimH σ n β I Wr wd (st.base ++ st.loc) w)
    (hx : RepF σ β I w n (.d (.v p)) (ρ x)) (hy : RepF σ β I w n (.d (.v q)) (ρ y)) :
    Yields P ⟨dst, .binOp op xt x y yt, type, pos, after, guard⟩ ρ w (Post σ n (st.base ++ st.loc).length β I Wr wd w st (.d (.v v))) := by
  refine yields_value (x := v) (w' := w) ?_ (Post.same hS (.ofV _))
  obtain ⟨h1, h2⟩ := binOp_of_binV (P := P) hv xt w
  simp [execOp, hx.val, hy.val, eqGuard_prim _ _ _ _ _ _ h2, h1]

theorem run_equalIn_bool {t : TypeId} (ht : P.underlying t = some .bool) (p q : Bool) (d : Nat) (w : World) : (Op.equalIn (d + 1) t (.bool p) (.bool q)).run P w = .ok (p == q) w := by
  simp only [Op.equalIn, Sem.run_bind, run_underlying ht, Result.andThen_ok]
  rfl

theorem run_equal_bool {t : TypeId} (ht : P.underlying t = some .bool) (p q : Bool) (w : World) : (Op.equal t (.bool p) (.bool q)).run P w = .ok (p == q) w :=
  run_equalIn_bool ht p q 9999 w

theorem y_beq {neg : Bool} {op : BinOp} (hop : op = if neg then .neq else .eql) {xt yt : TypeId} {x y : Operand} {p q : Bool} (ht : P.underlying xt = some .bool) (hS : SimH σ n β I Wr wd (st.base ++ st.loc) w)
    (hx : RepF σ β I w n (.d (.v (.bool p))) (ρ x)) (hy : RepF σ β I w n (.d (.v (.bool q))) (ρ y)) :
    Yields P ⟨dst, .binOp op xt x y yt, type, pos, after, guard⟩ ρ w (Post σ n (st.base ++ st.loc).length β I Wr wd w st (.d (.v (.bool (if neg then !(p == q) else p == q))))) := by
  refine yields_value (x := .bool (if neg then !(p == q) else p == q)) (w' := w) ?_ (Post.same hS (.ofV _))
  subst hop
  have e1 : binOp .eql xt (.bool p) (.bool q) = (do pure (.bool (← Op.equal xt (.bool p) (.bool q)))) := rfl
  have e2 : binOp .neq xt (.bool p) (.bool q) = (do pure (.bool (!(← Op.equal xt (.bool p) (.bool q))))) := rfl
  cases neg
  · simp only [execOp, hx.val, hy.val, eqGuard_at_bool, Bool.false_eq_true, if_false, e1]
    simp [run_equal_bool ht]
  · simp only [execOp, hx.val, hy.val, eqGuard_at_bool, if_true, e2]
    simp [run_equal_bool ht]

theorem y_un {op : UnOp} {xt : TypeId} {x : Operand} {p v : Value} (hv : unV op p = some v) (hS : SimH σ n β I Wr wd (st.base ++ st.loc) w) (hx : RepF σ β I w n (.d (.v p)) (ρ x)) :
    Yields P ⟨dst, .unOp op xt x, type, pos, after, guard⟩ ρ w (Post σ n (st.base ++ st.loc).length β I Wr wd w st (.d (.v v))) := by
  refine yields_value (x := v) (w' := w) ?_ (Post.same hS (.ofV _))
  unfold unV at hv
  split at hv <;> simp at hv <;> subst hv <;> simp [execOp, hx.val, Op.unary, Op.intArith, Op.intBits]

theorem y_conv {src dt : TypeId} {x : Operand} {k ks kx : IntKind} {m : Int} (h1 : P.underlying src = some (.int ks)) (h2 : P.underlying dt = some (.int k)) (hS : SimH σ n β I Wr wd (st.base ++ st.loc) w)
    (hx : RepF σ β I w n (.d (.v (.int kx m))) (ρ x)) :
    Yields P ⟨dst, .convert src dt x, type, pos, after, guard⟩ ρ w (Post σ n (st.base ++ st.loc).length β I Wr wd w st (.d (.v (.int k (k.wrap m))))) := by
  refine yields_value (x := .int k (k.wrap m)) (w' := w) ?_ (Post.same hS (.ofV _))
  simp [execOp, hx.val, convert, run_underlying h1, run_underlying h2, Conv.intToInt]

/-- What holds of the values of an aggregate's cells. -/
theorem repF_allD {cs : List FV} {ds : List D} (h : allD cs = some ds) : cs = ds.map .d := by
  induction cs generalizing ds with
  | nil => simp [allD] at h; subst h; rfl
  | cons c r ih =>
    cases c <;> simp only [allD] at h <;> first | (cases h; done) | skip
    split at h <;> simp at h
    subst h
    rename_i h
    simp [ih h]

theorem RepF.mkA {cs : List FV} {vs : Array Value} (hl : vs.size = cs.length) (h : ∀ (i : Nat) (c : FV) (x : Value), cs[i]? = some c → vs[i]? = some x → RepF σ β I w n c x) : RepF σ β I w n (mkA cs) (.agg vs) := by
  unfold Fi.mkA
  split
  · rename_i ds hd
    have := repF_allD hd
    subst this
    refine .d (.a (by simpa using hl) fun i c x hc hx => ?_)
    have := h i (.d c) x (by simp [hc]) hx
    cases this with | d h => exact h
  · exact .a hl h

theorem RepF.mkT {cs : List FV} {vs : Array Value} (hl : vs.size = cs.length) (h : ∀ (i : Nat) (c : FV) (x : Value), cs[i]? = some c → vs[i]? = some x → RepF σ β I w n c x) : RepF σ β I w n (mkT cs) (.tuple vs) := by
  unfold Fi.mkT
  split
  · rename_i ds hd
    have := repF_allD hd
    subst this
    refine .d (.t (by simpa using hl) fun i c x hc hx => ?_)
    have := h i (.d c) x (by simp [hc]) hx
    cases this with | d h => exact h
  · exact .t hl h

/-- Cells out of an aggregate. -/
theorem repD_part {cs : List D} {vs : Array Value} (hl : vs.size = cs.length) (h : ∀ (i : Nat) (c : D) (x : Value), cs[i]? = some c → vs[i]? = some x → RepD σ I w c x) {agg : Bool} {off m : Nat} {v : D}
    (hp : partD cs agg off m = some v) : ∃ x, (if agg then some (Value.agg (vs.extract off (off + m))) else vs[off]?) = some x ∧ RepD σ I w v x := by
  unfold partD at hp
  cases agg
  · simp only [Bool.false_eq_true, if_false] at hp ⊢
    have hlt : off < cs.length := (List.getElem?_eq_some_iff.1 hp).1
    exact ⟨vs[off]'(by omega), by simp [hl, hlt], h off v _ hp (by simp [hl, hlt])⟩
  · simp only [if_true] at hp ⊢
    split at hp <;> simp at hp
    subst hp
    rename_i hle
    refine ⟨_, rfl, .a (by simp; omega) fun i c x hc hx => ?_⟩
    simp only [List.getElem?_take, List.getElem?_drop] at hc
    split at hc
    · rename_i hi
      refine h (off + i) c x hc ?_
      rw [Array.getElem?_extract] at hx
      split at hx
      · exact hx
      · cases hx
    · cases hc

theorem repF_part {cs : List FV} {vs : Array Value} (hl : vs.size = cs.length) (h : ∀ (i : Nat) (c : FV) (x : Value), cs[i]? = some c → vs[i]? = some x → RepF σ β I w n c x) {agg : Bool} {off m : Nat} {v : FV}
    (hp : partF cs agg off m = some v) : ∃ x, (if agg then some (Value.agg (vs.extract off (off + m))) else vs[off]?) = some x ∧ RepF σ β I w n v x := by
  unfold partF at hp
  cases agg
  · simp only [Bool.false_eq_true, if_false] at hp ⊢
    have hlt : off < cs.length := (List.getElem?_eq_some_iff.1 hp).1
    exact ⟨vs[off]'(by omega), by simp [hl, hlt], h off v _ hp (by simp [hl, hlt])⟩
  · simp only [if_true] at hp ⊢
    split at hp <;> simp at hp
    subst hp
    rename_i hle
    refine ⟨_, rfl, RepF.mkA (by simp; omega) fun i c x hc hx => ?_⟩
    simp only [List.getElem?_take, List.getElem?_drop] at hc
    split at hc
    · rename_i hi
      refine h (off + i) c x hc ?_
      rw [Array.getElem?_extract] at hx
      split at hx
      · exact hx
      · cases hx
    · cases hc

theorem run_part {t : TypeId} {g : Bool} {m off : Nat} {vs : Array Value} {x : Value} (hg : aggT P t = some g) (hm : sizeT P t = some m)
    (hx : (if g then some (Value.agg (vs.extract off (off + m))) else vs[off]?) = some x) (w : World) : (part t vs off).run P w = .ok x w := by
  unfold part
  cases g
  · simp only [Bool.false_eq_true, if_false] at hx
    simp [run_isAgg hg, hx]
  · simp only [if_true] at hx
    cases hx
    simp [run_isAgg hg, run_sizeOf hm]

theorem y_fieldF {s : TypeId} {x : Operand} {i : Nat} {fs : Array Field} {fl : Field} {g : Bool} {m : Nat} {cs : List FV} {v : FV} (hs : P.underlying s = some (.struct fs)) (hfl : fs[i]? = some fl)
    (hg : aggT P fl.type = some g) (hm : sizeT P fl.type = some m) (hv : partF cs g fl.offset m = some v) (hS : SimH σ n β I Wr wd (st.base ++ st.loc) w) (hx : RepF σ β I w n (.a cs) (ρ x)) :
    Yields P ⟨dst, .field s x i, type, pos, after, guard⟩ ρ w (Post σ n (st.base ++ st.loc).length β I Wr wd w st v) := by
  generalize hρ : ρ x = xv at hx
  cases hx with
  | a hl h =>
    rename_i vs
    obtain ⟨y, hy1, hy2⟩ := repF_part hl h hv
    refine yields_value (x := y) (w' := w) ?_ (Post.same hS hy2)
    simp [execOp, hρ, Instr.field, run_underlying hs, hfl, asAgg, run_part hg hm hy1]

theorem y_fieldD {s : TypeId} {x : Operand} {i : Nat} {fs : Array Field} {fl : Field} {g : Bool} {m : Nat} {cs : List D} {v : D} (hs : P.underlying s = some (.struct fs)) (hfl : fs[i]? = some fl)
    (hg : aggT P fl.type = some g) (hm : sizeT P fl.type = some m) (hv : partD cs g fl.offset m = some v) (hS : SimH σ n β I Wr wd (st.base ++ st.loc) w) (hx : RepF σ β I w n (.d (.a cs)) (ρ x)) :
    Yields P ⟨dst, .field s x i, type, pos, after, guard⟩ ρ w (Post σ n (st.base ++ st.loc).length β I Wr wd w st (.d v)) := by
  generalize hρ : ρ x = xv at hx
  cases hx with
  | d hx =>
    cases hx with
    | a hl h =>
      rename_i vs
      obtain ⟨y, hy1, hy2⟩ := repD_part hl h hv
      refine yields_value (x := y) (w' := w) ?_ (Post.same hS (.d hy2))
      simp [execOp, hρ, Instr.field, run_underlying hs, hfl, asAgg, run_part hg hm hy1]

theorem asIntOf_int (k : IntKind) (j : Int) : asIntOf (.int k j) = pure (k, j) := rfl

theorem y_index {t e : TypeId} {x ix : Operand} {len sz : Nat} {g : Bool} {cs : List D} {v : D} {k : IntKind} {j : Int} (ht : P.underlying t = some (.array len e)) (hg : aggT P e = some g) (hm : sizeT P e = some sz)
    (h0 : 0 ≤ j) (h1 : j < len) (hv : partD cs g (j.toNat * sz) sz = some v) (hS : SimH σ n β I Wr wd (st.base ++ st.loc) w) (hx : RepF σ β I w n (.d (.a cs)) (ρ x)) (hi : RepF σ β I w n (.d (.v (.int k j))) (ρ ix)) :
    Yields P ⟨dst, .index t x ix, type, pos, after, guard⟩ ρ w (Post σ n (st.base ++ st.loc).length β I Wr wd w st (.d v)) := by
  generalize hρ : ρ x = xv at hx
  cases hx with
  | d hx =>
    cases hx with
    | a hl h =>
      rename_i vs
      obtain ⟨y, hy1, hy2⟩ := repD_part hl h hv
      refine yields_value (x := y) (w' := w) ?_ (Post.same hS (.d hy2))
      simp [execOp, hρ, hi.val, Instr.index, run_underlying ht, asIntOf_int, h0, h1, run_sizeOf hm, run_part hg hm hy1]

theorem y_sindex {t : TypeId} {x ix : Operand} {s : ByteArray} {k : IntKind} {j : Int} {b : UInt8} (ht : P.underlying t = some .string) (h0 : 0 ≤ j) (hb : s[j.toNat]? = some b)
    (hS : SimH σ n β I Wr wd (st.base ++ st.loc) w) (hx : RepF σ β I w n (.d (.v (.string s))) (ρ x)) (hi : RepF σ β I w n (.d (.v (.int k j))) (ρ ix)) :
    Yields P ⟨dst, .index t x ix, type, pos, after, guard⟩ ρ w (Post σ n (st.base ++ st.loc).length β I Wr wd w st (.d (.v (.int .u8 b.toNat)))) := by
  refine yields_value (x := .int .u8 b.toNat) (w' := w) ?_ (Post.same hS (.ofV _))
  simp [execOp, hx.val, hi.val, Instr.index, run_underlying ht, asIntOf_int, h0, hb]

theorem y_extD {x : Operand} {i : Nat} {vs : List D} {v : D} (hv : vs[i]? = some v) (hS : SimH σ n β I Wr wd (st.base ++ st.loc) w) (hx : RepF σ β I w n (.d (.t vs)) (ρ x)) :
    Yields P ⟨dst, .extract x i, type, pos, after, guard⟩ ρ w (Post σ n (st.base ++ st.loc).length β I Wr wd w st (.d v)) := by
  generalize hρ : ρ x = xv at hx
  cases hx with
  | d hx =>
    cases hx with
    | t hl h =>
      rename_i us
      have hlt : i < vs.length := (List.getElem?_eq_some_iff.1 hv).1
      have hu : us[i]? = some (us[i]'(by omega)) := by simp [hl, hlt]
      refine yields_value (x := us[i]'(by omega)) (w' := w) ?_ (Post.same hS (.d (h i v _ hv hu)))
      simp [execOp, hρ, Instr.extract, hu]

theorem y_extF {x : Operand} {i : Nat} {vs : List FV} {v : FV} (hv : vs[i]? = some v) (hS : SimH σ n β I Wr wd (st.base ++ st.loc) w) (hx : RepF σ β I w n (.t vs) (ρ x)) :
    Yields P ⟨dst, .extract x i, type, pos, after, guard⟩ ρ w (Post σ n (st.base ++ st.loc).length β I Wr wd w st v) := by
  generalize hρ : ρ x = xv at hx
  cases hx with
  | t hl h =>
    rename_i us
    have hlt : i < vs.length := (List.getElem?_eq_some_iff.1 hv).1
    have hu : us[i]? = some (us[i]'(by omega)) := by simp [hl, hlt]
    refine yields_value (x := us[i]'(by omega)) (w' := w) ?_ (Post.same hS (h i v _ hv hu))
    simp [execOp, hρ, Instr.extract, hu]
end ops
end Fi
