/-
  One operation of the model does what the functional interpreter says: the rest of those that call nothing.
-/
import Derived.Test.YtonmcbnjifeagaaGreatDoorFiOps6
set_option linter.unusedVariables false
set_option linter.unusedSimpArgs false
namespace Fi
open Go

theorem run_listMapM {α β : Type} {P : Program} {w : World} {f : α → Sem β} {h : α → β} : ∀ (l : List α), (∀ a ∈ l, (f a).run P w = .ok (h a) w) → (l.mapM f).run P w = .ok (l.map h) w
  | [], _ => by simp
  | a :: l, H => by
    have ih := run_listMapM l (fun b hb => H b (by simp [hb]))
    simp [List.mapM_cons, H a (by simp), ih]

theorem run_arrayMapM {α β : Type} {P : Program} {w : World} {f : α → Sem β} {h : α → β} (a : Array α) (H : ∀ x ∈ a.toList, (f x).run P w = .ok (h x) w) : (a.mapM f).run P w = .ok (a.map h) w := by
  have h1 := run_listMapM (P := P) (w := w) a.toList H
  have h2 : a.mapM f = Functor.map List.toArray (a.toList.mapM f) := by
    rw [← List.mapM_toArray]
  rw [h2, Sem.run_map, h1]
  simp only [Result.andThen_ok]
  congr 1
  apply Array.ext'
  simp

section ops
variable {P : Program} {σ : Nat → Option FuncId} {β : Map} {I Wr : Nat → Prop} {wd : Nat → Prop} {w : World} {st : St} {ρ : Operand → Value}
variable {dst : Option Tmp} {type : TypeId} {pos : String} {after : Array Edge} {guard : Option (Nat × Bool)}

/-- Cells, one by one. -/
def RepC (σ : Nat → Option FuncId) (β : Map) (I : Nat → Prop) (w : World) (n : Nat) (cs : List FV) (vs : List Value) : Prop :=
  vs.length = cs.length ∧ ∀ (i : Nat) (c : FV) (x : Value), cs[i]? = some c → vs[i]? = some x → RepF σ β I w n c x

theorem RepC.splice {n off : Nat} {cs : List FV} {vs : List Value} {ds : List FV} {us : List Value} (h : RepC σ β I w n cs vs) (k : RepC σ β I w n ds us) (hle : off + ds.length ≤ cs.length) :
    RepC σ β I w n (splice cs off ds) (splice vs off us) := by
  obtain ⟨h1, h2⟩ := h
  obtain ⟨k1, k2⟩ := k
  refine ⟨by rw [length_splice _ _ _ (by omega), length_splice _ _ _ hle, h1], fun i c x hc hx => ?_⟩
  rw [getElem?_splice _ _ _ hle] at hc
  rw [getElem?_splice _ _ _ (by omega), k1] at hx
  by_cases a : i < off
  · rw [if_pos a] at hc hx; exact h2 i c x hc hx
  · rw [if_neg a] at hc hx
    by_cases b : i < off + ds.length
    · rw [if_pos b] at hc hx; exact k2 _ c x hc hx
    · rw [if_neg b] at hc hx; exact h2 i c x hc hx

theorem fill_build {n : Nat} {place : Nat → Option (Nat × Nat)} : ∀ {parts : List (Nat × Value)} {os : List (Nat × Nat × FV)} {cs cs' : List FV} {cells : Array Value}, RepC σ β I w n cs cells.toList → parts.length = os.length →
    (∀ (i : Nat) (p : Nat × Value) (o : Nat × Nat × FV), parts[i]? = some p → os[i]? = some o → place p.1 = some (o.1, o.2.1) ∧ RepF σ β I w n o.2.2 p.2) →
    fillF cs os = some cs' → ∃ cells', Instr.fill place cells parts = some cells' ∧ RepC σ β I w n cs' cells'.toList
  | [], os, cs, cs', cells, hC, hl, _, h => by
    have : os = [] := by cases os <;> simp_all
    subst this
    simp [fillF] at h; subst h
    exact ⟨cells, rfl, hC⟩
  | (i, v) :: parts, [], cs, cs', cells, hC, hl, hp, h => by simp at hl
  | (i, v) :: parts, (off, size, x) :: os, cs, cs', cells, hC, hl, hp, h => by
    simp only [fillF] at h
    split at h
    · rename_i hh
      obtain ⟨a1, a2, a3⟩ := hh
      obtain ⟨b1, b2⟩ := hp 0 (i, v) (off, size, x) rfl rfl
      obtain ⟨c1, c2, c3⟩ := b2.cells a3
      have c1' : v.cells.size = x.cells.length := c1
      have b1' : place i = some (off, size) := b1
      have a1' : x.cells.length = size := a1
      have a2' : off + size ≤ cs.length := a2
      have hcl : cells.size = cs.length := by simpa using hC.1
      have hst := fill_step place cells i v parts b1' (by omega) (by omega)
      obtain ⟨cells', d1, d2⟩ := fill_build (cells := (Fi.splice cells.toList off v.cells.toList).toArray) (parts := parts) (os := os)
        (by simpa using hC.splice (ds := x.cells) (us := v.cells.toList) ⟨by simpa using c1', fun j c y hc hy => c2 j c y hc (by simpa using hy)⟩ (by omega)) (by simpa using hl)
        (fun k p z hk hz => hp (k + 1) p z (by simpa using hk) (by simpa using hz)) h
      exact ⟨cells', by rw [hst]; exact d1, d2⟩
    · simp at h

theorem y_build {t : TypeId} {parts : Array (Nat × Operand)} {z : List D} {cx : Cx} {place : Nat → Option (Nat × Nat)} {os : List (Nat × Nat × FV)} {cs' : List FV} (hgid : ∀ f g, cx.gid f = some g → σ g = some f) (hz : zeroD cx P t = some z)
    (ht : (∃ fs, P.underlying t = some (.struct fs) ∧ (∀ f ∈ fs.toList, (sizeT P f.type).isSome) ∧ place = fun i => (fs[i]?).map fun f => (f.offset, (sizeT P f.type).getD 0)) ∨
      (∃ len e sz, P.underlying t = some (.array len e) ∧ sizeT P e = some sz ∧ place = fun i => some (i * sz, sz)))
    (hl : parts.toList.length = os.length)
    (hp : ∀ (i : Nat) (p : Nat × Operand) (o : Nat × Nat × FV), parts.toList[i]? = some p → os[i]? = some o → place p.1 = some (o.1, o.2.1) ∧ RepF σ β I w st.base.length o.2.2 (ρ p.2))
    (hf : fillF (z.map .d) os = some cs') (hS : SimH σ st.base.length β I Wr wd (st.base ++ st.loc) w) :
    Yields P ⟨dst, .build t parts, type, pos, after, guard⟩ ρ w (Post σ st.base.length (st.base ++ st.loc).length β I Wr wd w st (mkA cs')) := by
  obtain ⟨i, zv, hi, hzv, hzlen, hrep, _⟩ := zeroD_spec (σ := σ) (I := I) (w := w) hgid hz
  obtain ⟨cells', f1, f2⟩ := fill_build (σ := σ) (β := β) (I := I) (w := w) (n := st.base.length) (place := place) (parts := parts.toList.map fun p => (p.1, ρ p.2)) (os := os) (cells := zv.cells)
    (cs := z.map .d) ⟨by simp [hzlen], fun j c x hc hx => by
      simp only [List.getElem?_map, Option.map_eq_some_iff] at hc
      obtain ⟨d, hd, rfl⟩ := hc
      exact .d (hrep j d x hd (by simpa using hx))⟩ (by simpa using hl)
    (fun k p o hk ho => by
      simp only [List.getElem?_map, Option.map_eq_some_iff] at hk
      obtain ⟨q, hq, rfl⟩ := hk
      exact hp k q o hq ho) hf
  refine yields_value (x := .agg cells') (w' := w) ?_ (Post.same hS (RepF.mkA (by simpa using f2.1) (fun k c x hc hx => f2.2 k c x hc (by simpa using hx))))
  rcases ht with ⟨fs, h1, h2, rfl⟩ | ⟨len, e, sz, h1, h2, rfl⟩
  · have hm := run_arrayMapM (P := P) (w := w) (f := fun f : Field => (do pure (f.offset, ← Go.sizeOf f.type) : Sem (Nat × Nat))) (h := fun f : Field => (f.offset, (sizeT P f.type).getD 0)) fs (fun f hf => by
      obtain ⟨m, hm⟩ := Option.isSome_iff_exists.1 (h2 f hf)
      simp [run_sizeOf hm, hm])
    have hfe : (fun i : Nat => (fs.map fun f : Field => (f.offset, (sizeT P f.type).getD 0))[i]?) = (fun i : Nat => (fs[i]?).map fun f : Field => (f.offset, (sizeT P f.type).getD 0)) := by
      funext i; simp
    simp only [execOp, Instr.build, Sem.run_bind, zeroValue, typeInfo, run_program, hi, hzv, Result.andThen_ok, Sem.run_pure, run_underlying h1, hm]
    rw [hfe]
    simp [f1]
  · simp [execOp, Instr.build, zeroValue, typeInfo, hi, hzv, run_underlying h1, run_sizeOf h2, f1]

theorem exec_builtin2 (ρ : Operand → Value) (dst : Option Tmp) (type : TypeId) (pos : String) (after : Array Edge) (guard : Option (Nat × Bool)) (b : Builtin) (t u : TypeId) (x y : Operand) :
    ∃ cs, execOp ρ ⟨dst, .call { callee := .builtin b, args := #[x, y], argTypes := #[t, u] }, type, pos, after, guard⟩ = builtin b #[t, u] type cs #[ρ x, ρ y] :=
  ⟨_, by simp [execOp, resolve, invoke]; rfl⟩

theorem exec_builtin1 (ρ : Operand → Value) (dst : Option Tmp) (type : TypeId) (pos : String) (after : Array Edge) (guard : Option (Nat × Bool)) (b : Builtin) (t : TypeId) (x : Operand) :
    ∃ cs, execOp ρ ⟨dst, .call { callee := .builtin b, args := #[x], argTypes := #[t] }, type, pos, after, guard⟩ = builtin b #[t] type cs #[ρ x] :=
  ⟨_, by simp [execOp, resolve, invoke]; rfl⟩

theorem y_len_slice {t e : TypeId} {x : Operand} {a : Option Addr} {m c : Nat} (ht : P.underlying t = some (.slice e)) (hx : ρ x = .slice a m c) (hS : SimH σ st.base.length β I Wr wd (st.base ++ st.loc) w) :
    Yields P ⟨dst, .call { callee := .builtin .len, args := #[x], argTypes := #[t] }, type, pos, after, guard⟩ ρ w (Post σ st.base.length (st.base ++ st.loc).length β I Wr wd w st (.d (.v (.int .i64 m)))) := by
  refine yields_value (x := .int .i64 m) (w' := w) ?_ (Post.same hS (.ofV _))
  obtain ⟨cs, hc⟩ := exec_builtin1 ρ dst type pos after guard .len t x
  rw [hc, hx]
  simp [builtin, Builtin.len_, run_underlying ht, goInt]

theorem y_len_string {t : TypeId} {x : Operand} {s : ByteArray} (ht : P.underlying t = some .string) (hx : ρ x = .string s) (hS : SimH σ st.base.length β I Wr wd (st.base ++ st.loc) w) :
    Yields P ⟨dst, .call { callee := .builtin .len, args := #[x], argTypes := #[t] }, type, pos, after, guard⟩ ρ w (Post σ st.base.length (st.base ++ st.loc).length β I Wr wd w st (.d (.v (.int .i64 s.size)))) := by
  refine yields_value (x := .int .i64 s.size) (w' := w) ?_ (Post.same hS (.ofV _))
  obtain ⟨cs, hc⟩ := exec_builtin1 ρ dst type pos after guard .len t x
  rw [hc, hx]
  simp [builtin, Builtin.len_, run_underlying ht, goInt]

theorem y_maxi {t u : TypeId} {x y : Operand} {k k' : IntKind} {a b : Int} (hS : SimH σ st.base.length β I Wr wd (st.base ++ st.loc) w) (hx : ρ x = .int k a) (hy : ρ y = .int k' b) :
    Yields P ⟨dst, .call { callee := .builtin .max, args := #[x, y], argTypes := #[t, u] }, type, pos, after, guard⟩ ρ w (Post σ st.base.length (st.base ++ st.loc).length β I Wr wd w st (.d (.v (.int k (if b > a then b else a))))) := by
  refine yields_value (x := .int k (if b > a then b else a)) (w' := w) ?_ (Post.same hS (.ofV _))
  obtain ⟨cs, hc⟩ := exec_builtin2 ρ dst type pos after guard .max t u x y
  rw [hc, hx, hy]
  simp [builtin, Builtin.max_, Builtin.max2]

theorem y_mini {t u : TypeId} {x y : Operand} {k k' : IntKind} {a b : Int} (hS : SimH σ st.base.length β I Wr wd (st.base ++ st.loc) w) (hx : ρ x = .int k a) (hy : ρ y = .int k' b) :
    Yields P ⟨dst, .call { callee := .builtin .min, args := #[x, y], argTypes := #[t, u] }, type, pos, after, guard⟩ ρ w (Post σ st.base.length (st.base ++ st.loc).length β I Wr wd w st (.d (.v (.int k (if b < a then b else a))))) := by
  refine yields_value (x := .int k (if b < a then b else a)) (w' := w) ?_ (Post.same hS (.ofV _))
  obtain ⟨cs, hc⟩ := exec_builtin2 ρ dst type pos after guard .min t u x y
  rw [hc, hx, hy]
  simp [builtin, Builtin.min_, Builtin.min2]

/-- A bound of a slice expression. -/
def BoundR (ρ : Operand → Value) (x : Option Operand) (dflt i : Int) : Prop :=
  match x with
  | none => i = dflt
  | some o => ∃ k, ρ o = .int k i

theorem run_sliceBound {k : IntKind} {i : Int} {y : Nat} {code : BoundsCode} (h0 : 0 ≤ i) (h1 : i ≤ y) : (Instr.sliceBound (.int k i) y code).run P w = .ok i.toNat w := by
  have c : 0 ≤ i ∧ i ≤ (y : Int) := ⟨h0, h1⟩
  simp [Instr.sliceBound, asIntOf_int, c]

theorem run_sliceBounds {isSlice : Bool} {len cap : Nat} {lo hi : Option Operand} {l h : Int} (hl : BoundR ρ lo 0 l) (hh : BoundR ρ hi len h) (h0 : 0 ≤ l) (h1 : l ≤ h) (h2 : h ≤ cap) :
    (Instr.sliceBounds isSlice len cap (lo.map ρ) (hi.map ρ) none).run P w = .ok (l.toNat, h.toNat, cap) w := by
  have e1 : ∀ (k : IntKind) (code : BoundsCode), (Instr.sliceBound (.int k h) cap code).run P w = .ok h.toNat w := fun k code => run_sliceBound (by omega) h2
  have e2 : ∀ (k : IntKind) (code : BoundsCode), (Instr.sliceBound (.int k l) h.toNat code).run P w = .ok l.toNat w := fun k code => run_sliceBound h0 (by omega)
  cases hi with
  | none =>
    have hh' : h = len := hh
    subst hh'
    cases lo with
    | none =>
      have hl' : l = 0 := hl
      subst hl'
      simp [Instr.sliceBounds]
    | some o =>
      obtain ⟨k, hk⟩ := hl
      have e3 := fun code => e2 k code
      simp only [Int.toNat_natCast] at e3
      simp [Instr.sliceBounds, hk, e3]
  | some o' =>
    obtain ⟨k', hk'⟩ := hh
    cases lo with
    | none =>
      have hl' : l = 0 := hl
      subst hl'
      simp [Instr.sliceBounds, hk', e1]
    | some o =>
      obtain ⟨k, hk⟩ := hl
      simp [Instr.sliceBounds, hk, hk', e1, e2]

theorem run_slice_slice {t e : TypeId} {sz : Nat} {a : Option Addr} {len cap : Nat} {lo hi : Option Operand} {l h : Int} (ht : P.underlying t = some (.slice e)) (hm : sizeT P e = some sz) (hl : BoundR ρ lo 0 l) (hh : BoundR ρ hi len h)
    (h0 : 0 ≤ l) (h1 : l ≤ h) (h2 : h ≤ cap) :
    (Instr.sliceAt t (.slice a len cap) (lo.map ρ) (hi.map ρ) none).run P w = .ok (.slice (if cap = l.toNat then a else a.map (·.add (l.toNat * sz))) (h.toNat - l.toNat) (cap - l.toNat)) w := by
  simp [Instr.sliceAt, run_underlying ht, Instr.slice, run_sliceBounds hl hh h0 h1 h2, run_sizeOf hm]

theorem y_slice_n {t e : TypeId} {sz : Nat} {x : Operand} {lo hi : Option Operand} (ht : P.underlying t = some (.slice e)) (hm : sizeT P e = some sz) (hl : BoundR ρ lo 0 0) (hh : BoundR ρ hi 0 0)
    (hS : SimH σ st.base.length β I Wr wd (st.base ++ st.loc) w) (hx : RepF σ β I w st.base.length (.d (.n sz)) (ρ x)) :
    Yields P ⟨dst, .slice t x lo hi none, type, pos, after, guard⟩ ρ w (Post σ st.base.length (st.base ++ st.loc).length β I Wr wd w st (.d (.n sz))) := by
  refine yields_value (x := .slice none 0 0) (w' := w) ?_ (Post.same hS (.d (.n sz)))
  have := run_slice_slice (P := P) (w := w) (a := none) (len := 0) (cap := 0) ht hm hl (by simpa using hh) (Int.le_refl 0) (Int.le_refl 0) (by simp)
  simp [execOp, nil_inv hx, this]

theorem y_slice_s {t e : TypeId} {sz : Nat} {x : Operand} {lo hi : Option Operand} {es : List D} {l h : Int} (ht : P.underlying t = some (.slice e)) (hm : sizeT P e = some sz) (hl : BoundR ρ lo 0 l) (hh : BoundR ρ hi es.length h)
    (h0 : 0 ≤ l) (h1 : l ≤ h) (h2 : h ≤ es.length) (hS : SimH σ st.base.length β I Wr wd (st.base ++ st.loc) w) (hx : RepF σ β I w st.base.length (.d (.s sz es)) (ρ x)) :
    Yields P ⟨dst, .slice t x lo hi none, type, pos, after, guard⟩ ρ w (Post σ st.base.length (st.base ++ st.loc).length β I Wr wd w st (.d (.s sz ((es.drop l.toNat).take (h.toNat - l.toNat))))) := by
  generalize hρ : ρ x = xv at hx
  cases hx with
  | d hx =>
    cases hx with
    | s0 =>
      have hl0 : l = 0 := by simp at h2; omega
      have hh0 : h = 0 := by simp at h2; omega
      subst hl0; subst hh0
      have := run_slice_slice (P := P) (w := w) (a := none) (len := 0) (cap := 0) ht hm hl (by simpa using hh) (Int.le_refl 0) (Int.le_refl 0) (by simp)
      refine yields_value (x := .slice none 0 0) (w' := w) ?_ (Post.same hS (.d (by simpa using RepD.s0 sz)))
      simp [execOp, hρ, this]
    | s u hb hc hsz hone hcell hrep =>
      rename_i b off cap
      have hrun := run_slice_slice (P := P) (w := w) (a := some ⟨b, off, none⟩) (len := es.length) (cap := cap) ht hm hl hh h0 h1 (by omega)
      have hlen : ((es.drop l.toNat).take (h.toNat - l.toNat)).length = h.toNat - l.toNat := by simp; omega
      by_cases hcl : cap = l.toNat
      · rw [if_pos hcl] at hrun
        refine yields_value (x := .slice (some ⟨b, off, none⟩) (h.toNat - l.toNat) (cap - l.toNat)) (w' := w) ?_ (Post.same hS (.d ?_))
        · simp [execOp, hρ, hrun]
        · have hz : (es.drop l.toNat).take (h.toNat - l.toNat) = [] := List.eq_nil_of_length_eq_zero (by rw [hlen]; omega)
          rw [hz]
          have := RepD.s (σ := σ) (I := I) (w := w) (sz := sz) (es := []) (b := b) (off := off) (cap := cap - l.toNat) (fun _ _ => undef) hb (by simp) (by simp) (by simp) (fun i e j c he => by simp at he) (fun i e j c he => by simp at he)
          rw [show h.toNat - l.toNat = 0 by omega]
          exact this
      · rw [if_neg hcl] at hrun
        refine yields_value (x := .slice (some ⟨b, off + l.toNat * sz, none⟩) (h.toNat - l.toNat) (cap - l.toNat)) (w' := w) ?_ (Post.same hS (.d ?_))
        · simp only [execOp, hρ, Option.map_none, Sem.run_bind, hrun, Result.andThen_ok, Option.map_some, add_none]; rfl
        · have hget : ∀ (i : Nat) (e : D), ((es.drop l.toNat).take (h.toNat - l.toNat))[i]? = some e → es[l.toNat + i]? = some e := by
            intro i e he
            rw [List.getElem?_take] at he
            split at he
            · rw [List.getElem?_drop] at he; exact he
            · cases he
          have := RepD.s (σ := σ) (I := I) (w := w) (sz := sz) (es := (es.drop l.toNat).take (h.toNat - l.toNat)) (b := b) (off := off + l.toNat * sz) (cap := cap - l.toNat) (fun i j => u (l.toNat + i) j) hb (by rw [hlen]; omega)
            (fun e he => hsz e (List.mem_of_mem_drop (List.mem_of_mem_take he))) (fun e he => hone e (List.mem_of_mem_drop (List.mem_of_mem_take he)))
            (fun i e j c he hj => by
              have := hcell _ e j c (hget i e he) hj
              rw [show off + l.toNat * sz + i * sz + j = off + (l.toNat + i) * sz + j by rw [Nat.add_mul]; omega]; exact this)
            (fun i e j c he hj => hrep _ e j c (hget i e he) hj)
          rw [hlen] at this
          exact this

theorem y_slice_ls {t e : TypeId} {sz ver off m : Nat} {q : Ref} {x : Operand} {lo hi : Option Operand} {l h : Int} (ht : P.underlying t = some (.slice e)) (hm : sizeT P e = some sz) (hl : BoundR ρ lo 0 l) (hh : BoundR ρ hi m h)
    (h0 : 0 ≤ l) (h1 : l ≤ h) (h2 : h ≤ m) (hS : SimH σ st.base.length β I Wr wd (st.base ++ st.loc) w) (hx : RepF σ β I w st.base.length (.ls q ver sz off m) (ρ x)) :
    Yields P ⟨dst, .slice t x lo hi none, type, pos, after, guard⟩ ρ w (Post σ st.base.length (st.base ++ st.loc).length β I Wr wd w st (.ls q ver sz (off + l.toNat) (h.toNat - l.toNat))) := by
  obtain ⟨b, bo, cap, o, hβ, hlc, hoo, hρx⟩ := ls_inv hx
  have hrun := run_slice_slice (P := P) (w := w) (a := some ⟨b, o, none⟩) (len := m) (cap := cap - off) ht hm hl hh h0 h1 (by omega)
  rw [show cap - off - l.toNat = cap - (off + l.toNat) by omega] at hrun
  by_cases hcl : cap - off = l.toNat
  · rw [if_pos hcl] at hrun
    refine yields_value (x := .slice (some ⟨b, o, none⟩) (h.toNat - l.toNat) (cap - (off + l.toNat))) (w' := w) ?_ (Post.same hS (.ls hβ (by omega) (fun hh => by omega)))
    simp [execOp, hρx, hrun]
  · rw [if_neg hcl] at hrun
    refine yields_value (x := .slice (some ⟨b, o + l.toNat * sz, none⟩) (h.toNat - l.toNat) (cap - (off + l.toNat))) (w' := w) ?_ (Post.same hS (.ls hβ (by omega) (fun hh => by rw [hoo (by omega), Nat.add_mul]; omega)))
    simp only [execOp, hρx, Option.map_none, Sem.run_bind, hrun, Result.andThen_ok, Option.map_some, add_none]; rfl

theorem y_sslice {t : TypeId} {s : ByteArray} {x : Operand} {lo hi : Option Operand} {l h : Int} (ht : P.underlying t = some .string) (hl : BoundR ρ lo 0 l) (hh : BoundR ρ hi s.size h)
    (h0 : 0 ≤ l) (h1 : l ≤ h) (h2 : h ≤ s.size) (hS : SimH σ st.base.length β I Wr wd (st.base ++ st.loc) w) (hx : RepF σ β I w st.base.length (.d (.v (.string s))) (ρ x)) :
    Yields P ⟨dst, .slice t x lo hi none, type, pos, after, guard⟩ ρ w (Post σ st.base.length (st.base ++ st.loc).length β I Wr wd w st (.d (.v (.string (s.extract l.toNat h.toNat))))) := by
  refine yields_value (x := .string (s.extract l.toNat h.toNat)) (w' := w) ?_ (Post.same hS (.ofV _))
  simp [execOp, hx.val, Instr.sliceAt, run_underlying ht, Instr.slice, run_sliceBounds hl hh h0 h1 h2]

theorem run_equalIn_nilS {t e : TypeId} (ht : P.underlying t = some (.slice e)) (a : Option Addr) (l c : Nat) (d : Nat) (w : World) : (Op.equalIn (d + 1) t (.slice a l c) (.slice none 0 0)).run P w = .ok a.isNone w := by
  cases a <;> simp [Op.equalIn, run_underlying ht]

theorem run_equalIn_nilI {t : TypeId} {ms : Array (String × TypeId)} (ht : P.underlying t = some (.interface ms)) (v : Value) (r : Bool) (hv : (v = .nilIface ∧ r = true) ∨ (∃ k y, v = .iface k y ∧ r = false)) (d : Nat) (w : World) :
    (Op.equalIn (d + 1) t v .nilIface).run P w = .ok r w := by
  rcases hv with ⟨rfl, rfl⟩ | ⟨k, y, rfl, rfl⟩ <;> simp [Op.equalIn, run_underlying ht]

theorem y_nil_slice {neg : Bool} {op : BinOp} (hop : op = if neg then .neq else .eql) (hcst : ∀ v, ρ (.const v) = v) {xt yt e : TypeId} {x : Operand} {a : Option Addr} {l c : Nat} (ht : P.underlying xt = some (.slice e)) (hx : ρ x = .slice a l c)
    (hS : SimH σ st.base.length β I Wr wd (st.base ++ st.loc) w) :
    Yields P ⟨dst, .binOp op xt x (.const (.slice none 0 0)) yt, type, pos, after, guard⟩ ρ w (Post σ st.base.length (st.base ++ st.loc).length β I Wr wd w st (.d (.v (.bool (if neg then !a.isNone else a.isNone))))) := by
  subst hop
  have hq : (Op.equal xt (.slice a l c) (.slice none 0 0)).run P w = .ok a.isNone w := run_equalIn_nilS ht a l c 9999 w
  have e1 : binOp .eql xt (.slice a l c) (.slice none 0 0) = (do pure (.bool (← Op.equal xt (.slice a l c) (.slice none 0 0)))) := rfl
  have e2 : binOp .neq xt (.slice a l c) (.slice none 0 0) = (do pure (.bool (!(← Op.equal xt (.slice a l c) (.slice none 0 0))))) := rfl
  refine yields_value (x := .bool (if neg then !a.isNone else a.isNone)) (w' := w) ?_ (Post.same hS (.ofV _))
  cases neg
  · simp only [execOp, hx, hcst, eqGuard_at_slice, Bool.false_eq_true, if_false, e1]
    simp [hq]
  · simp only [execOp, hx, hcst, eqGuard_at_slice, if_true, e2]
    simp [hq]

theorem y_nil_iface {neg : Bool} {op : BinOp} (hop : op = if neg then .neq else .eql) (hcst : ∀ v, ρ (.const v) = v) {xt yt : TypeId} {ms : Array (String × TypeId)} {x : Operand} {v : Value} {r : Bool} (ht : P.underlying xt = some (.interface ms)) (hx : ρ x = v)
    (hv : (v = .nilIface ∧ r = true) ∨ (∃ k y, v = .iface k y ∧ r = false)) (hS : SimH σ st.base.length β I Wr wd (st.base ++ st.loc) w) :
    Yields P ⟨dst, .binOp op xt x (.const .nilIface) yt, type, pos, after, guard⟩ ρ w (Post σ st.base.length (st.base ++ st.loc).length β I Wr wd w st (.d (.v (.bool (if neg then !r else r))))) := by
  subst hop
  have hq : (Op.equal xt v .nilIface).run P w = .ok r w := run_equalIn_nilI ht v r hv 9999 w
  have hgd : ∀ op, eqGuard op xt x (.const .nilIface) v .nilIface = pure () := by
    intro op
    rcases hv with ⟨rfl, _⟩ | ⟨k, y, rfl, _⟩
    · exact eqGuard_nil_constR _ _ _ _
    · exact eqGuard_at_iface _ _ _ _ _ _ _
  have e1 : binOp .eql xt v .nilIface = (do pure (.bool (← Op.equal xt v .nilIface))) := by rcases hv with ⟨rfl, _⟩ | ⟨k, y, rfl, _⟩ <;> rfl
  have e2 : binOp .neq xt v .nilIface = (do pure (.bool (!(← Op.equal xt v .nilIface)))) := by rcases hv with ⟨rfl, _⟩ | ⟨k, y, rfl, _⟩ <;> rfl
  refine yields_value (x := .bool (if neg then !r else r)) (w' := w) ?_ (Post.same hS (.ofV _))
  cases neg
  · simp only [execOp, hx, hcst, hgd, Bool.false_eq_true, if_false, e1]
    simp [hq]
  · simp only [execOp, hx, hcst, hgd, if_true, e2]
    simp [hq]

theorem y_clo {f : FuncId} {g : Nat} {first captured : Array Operand} {fs cs : List FV} (hg : σ g = some f) (h1 : RepC σ β I w st.base.length fs (first.map ρ).toList) (h2 : RepC σ β I w st.base.length cs (captured.map ρ).toList)
    (hS : SimH σ st.base.length β I Wr wd (st.base ++ st.loc) w) :
    Yields P ⟨dst, .makeFunc (.func f) first captured, type, pos, after, guard⟩ ρ w (Post σ st.base.length (st.base ++ st.loc).length β I Wr wd w st (if fs.isEmpty ∧ cs.isEmpty then .d (.fn g) else .f g fs cs)) := by
  refine yields_value (x := .func (.func f) (first.map ρ) (captured.map ρ)) (w' := w) rfl (Post.same hS ?_)
  split
  · rename_i hh
    have e1 : fs = [] := by simpa using hh.1
    have e2 : cs = [] := by simpa using hh.2
    subst e1; subst e2
    have a1 : first.map ρ = #[] := by have := h1.1; simpa using this
    have a2 : captured.map ρ = #[] := by have := h2.1; simpa using this
    rw [a1, a2]
    exact .d (.fn hg)
  · exact .f hg (by simpa using h1.1) (by simpa using h2.1) (fun i c x hc hx => h1.2 i c x hc (by rw [Array.getElem?_toList]; exact hx)) (fun i c x hc hx => h2.2 i c x hc (by rw [Array.getElem?_toList]; exact hx))
end ops
end Fi
