import Derived.Test.YtonmcbnjifeagaaGreatDoorFiCall
set_option linter.unusedVariables false
set_option linter.unusedSimpArgs false
namespace Fi
open Go

section leave
variable {σ : Nat → Option FuncId} {β : Map} {I I' Wr : Nat → Prop} {wd : Nat → Prop} {w : World} {st st' : St}

theorem ls_data {p : Ref} {ver sz off len : Nat} {x : Value} {es : List D} (hS : SimH σ st.base.length β I Wr wd (st.base ++ st.loc) w)
    (hp : st.heap p = some (.row ver sz es) ∨ st.heap p = some (.frz ver sz es)) (hle : off + len ≤ es.length) (hr : RepF σ β I w st.base.length (.ls p ver sz off len) x)
    (hm : ∀ b, I b → I' b) (hI : ∀ b bo cap, β (p.abs st.base.length) ver = some (b, bo, cap) → I' b) : RepD σ I' w (.s sz ((es.drop off).take len)) x := by
  obtain ⟨b, bo, cap, o, hβ, hlc, hoo, rfl⟩ := ls_inv hr
  have hat : AtRows σ I w b bo cap sz es := by
    rw [St.heap_eq] at hp
    rcases hp with hp | hp
    · exact (hS.row _ _ _ _ _ _ _ hp hβ).1
    · exact (hS.frz _ _ _ _ _ _ _ hp hβ).1
  have hb := hI b bo cap hβ
  have hlen : ((es.drop off).take len).length = len := by simp; omega
  by_cases hoc : off < cap
  · have ho := hoo hoc
    have hrep : ∀ (i : Nat) (e : D) (j : Nat) (c : D), ((es.drop off).take len)[i]? = some e → e.cells[j]? = some c → ∃ y, w.cell? ⟨b, o + i * sz + j, none⟩ = some y ∧ RepD σ I' w c y := by
      intro i e j c he hc
      rw [List.getElem?_take] at he
      split at he
      · rw [List.getElem?_drop] at he
        obtain ⟨y, h1, h2⟩ := hat.at_ _ e he j c hc
        refine ⟨y, ?_, h2.mono hm (fun _ _ => rfl)⟩
        rw [ho, show bo + off * sz + i * sz + j = bo + (off + i) * sz + j by rw [Nat.add_mul]; omega]
        exact h1
      · cases he
    have := RepD.s (σ := σ) (I := I') (w := w) (sz := sz) (es := (es.drop off).take len) (b := b) (off := o) (cap := cap - off) (fun i j => (w.cell? ⟨b, o + i * sz + j, none⟩).getD undef) hb (by omega)
      (fun e he => hat.wide e (List.mem_of_mem_drop (List.mem_of_mem_take he))) (fun e he => hat.one e (List.mem_of_mem_drop (List.mem_of_mem_take he)))
      (fun i e j c he hc => by obtain ⟨y, h1, _⟩ := hrep i e j c he hc; simp only [h1, Option.getD_some])
      (fun i e j c he hc => by obtain ⟨y, h1, h2⟩ := hrep i e j c he hc; simp only [h1, Option.getD_some]; exact h2)
    rw [hlen] at this
    exact this
  · have h0 : len = 0 := by omega
    subst h0
    have := RepD.s (σ := σ) (I := I') (w := w) (sz := sz) (es := []) (b := b) (off := o) (cap := cap - off) (fun _ _ => undef) hb (by simp) (by simp) (by simp) (fun i e j c he => by simp at he) (fun i e j c he => by simp at he)
    simpa using this

/-- Rows of these values are data from now on. -/
def RowsIn (β : Map) (I' : Nat → Prop) (st : St) (rs : List Ref) : Prop :=
  ∀ p ∈ rs, ∀ ver sz es b bo cap, (st.heap p = some (.row ver sz es) ∨ st.heap p = some (.frz ver sz es)) → β (p.abs st.base.length) ver = some (b, bo, cap) → I' b

theorem leave1_spec {v v' : FV} {x : Value} (hS : SimH σ st.base.length β I Wr wd (st.base ++ st.loc) w) (h : leave1 st v = some v') (hr : RepF σ β I w st.base.length v x) (hm : ∀ b, I b → I' b) (hI : RowsIn β I' st v.rows1) :
    RepF σ β I' w st.base.length v' x := by
  unfold leave1 at h
  split at h
  · cases h
    cases hr with | d hr => exact .d (hr.norm1.mono hm (fun _ _ => rfl))
  · rename_i p ver sz off len
    split at h <;> simp at h
    subst h
    rename_i es hes
    simp only [elems, if_true] at hes
    split at hes
    · rename_i o ho
      unfold AObj.view at hes
      split at hes
      · split at hes <;> simp at hes
        rename_i hh
        obtain ⟨rfl, rfl, hle⟩ := hh
        subst hes
        exact .d (ls_data hS (.inl ho) hle hr hm (fun b bo cap hβ => hI p (by simp [FV.rows1]) _ _ _ b bo cap (.inl ho) hβ))
      · split at hes <;> simp at hes
        rename_i hh
        obtain ⟨rfl, rfl, hle⟩ := hh
        subst hes
        exact .d (ls_data hS (.inr ho) hle hr hm (fun b bo cap hβ => hI p (by simp [FV.rows1]) _ _ _ b bo cap (.inr ho) hβ))
      · simp at hes
    · simp at hes
  · cases h
    exact hr.mono (fun _ _ _ h => h) hm (fun _ _ => rfl)

theorem leaveL_spec : ∀ {vs vs' : List FV} {xs : List Value} (_ : SimH σ st.base.length β I Wr wd (st.base ++ st.loc) w) (_ : leaveL st vs = some vs') (_ : RepC σ β I w st.base.length vs xs) (_ : ∀ b, I b → I' b)
    (_ : RowsIn β I' st (vs.flatMap FV.rows1)), RepC σ β I' w st.base.length vs' xs
  | [], vs', xs, hS, h, hr, hm, hI => by
    simp [leaveL] at h; subst h
    exact ⟨hr.1, fun i c x hc => by simp at hc⟩
  | v :: vs, vs', xs, hS, h, hr, hm, hI => by
    simp only [leaveL] at h
    split at h <;> simp at h
    subst h
    rename_i y s h1 h2
    match xs, hr with
    | [], hr => exact absurd hr.1 (by simp)
    | x :: xs, hr =>
      have r1 := leave1_spec hS h1 (hr.2 0 v x rfl rfl) hm (fun p hp => hI p (by simp [hp]))
      have r2 := leaveL_spec (xs := xs) hS h2 ⟨by simpa using hr.1, fun i c x hc hx => hr.2 (i + 1) c x (by simpa using hc) (by simpa using hx)⟩ hm (fun p hp => hI p (by
        simp only [List.flatMap_cons, List.mem_append]; exact .inr hp))
      refine ⟨by simp [r2.1], fun i c z hc hz => ?_⟩
      cases i with
      | zero => simp at hc hz; subst hc; subst hz; exact r1
      | succ i => exact r2.2 i c z (by simpa using hc) (by simpa using hz)

theorem leaves_spec {v v' : FV} {x : Value} (hS : SimH σ st.base.length β I Wr wd (st.base ++ st.loc) w) (h : leaves st v = some v') (hr : RepF σ β I w st.base.length v x) (hm : ∀ b, I b → I' b) (hI : RowsIn β I' st v.rows) :
    RepF σ β I' w st.base.length v' x := by
  unfold leaves at h
  split at h
  · cases h
    cases hr with | d hr => exact .d (hr.norm.mono hm (fun _ _ => rfl))
  · split at h <;> simp at h
    subst h
    rename_i cs ds hds
    cases hr with
    | a hl hr =>
      rename_i vs
      have := leaveL_spec (xs := vs.toList) hS hds ⟨by simpa using hl, fun i c x hc hx => hr i c x hc (by simpa using hx)⟩ hm hI
      exact RepF.mkA (by simpa using this.1) (fun i c x hc hx => this.2 i c x hc (by simpa using hx))
  · rename_i h1 h2
    refine leave1_spec hS h hr hm ?_
    have : v.rows1 = v.rows ∨ v.rows1 = [] := by
      cases v <;> first | exact .inl rfl | exact .inr rfl
    rcases this with e | e
    · rw [e]; exact hI
    · rw [e]; intro p hp; simp at hp

theorem leavesL_spec : ∀ {vs vs' : List FV} {xs : List Value} (_ : SimH σ st.base.length β I Wr wd (st.base ++ st.loc) w) (_ : leavesL st vs = some vs') (_ : RepC σ β I w st.base.length vs xs) (_ : ∀ b, I b → I' b)
    (_ : RowsIn β I' st (vs.flatMap FV.rows)), RepC σ β I' w st.base.length vs' xs
  | [], vs', xs, hS, h, hr, hm, hI => by
    simp [leavesL] at h; subst h
    exact ⟨hr.1, fun i c x hc => by simp at hc⟩
  | v :: vs, vs', xs, hS, h, hr, hm, hI => by
    simp only [leavesL] at h
    split at h <;> simp at h
    subst h
    rename_i y s h1 h2
    match xs, hr with
    | [], hr => exact absurd hr.1 (by simp)
    | x :: xs, hr =>
      have r1 := leaves_spec hS h1 (hr.2 0 v x rfl rfl) hm (fun p hp => hI p (by simp [hp]))
      have r2 := leavesL_spec (xs := xs) hS h2 ⟨by simpa using hr.1, fun i c x hc hx => hr.2 (i + 1) c x (by simpa using hc) (by simpa using hx)⟩ hm (fun p hp => hI p (by
        simp only [List.flatMap_cons, List.mem_append]; exact .inr hp))
      refine ⟨by simp [r2.1], fun i c z hc hz => ?_⟩
      cases i with
      | zero => simp at hc hz; subst hc; subst hz; exact r1
      | succ i => exact r2.2 i c z (by simpa using hc) (by simpa using hz)

theorem Frozen.rowsIn {rs : List Ref} (hS : SimH σ st.base.length β I Wr wd (st.base ++ st.loc) w) (hf : Frozen σ β I I' Wr wd st st' w rs) : RowsIn β I' st rs := by
  intro p hp ver sz es b bo cap hrow hβ
  rw [St.heap_eq] at hrow
  rcases hrow with hrow | hrow
  · have h2 := hf.all p hp ver sz es hrow
    exact (hf.sim.frz _ _ _ _ _ _ _ h2 hβ).2
  · exact hf.im _ (hS.frz _ _ _ _ _ _ _ hrow hβ).2
end leave

/-- The package variables that are known. -/
def Globs (E : Env) (σ : Nat → Option FuncId) (I : Nat → Prop) (w : World) : Prop :=
  ∀ k y, E.glob k = some y → I k ∧ (∀ c ∈ y.cells, c.one = true) ∧ AtD σ I w k 0 y.cells ∧ ∃ c e fr, w.heap[k]? = some (.cells c e fr) ∧ c.size = y.cells.length

theorem Globs.mono {E : Env} {σ : Nat → Option FuncId} {I I' : Nat → Prop} {w w' : World} (h : Globs E σ I w) (hi : ∀ b, I b → I' b) (hk : ∀ b, I b → w'.heap[b]? = w.heap[b]?) : Globs E σ I' w' := fun k y hy => by
  obtain ⟨h1, h2, h3, c, e, fr, h4, h5⟩ := h k y hy
  exact ⟨hi _ h1, h2, h3.mono hi hk (hk _ h1), c, e, fr, by rw [hk _ h1]; exact h4, h5⟩

/-- What was there is there still. -/
structure Grow (I I' : Nat → Prop) (w w' : World) : Prop where
  im : ∀ b, I b → I' b
  inew : ∀ b, I' b → I b ∨ w.heap.size ≤ b
  ilt : ∀ b, I' b → b < w'.heap.size
  size : w.heap.size ≤ w'.heap.size
  keep : ∀ b, b < w.heap.size → w'.heap[b]? = w.heap[b]?
  os : w'.os = w.os
  tape : w'.tape = w.tape
  output : w'.output = w.output

/-- What a function does, called so. -/
def CallOK (P : Program) (E : Env) (σ : Nat → Option FuncId) (g : Nat) (args : List FV) (B : List AObj) : FV × Option (List AObj) → Prop
  | (v, none) => ∀ f, σ g = some f → ∀ β I w (vargs : Array Value), SimH σ B.length β I (fun b => w.heap.size ≤ b) (fun k => B.length ≤ k) B w → RepC σ β I w B.length args vargs.toList → Globs E σ I w →
      Calls P f vargs w fun e w' => ∃ x y I', e = .returned x ∧ v = .d y ∧ RepD σ I' w' y x ∧ Grow I I' w w'
  | (v, some B') => ∀ f, σ g = some f → ∀ β I Wr w (vargs : Array Value), SimH σ B.length β I Wr (fun _ => True) B w → RepC σ β I w B.length args vargs.toList → Globs E σ I w →
      Calls P f vargs w fun e w' => ∃ x β' I', e = .returned x ∧ Ext β β' I I' Wr w w' ∧ (∀ n' wd', SimH σ n' β' I' Wr wd' B' w') ∧ ∀ n', RepF σ β' I' w' n' v x

/-- It is given: as F-code, or by what it answers. -/
def Given (E : Env) (g : Nat) : Prop := (E.fn g).isSome = true ∨ (E.prim g).isSome = true

def RecOK (P : Program) (E : Env) (σ : Nat → Option FuncId) (rec : Nat → List FV → List AObj → CallR) : Prop := ∀ g args B r, rec g args B = some r → Given E g ∧ CallOK P E σ g args B r

section call
variable {P : Program} {E : Env} {σ : Nat → Option FuncId} {β : Map} {I Wr : Nat → Prop} {wd : Nat → Prop} {w : World} {st st' : St} {rec : Nat → List FV → List AObj → CallR} {draw : Bool} {v : FV}

theorem Grow.ext {I' : Nat → Prop} {w' : World} (h : Grow I I' w w') (hw : ∀ b, w.heap.size ≤ b → Wr b) (hi : ∀ b, I b → b < w.heap.size) (β : Map) : Ext β β I I' Wr w w' :=
  ⟨fun _ _ _ h => h, h.im, fun b hb => (h.inew b hb).imp id (hw b), h.size, fun b hb => h.keep b (hi b hb), fun b hb _ => h.keep b hb, h.os, h.tape, h.output⟩

theorem scalar_rep {y : D} {x : Value} (h : scalar (.d y) = true) {I0 : Nat → Prop} {w0 : World} (hr : RepD σ I0 w0 y x) (I1 : Nat → Prop) (w1 : World) : RepD σ I1 w1 y x := by
  cases y with
  | v z => cases hr; exact .v _
  | t vs =>
    cases hr with
    | t hl hr =>
      refine .t hl (fun i c x hc hx => ?_)
      have hc' : c.isV = true := List.all_eq_true.1 h c (List.mem_of_getElem? hc)
      have := hr i c x hc hx
      cases c with
      | v z => cases this; exact .v _
      | _ => simp [D.isV] at hc'
  | _ => simp [scalar] at h

/-- Behind a call that has left all as it was. -/
theorem after_none {rows : List Ref} {I1 I2 : Nat → Prop} {w' : World} {y : D} {x : Value} (hS : SimH σ st.base.length β I Wr wd (st.base ++ st.loc) w) (hf : Frozen σ β I I1 Wr wd st (freezeAll st rows) w rows)
    (hdt : draw = false → MayW st.base.length st' wd) (hr : RepD σ I2 w' y x) (hg : Grow I1 I2 w w')
    (h : (if scalar (.d y) ∨ rows = [] then some (FV.d y, st) else if draw then none else some (.d y, freezeAll st rows)) = some (v, st')) : Post σ st.base.length (st.base ++ st.loc).length β I Wr wd w st' v x w' := by
  split at h
  · rename_i hsc
    cases h
    rcases hsc with hsc | hrows
    · refine ⟨β, I, ⟨fun _ _ _ h => h, fun _ h => h, fun _ h => .inl h, hg.size, fun b hb => hg.keep b (hS.ilt b hb), fun b hb _ => hg.keep b hb, hg.os, hg.tape, hg.output⟩, hS.grow hg.size hg.keep, .d (scalar_rep hsc hr _ _), fun _ _ _ _ => rfl⟩
    · subst hrows
      -- nothing has been frozen
      have hI1 : ∀ b, I1 b → I b ∨ ∃ (k : Nat) (o : AObj) (bo cap : Nat), (st.base ++ st.loc)[k]? = some o ∧ o.live β k = some (b, bo, cap) := fun b hb => (hf.inew b hb).imp id (fun ⟨k, o, bo, cap, h1, h2, _⟩ => ⟨k, o, bo, cap, h1, h2⟩)
      have hnot : ∀ b, I1 b → I b := by
        intro b hb
        rcases hI1 b hb with h | ⟨k, o, bo, cap, h1, h2⟩
        · exact h
        · exact absurd hb ((hf.sim.wr k o b bo cap (by simpa [freezeAll] using h1) h2).2)
      refine ⟨β, I2, ⟨fun _ _ _ h => h, fun b hb => hg.im b (hf.im b hb), fun b hb => ?_, hg.size, fun b hb => hg.keep b (hS.ilt b hb), fun b hb _ => hg.keep b hb, hg.os, hg.tape, hg.output⟩, ?_, .d hr, fun _ _ _ _ => rfl⟩
      · rcases hg.inew b hb with h | h
        · exact .inl (hnot b h)
        · exact .inr (hS.wnew b h)
      · refine (hS.grow hg.size hg.keep).addI (fun b hb => hg.im b (hf.im b hb)) hg.ilt (fun k o b bo cap h1 h2 hI2 => ?_)
        rcases hg.inew b hI2 with h | h
        · exact (hS.wr k o b bo cap h1 h2).2 (hnot b h)
        · have := live_lt hS h2; omega
  · split at h
    · cases h
    · rename_i hdr
      have hdr : draw = false := by simpa using hdr
      cases h
      refine ⟨β, I2, ⟨fun _ _ _ h => h, fun b hb => hg.im b (hf.im b hb), fun b hb => ?_, hg.size, fun b hb => hg.keep b (hS.ilt b hb), fun b hb _ => hg.keep b hb, hg.os, hg.tape, hg.output⟩, ?_, .d hr, fun _ _ _ _ => rfl⟩
      · rcases hg.inew b hb with h | h
        · rcases hf.inew b h with h | ⟨k, o, bo, cap, h1, h2, h3⟩
          · exact .inl h
          · exact .inr ((hS.wr k o b bo cap h1 h2).1 (h3.elim (fun hd => (hdt hdr).2 hd k) ((hdt hdr).1 k)))
        · exact .inr (hS.wnew b h)
      · refine (hf.sim.grow hg.size hg.keep).addI hg.im hg.ilt (fun k o b bo cap h1 h2 hI2 => ?_)
        rcases hg.inew b hI2 with h | h
        · exact (hf.sim.wr k o b bo cap h1 h2).2 h
        · have := live_lt hf.sim h2; omega
end call
end Fi
