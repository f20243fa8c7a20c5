/-
  What it is for a value of the model to stand for a value of the functional interpreter, in a world; and that it stays so.
-/
import Derived.Test.YtonmcbnjifeagaaGreatDoorFiComp
import Derived.Laws.AppendOwn
import Derived.Laws.MakeOwn
import Derived.Laws.CopyRow
import Derived.Laws.Entries
import Derived.Calls
set_option linter.unusedVariables false
set_option linter.unusedSimpArgs false
namespace Fi
open Go

/-- Where the objects of the abstract heap lie: (object, version) to (block, first cell, capacity). -/
abbrev Map := Nat → Nat → Option (Nat × Nat × Nat)

inductive RepD (σ : Nat → Option FuncId) (I : Nat → Prop) (w : World) : D → Value → Prop
  | v (x : Value) : RepD σ I w (.v x) x
  | fn {g : Nat} {f : FuncId} (h : σ g = some f) : RepD σ I w (.fn g) (.func (.func f) #[] #[])
  | n (sz : Nat) : RepD σ I w (.n sz) (.slice none 0 0)
  | i (t : TypeId) (x : Value) : RepD σ I w .i (.iface t x)
  | s0 (sz : Nat) : RepD σ I w (.s sz []) (.slice none 0 0)
  | s {sz : Nat} {es : List D} {b off cap : Nat} (u : Nat → Nat → Value) (hb : I b) (hc : es.length ≤ cap) (hsz : ∀ e ∈ es, e.cells.length = sz)
      (hone : ∀ e ∈ es, ∀ c ∈ e.cells, c.one = true)
      (hcell : ∀ (i : Nat) (e : D) (j : Nat) (c : D), es[i]? = some e → e.cells[j]? = some c → w.cell? ⟨b, off + i * sz + j, none⟩ = some (u i j))
      (hrep : ∀ (i : Nat) (e : D) (j : Nat) (c : D), es[i]? = some e → e.cells[j]? = some c → RepD σ I w c (u i j)) : RepD σ I w (.s sz es) (.slice (some ⟨b, off, none⟩) es.length cap)
  | a {cs : List D} {vs : Array Value} (hl : vs.size = cs.length) (h : ∀ (i : Nat) (c : D) (x : Value), cs[i]? = some c → vs[i]? = some x → RepD σ I w c x) : RepD σ I w (.a cs) (.agg vs)
  | t {cs : List D} {vs : Array Value} (hl : vs.size = cs.length) (h : ∀ (i : Nat) (c : D) (x : Value), cs[i]? = some c → vs[i]? = some x → RepD σ I w c x) : RepD σ I w (.t cs) (.tuple vs)

/-- Cells of memory that hold data. -/
def AtD (σ : Nat → Option FuncId) (I : Nat → Prop) (w : World) (b off : Nat) (cs : List D) : Prop :=
  ∀ (j : Nat) (c : D), cs[j]? = some c → ∃ x, w.cell? ⟨b, off + j, none⟩ = some x ∧ RepD σ I w c x

inductive RepF (σ : Nat → Option FuncId) (β : Map) (I : Nat → Prop) (w : World) (n : Nat) : FV → Value → Prop
  | u (x : Value) : RepF σ β I w n .u x
  | d {y : D} {x : Value} (h : RepD σ I w y x) : RepF σ β I w n (.d y) x
  | r {p : Ref} {off b bo cap : Nat} (h : β (p.abs n) 0 = some (b, bo, cap)) : RepF σ β I w n (.r p off) (.pointer (some ⟨b, bo + off, none⟩))
  | e {p : Ref} {ver sz i off b bo cap : Nat} (h : β (p.abs n) ver = some (b, bo, cap)) : RepF σ β I w n (.e p ver sz i off) (.pointer (some ⟨b, bo + i * sz + off, none⟩))
  | rc {y : D} {b off : Nat} (hb : I b) (ho : ∀ c ∈ y.cells, c.one = true) (h : AtD σ I w b off y.cells) : RepF σ β I w n (.rc y) (.pointer (some ⟨b, off, none⟩))
  | ls {p : Ref} {ver sz off len b bo cap o : Nat} (h : β (p.abs n) ver = some (b, bo, cap)) (hl : off + len ≤ cap) (ho : off < cap → o = bo + off * sz) :
      RepF σ β I w n (.ls p ver sz off len) (.slice (some ⟨b, o, none⟩) len (cap - off))
  | f {g : Nat} {k : FuncId} {first captured : List FV} {vs us : Array Value} (h : σ g = some k) (h1 : vs.size = first.length) (h2 : us.size = captured.length)
      (hv : ∀ (i : Nat) (c : FV) (x : Value), first[i]? = some c → vs[i]? = some x → RepF σ β I w n c x) (hu : ∀ (i : Nat) (c : FV) (x : Value), captured[i]? = some c → us[i]? = some x → RepF σ β I w n c x) :
      RepF σ β I w n (.f g first captured) (.func (.func k) vs us)
  | a {cs : List FV} {vs : Array Value} (hl : vs.size = cs.length) (h : ∀ (i : Nat) (c : FV) (x : Value), cs[i]? = some c → vs[i]? = some x → RepF σ β I w n c x) : RepF σ β I w n (.a cs) (.agg vs)
  | t {cs : List FV} {vs : Array Value} (hl : vs.size = cs.length) (h : ∀ (i : Nat) (c : FV) (x : Value), cs[i]? = some c → vs[i]? = some x → RepF σ β I w n c x) : RepF σ β I w n (.t cs) (.tuple vs)

theorem cell_of_block {w w' : World} {b o : Nat} (h : w'.heap[b]? = w.heap[b]?) : w'.cell? ⟨b, o, none⟩ = w.cell? ⟨b, o, none⟩ := by simp [World.cell?, h]

section mono
variable {σ : Nat → Option FuncId} {I I' : Nat → Prop} {w w' : World} {β β' : Map} {n : Nat}

theorem RepD.mono (hi : ∀ b, I b → I' b) (hk : ∀ b, I b → w'.heap[b]? = w.heap[b]?) {y : D} {x : Value} (h : RepD σ I w y x) : RepD σ I' w' y x := by
  induction h with
  | v x => exact .v x
  | fn h => exact .fn h
  | n sz => exact .n sz
  | i t x => exact .i t x
  | s0 sz => exact .s0 sz
  | s u hb hc hsz hone hcell _ ih => exact .s u (hi _ hb) hc hsz hone (fun i e j c h1 h2 => by rw [cell_of_block (hk _ hb)]; exact hcell i e j c h1 h2) ih
  | a hl _ ih => exact .a hl ih
  | t hl _ ih => exact .t hl ih

theorem AtD.mono (hi : ∀ b, I b → I' b) (hk : ∀ b, I b → w'.heap[b]? = w.heap[b]?) {b off : Nat} {cs : List D} (hb : w'.heap[b]? = w.heap[b]?) (h : AtD σ I w b off cs) : AtD σ I' w' b off cs := fun j c hc => by
  obtain ⟨x, h1, h2⟩ := h j c hc
  exact ⟨x, by rw [cell_of_block hb]; exact h1, h2.mono hi hk⟩

theorem RepF.mono (hm : ∀ k v x, β k v = some x → β' k v = some x) (hi : ∀ b, I b → I' b) (hk : ∀ b, I b → w'.heap[b]? = w.heap[b]?) {y : FV} {x : Value} (h : RepF σ β I w n y x) :
    RepF σ β' I' w' n y x := by
  induction h with
  | u x => exact .u x
  | d h => exact .d (h.mono hi hk)
  | r h => exact .r (hm _ _ _ h)
  | e h => exact .e (hm _ _ _ h)
  | rc hb ho h => exact .rc (hi _ hb) ho (h.mono hi hk (hk _ hb))
  | ls h hl ho => exact .ls (hm _ _ _ h) hl ho
  | f h h1 h2 _ _ ih1 ih2 => exact .f h h1 h2 ih1 ih2
  | a hl _ ih => exact .a hl ih
  | t hl _ ih => exact .t hl ih
end mono

/-- Lists of values, one by one. -/
def RepL (σ : Nat → Option FuncId) (β : Map) (I : Nat → Prop) (w : World) (n : Nat) (ys : List FV) (xs : List Value) : Prop :=
  xs.length = ys.length ∧ ∀ (i : Nat) (y : FV) (x : Value), ys[i]? = some y → xs[i]? = some x → RepF σ β I w n y x

def RepDL (σ : Nat → Option FuncId) (I : Nat → Prop) (w : World) (ys : List D) (xs : List Value) : Prop :=
  xs.length = ys.length ∧ ∀ (i : Nat) (y : D) (x : Value), ys[i]? = some y → xs[i]? = some x → RepD σ I w y x

/-- Where an object that may be written lies. -/
def AObj.live (β : Map) (k : Nat) : AObj → Option (Nat × Nat × Nat)
  | .box _ => β k 0
  | .row ver _ _ => β k ver
  | .frz _ _ _ => none

/-- Rows of elements in memory. -/
structure AtRows (σ : Nat → Option FuncId) (I : Nat → Prop) (w : World) (b bo cap sz : Nat) (es : List D) : Prop where
  pos : 0 < sz
  fit : es.length ≤ cap
  wide : ∀ e ∈ es, e.cells.length = sz
  one : ∀ e ∈ es, ∀ c ∈ e.cells, c.one = true
  at_ : ∀ (i : Nat) (e : D), es[i]? = some e → AtD σ I w b (bo + i * sz) e.cells

/-- The abstract heap as it lies in a world. Wr: the blocks that may be written. -/
structure SimH (σ : Nat → Option FuncId) (n : Nat) (β : Map) (I Wr : Nat → Prop) (wd : Nat → Prop) (H : List AObj) (w : World) : Prop where
  ilt : ∀ b, I b → b < w.heap.size
  blt : ∀ k v b bo cap, β k v = some (b, bo, cap) → b < w.heap.size
  wnew : ∀ b, w.heap.size ≤ b → Wr b
  dom : ∀ k v x, β k v = some x → k < H.length
  vdom : ∀ (k : Nat) ver sz es v x, H[k]? = some (.row ver sz es) → β k v = some x → v ≤ ver
  wr : ∀ (k : Nat) (o : AObj) b bo cap, H[k]? = some o → o.live β k = some (b, bo, cap) → (wd k → Wr b) ∧ ¬ I b
  box : ∀ (k : Nat) cs b bo cap, H[k]? = some (.box cs) → β k 0 = some (b, bo, cap) → bo = 0 ∧
    ∃ c e, w.heap[b]? = some (.cells c e (0, 0)) ∧ c.size = cs.length ∧ ∀ (j : Nat) (f : FV) (x : Value), cs[j]? = some f → c[j]? = some x → RepF σ β I w n f x
  row : ∀ (k : Nat) ver sz es b bo cap, H[k]? = some (.row ver sz es) → β k ver = some (b, bo, cap) → AtRows σ I w b bo cap sz es ∧
    ∃ c e, w.heap[b]? = some (.cells c e (0, 0)) ∧ c.size = bo + cap * sz
  frz : ∀ (k : Nat) ver sz es b bo cap, H[k]? = some (.frz ver sz es) → β k ver = some (b, bo, cap) → AtRows σ I w b bo cap sz es ∧ I b
  inj : ∀ (k k' : Nat) (o o' : AObj) b bo cap bo' cap', H[k]? = some o → H[k']? = some o' → o.live β k = some (b, bo, cap) → o'.live β k' = some (b, bo', cap') → k = k'

/-- What a step leaves as it was. -/
structure Ext (β β' : Map) (I I' Wr : Nat → Prop) (w w' : World) : Prop where
  bm : ∀ k v x, β k v = some x → β' k v = some x
  im : ∀ b, I b → I' b
  inew : ∀ b, I' b → I b ∨ Wr b
  size : w.heap.size ≤ w'.heap.size
  keepI : ∀ b, I b → w'.heap[b]? = w.heap[b]?
  keepW : ∀ b, b < w.heap.size → ¬ Wr b → w'.heap[b]? = w.heap[b]?
  os : w'.os = w.os
  tape : w'.tape = w.tape
  output : w'.output = w.output

theorem Ext.refl (β : Map) (I Wr : Nat → Prop) (w : World) : Ext β β I I Wr w w :=
  ⟨fun _ _ _ h => h, fun _ h => h, fun _ h => .inl h, Nat.le_refl _, fun _ _ => rfl, fun _ _ _ => rfl, rfl, rfl, rfl⟩

theorem Ext.trans {β β' β'' : Map} {I I' I'' Wr : Nat → Prop} {w w' w'' : World} (h : Ext β β' I I' Wr w w') (k : Ext β' β'' I' I'' Wr w' w'') : Ext β β'' I I'' Wr w w'' :=
  ⟨fun a v x e => k.bm _ _ _ (h.bm _ _ _ e), fun b e => k.im _ (h.im _ e), fun b e => (k.inew b e).elim (fun e => h.inew b e) .inr, Nat.le_trans h.size k.size,
   fun b e => (k.keepI b (h.im _ e)).trans (h.keepI b e), fun b e1 e2 => (k.keepW b (Nat.lt_of_lt_of_le e1 h.size) e2).trans (h.keepW b e1 e2),
   k.os.trans h.os, k.tape.trans h.tape, k.output.trans h.output⟩

section ext
variable {σ : Nat → Option FuncId} {I I' Wr : Nat → Prop} {wd : Nat → Prop} {w w' : World} {β β' : Map} {n : Nat}

theorem Ext.repD (h : Ext β β' I I' Wr w w') {y : D} {x : Value} (hr : RepD σ I w y x) : RepD σ I' w' y x := hr.mono h.im h.keepI
theorem Ext.repF (h : Ext β β' I I' Wr w w') {y : FV} {x : Value} (hr : RepF σ β I w n y x) : RepF σ β' I' w' n y x := hr.mono h.bm h.im h.keepI
theorem Ext.repL (h : Ext β β' I I' Wr w w') {ys : List FV} {xs : List Value} (hr : RepL σ β I w n ys xs) : RepL σ β' I' w' n ys xs :=
  ⟨hr.1, fun i y x a b => h.repF (hr.2 i y x a b)⟩

theorem AtRows.mono {b bo cap sz : Nat} {es : List D} (h : AtRows σ I w b bo cap sz es) (hi : ∀ b, I b → I' b) (hk : ∀ b, I b → w'.heap[b]? = w.heap[b]?) (hb : w'.heap[b]? = w.heap[b]?) :
    AtRows σ I' w' b bo cap sz es :=
  ⟨h.pos, h.fit, h.wide, h.one, fun i e he => (h.at_ i e he).mono hi hk hb⟩

/-- The world grows by draws and new blocks alone; nothing abstract is made. -/
theorem SimH.grow {H : List AObj} (h : SimH σ n β I Wr wd H w) (hs : w.heap.size ≤ w'.heap.size) (hk : ∀ b, b < w.heap.size → w'.heap[b]? = w.heap[b]?) : SimH σ n β I Wr wd H w' := by
  have hI : ∀ b, I b → w'.heap[b]? = w.heap[b]? := fun b hb => hk b (h.ilt b hb)
  refine ⟨fun b hb => Nat.lt_of_lt_of_le (h.ilt b hb) hs, fun k v b bo cap e => Nat.lt_of_lt_of_le (h.blt k v b bo cap e) hs, fun b hb => h.wnew b (Nat.le_trans hs hb), h.dom, h.vdom, h.wr, ?_, ?_, ?_, h.inj⟩
  · intro k cs b bo cap h1 h2
    obtain ⟨a0, c, e, a1, a2, a3⟩ := h.box k cs b bo cap h1 h2
    exact ⟨a0, c, e, by rw [hk b (h.blt _ _ _ _ _ h2)]; exact a1, a2, fun j f x e1 e2 => (a3 j f x e1 e2).mono (fun _ _ _ e => e) (fun _ e => e) hI⟩
  · intro k ver sz es b bo cap h1 h2
    obtain ⟨a0, c, e, a1, a2⟩ := h.row k ver sz es b bo cap h1 h2
    exact ⟨a0.mono (fun _ e => e) hI (hk b (h.blt _ _ _ _ _ h2)), c, e, by rw [hk b (h.blt _ _ _ _ _ h2)]; exact a1, a2⟩
  · intro k ver sz es b bo cap h1 h2
    obtain ⟨a0, a1⟩ := h.frz k ver sz es b bo cap h1 h2
    exact ⟨a0.mono (fun _ e => e) hI (hI b a1), a1⟩
end ext

/-- One place more on the map. -/
def Map.put (β : Map) (k v : Nat) (x : Nat × Nat × Nat) : Map := fun k' v' => if k' = k ∧ v' = v then some x else β k' v'

theorem Map.put_same (β : Map) (k v : Nat) (x : Nat × Nat × Nat) : β.put k v x k v = some x := by simp [Map.put]
theorem Map.put_other (β : Map) (k v : Nat) (x : Nat × Nat × Nat) {k' v' : Nat} (h : ¬ (k' = k ∧ v' = v)) : β.put k v x k' v' = β k' v' := by simp [Map.put, h]

theorem put_keep {β : Map} {m v : Nat} {x : Nat × Nat × Nat} {wd : Nat → Prop} : ∀ k u, k < m → ¬ wd k → (β.put m v x) k u = β k u := fun k u h _ => Map.put_other _ _ _ _ (by omega)
theorem put_keepw {β : Map} {m k0 v : Nat} {x : Nat × Nat × Nat} {wd : Nat → Prop} (hw : wd k0) : ∀ k u, k < m → ¬ wd k → (β.put k0 v x) k u = β k u := fun k u _ hn => Map.put_other _ _ _ _ (fun h => hn (h.1 ▸ hw))

theorem alloc_old (w : World) (o : Obj) {b : Nat} (h : b < w.heap.size) : (w.alloc o).heap[b]? = w.heap[b]? := by
  show (w.heap.push o)[b]? = _
  rw [Array.getElem?_push, if_neg (by omega)]

theorem alloc_new (w : World) (o : Obj) : (w.alloc o).heap[w.heap.size]? = some o := by
  show (w.heap.push o)[w.heap.size]? = _
  simp

section push
variable {σ : Nat → Option FuncId} {I Wr : Nat → Prop} {wd : Nat → Prop} {w : World} {β : Map} {n : Nat} {H : List AObj}

/-- A new block, and a new object that lies in it. -/
theorem SimH.push (h : SimH σ n β I Wr wd H w) (c : Array Value) (e : TypeId) (o : AObj) (v cap : Nat)
    (ho : (∃ cs, o = .box cs ∧ v = 0 ∧ c.size = cs.length ∧ ∀ (j : Nat) (f : FV) (x : Value), cs[j]? = some f → c[j]? = some x → RepF σ β I w n f x) ∨
      (∃ sz es, o = .row v sz es ∧ 0 < sz ∧ es.length ≤ cap ∧ (∀ e ∈ es, e.cells.length = sz) ∧ (∀ e ∈ es, ∀ c ∈ e.cells, c.one = true) ∧ c.size = cap * sz ∧
        ∀ (i : Nat) (e : D) (j : Nat) (d : D), es[i]? = some e → e.cells[j]? = some d → ∃ x : Value, c[i * sz + j]? = some x ∧ RepD σ I w d x)) :
    let β' := β.put H.length v (w.heap.size, 0, cap)
    Ext β β' I I Wr w (w.alloc (.cells c e)) ∧ SimH σ n β' I Wr wd (H ++ [o]) (w.alloc (.cells c e)) := by
  intro β'
  have hdom : ∀ k v' x, β k v' = some x → β' k v' = some x := fun k v' x e => by
    have := h.dom k v' x e
    exact (Map.put_other _ _ _ _ (by omega)).trans e
  have hI : ∀ b, I b → (w.alloc (.cells c e)).heap[b]? = w.heap[b]? := fun b hb => alloc_old _ _ (h.ilt b hb)
  have hget : ∀ (k : Nat) (o' : AObj), (H ++ [o])[k]? = some o' → (k < H.length ∧ H[k]? = some o') ∨ (k = H.length ∧ o' = o) := by
    intro k o' hk
    rcases Nat.lt_or_ge k H.length with hl | hl
    · rw [List.getElem?_append_left hl] at hk; exact .inl ⟨hl, hk⟩
    · rw [List.getElem?_append_right hl] at hk
      rcases Nat.eq_or_lt_of_le hl with he | he
      · subst he; simp at hk; exact .inr ⟨rfl, hk.symm⟩
      · have : k - H.length = (k - H.length - 1) + 1 := by omega
        rw [this] at hk; simp at hk
  have hother : ∀ k v', k < H.length → β' k v' = β k v' := fun k v' hk => Map.put_other _ _ _ _ (by omega)
  have hnew : ∀ v', β' H.length v' = if v' = v then some (w.heap.size, 0, cap) else none := by
    intro v'
    by_cases hv : v' = v
    · subst hv; simp [β', Map.put]
    · simp only [hv, if_false]
      refine (Map.put_other _ _ _ _ (by simp [hv])).trans ?_
      cases hb : β H.length v' with
      | none => rfl
      | some x => have := h.dom _ _ _ hb; omega
  have hlive : ∀ (k : Nat) (o' : AObj), k < H.length → o'.live β' k = o'.live β k := fun k o' hk => by cases o' <;> simp [AObj.live, hother _ _ hk]
  have hlv : o.live β' H.length = some (w.heap.size, 0, cap) := by
    rcases ho with ⟨cs, rfl, rfl, _⟩ | ⟨sz, es, rfl, _⟩ <;> simp [AObj.live, hnew]
  have hblt : ∀ k v b bo cap', β' k v = some (b, bo, cap') → b < (w.alloc (.cells c e)).heap.size := by
    intro k v' b bo cap' hk
    simp only [β', Map.put] at hk
    split at hk
    · cases hk; simp
    · have := h.blt _ _ _ _ _ hk; simp; omega
  refine ⟨⟨hdom, fun _ h => h, fun _ h => .inl h, by simp, hI, fun b hb _ => alloc_old _ _ hb, rfl, rfl, rfl⟩, ?_⟩
  have hbold : ∀ (k : Nat) (o' : AObj) b bo cap', k < H.length → H[k]? = some o' → o'.live β k = some (b, bo, cap') → b < w.heap.size := by
    intro k o' b bo cap' _ _ hl
    cases o' with
    | box cs => exact h.blt _ _ _ _ _ hl
    | row ver sz es => exact h.blt _ _ _ _ _ hl
    | frz ver sz es => cases hl
  constructor
  · exact fun b hb => by have := h.ilt b hb; simp; omega
  · exact hblt
  · exact fun b hb => h.wnew b (by simp at hb; omega)
  · intro k v' x hk
    simp only [β', Map.put] at hk
    split at hk
    · rename_i hh; simp [hh.1]
    · have := h.dom _ _ _ hk; simp; omega
  · intro k ver sz es v' x hk hb
    rcases hget k _ hk with ⟨hl, hk2⟩ | ⟨rfl, hk2⟩
    · rw [hother _ _ hl] at hb; exact h.vdom k ver sz es v' x hk2 hb
    · rw [hnew] at hb
      rcases ho with ⟨cs, rfl, _⟩ | ⟨sz, es, rfl, _⟩
      · cases hk2
      · cases hk2
        split at hb
        · rename_i hh; omega
        · cases hb
  · intro k o' b bo cap' hk hl
    rcases hget k _ hk with ⟨hlt, hk2⟩ | ⟨rfl, rfl⟩
    · rw [hlive _ _ hlt] at hl; exact h.wr k o' b bo cap' hk2 hl
    · rw [hlv] at hl; cases hl
      exact ⟨fun _ => h.wnew _ (Nat.le_refl _), fun hI' => by have := h.ilt _ hI'; omega⟩
  · intro k cs b bo cap' hk hb
    rcases hget k _ hk with ⟨hlt, hk2⟩ | ⟨rfl, hk2⟩
    · rw [hother _ _ hlt] at hb
      obtain ⟨a0, c', e', a1, a2, a3⟩ := h.box k cs b bo cap' hk2 hb
      exact ⟨a0, c', e', by rw [alloc_old _ _ (h.blt _ _ _ _ _ hb)]; exact a1, a2, fun j f x e1 e2 => (a3 j f x e1 e2).mono hdom (fun _ e => e) hI⟩
    · rcases ho with ⟨cs', rfl, rfl, h2, h3⟩ | ⟨sz, es, rfl, _⟩
      · cases hk2
        rw [hnew] at hb; simp at hb
        obtain ⟨rfl, rfl, rfl⟩ := hb
        exact ⟨rfl, c, e, alloc_new _ _, h2, fun j f x e1 e2 => (h3 j f x e1 e2).mono hdom (fun _ e => e) hI⟩
      · cases hk2
  · intro k ver sz es b bo cap' hk hb
    rcases hget k _ hk with ⟨hlt, hk2⟩ | ⟨rfl, hk2⟩
    · rw [hother _ _ hlt] at hb
      obtain ⟨a0, c', e', a1, a2⟩ := h.row k ver sz es b bo cap' hk2 hb
      exact ⟨a0.mono (fun _ e => e) hI (alloc_old _ _ (h.blt _ _ _ _ _ hb)), c', e', by rw [alloc_old _ _ (h.blt _ _ _ _ _ hb)]; exact a1, a2⟩
    · rcases ho with ⟨cs', rfl, rfl, h2, h3⟩ | ⟨sz', es', rfl, h1, h2, h3, h4, h5, h6⟩
      · cases hk2
      · cases hk2
        rw [hnew] at hb; simp at hb
        obtain ⟨rfl, rfl, rfl⟩ := hb
        refine ⟨⟨h1, h2, h3, h4, ?_⟩, c, e, alloc_new _ _, by simpa using h5⟩
        intro i e1 he1 j d hd
        obtain ⟨x, hx1, hx2⟩ := h6 i e1 j d he1 hd
        have hc1 : (w.alloc (.cells c e)).cell? ⟨w.heap.size, i * sz + j, none⟩ = some x := by rw [World.cell?_alloc_new]; exact hx1
        exact ⟨x, by simpa using hc1, hx2.mono (fun _ e => e) hI⟩
  · intro k ver sz es b bo cap' hk hb
    rcases hget k _ hk with ⟨hlt, hk2⟩ | ⟨rfl, hk2⟩
    · rw [hother _ _ hlt] at hb
      obtain ⟨a0, a1⟩ := h.frz k ver sz es b bo cap' hk2 hb
      exact ⟨a0.mono (fun _ e => e) hI (hI b a1), a1⟩
    · rcases ho with ⟨cs', rfl, _⟩ | ⟨sz', es', rfl, _⟩ <;> cases hk2
  · intro k k' o1 o2 b bo cap1 bo' cap2 hk hk' hl hl'
    rcases hget k _ hk with ⟨hlt, hk2⟩ | ⟨e1, e2⟩ <;> rcases hget k' _ hk' with ⟨hlt', hk3⟩ | ⟨e3, e4⟩
    · rw [hlive _ _ hlt] at hl; rw [hlive _ _ hlt'] at hl'
      exact h.inj k k' o1 o2 b bo cap1 bo' cap2 hk2 hk3 hl hl'
    · rw [hlive _ _ hlt] at hl
      have := hbold _ _ _ _ _ hlt hk2 hl
      rw [e3, e4, hlv] at hl'; cases hl'; omega
    · rw [hlive _ _ hlt'] at hl'
      have := hbold _ _ _ _ _ hlt' hk3 hl'
      rw [e1, e2, hlv] at hl; cases hl; omega
    · exact e1.trans e3.symm
end push

end Fi
