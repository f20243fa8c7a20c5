/-
  Drawn regions: how the heap of one step is put back into the heap of the region; heaps between the states of the text.
-/
import Derived.Test.YtonmcbnjifeagaaGreatDoorFiBnd
set_option linter.unusedVariables false
set_option linter.unusedSimpArgs false
namespace Fi
open Go

section merge
variable {σ : Nat → Option FuncId} {β β' β1 β2 : Map} {I I' Wr : Nat → Prop} {wd : Nat → Prop} {w w' : World} {n : Nat}

/-- One map for the first m objects, another for the rest. -/
def Map.over (β β' : Map) (m : Nat) : Map := fun k v => if k < m then β' k v else β k v

theorem Map.over_lt {m k v : Nat} (h : k < m) : Map.over β β' m k v = β' k v := by simp [Map.over, h]
theorem Map.over_ge {m k v : Nat} (h : m ≤ k) : Map.over β β' m k v = β k v := by simp [Map.over, Nat.not_lt.2 h]

/-- A step that has made blocks alone. -/
theorem SimH.after {G : List AObj} (h : SimH σ n β I Wr wd G w) (hx : Ext β1 β2 I I' (fun b => w.heap.size ≤ b) w w') (hi : ∀ b, I' b → b < w'.heap.size) : SimH σ n β I' Wr wd G w' :=
  (h.grow hx.size (fun b hb => hx.keepW b hb (by omega))).addI hx.im hi (fun k o b bo cap h1 h2 hb => (hx.inew b hb).elim (h.wr k o b bo cap h1 h2).2 (fun hsz => by have := live_lt h h2; omega))

theorem Ext.after (hx : Ext β1 β2 I I' (fun b => w.heap.size ≤ b) w w') (hw : ∀ b, w.heap.size ≤ b → Wr b) (β : Map) : Ext β β I I' Wr w w' :=
  ⟨fun _ _ _ h => h, hx.im, fun b hb => (hx.inew b hb).imp id (hw b), hx.size, hx.keepI, fun b hb _ => hx.keepW b hb (by omega), hx.os, hx.tape, hx.output⟩

/-- A step that knows the first objects, and has made some more, which are next in the heap of the region. -/
theorem SimH.mergeQ {A B C : List AObj} (h : SimH σ n β I Wr wd (A ++ B ++ C) w) (hgap : ∀ k v, A.length ≤ k → k < A.length + B.length → β k v = none)
    (hx : Ext (β.upto A.length) β' I I' (fun b => w.heap.size ≤ b) w w') (hS : SimH σ n β' I' (fun b => w.heap.size ≤ b) (fun k => A.length ≤ k) (A ++ B) w') (hk : ∀ k u, k < A.length → β' k u = β k u) :
    Ext β (Map.over β β' (A.length + B.length)) I I' Wr w w' ∧ SimH σ n (Map.over β β' (A.length + B.length)) I' Wr wd (A ++ B ++ C) w' := by
  have hlen : (A ++ B).length = A.length + B.length := List.length_append
  have hbm : ∀ k v x, β k v = some x → Map.over β β' (A.length + B.length) k v = some x := by
    intro k v x hb
    rcases Nat.lt_or_ge k (A.length + B.length) with hl | hl
    · rw [Map.over_lt hl]
      rcases Nat.lt_or_ge k A.length with hl' | hl'
      · rw [hk k v hl']; exact hb
      · rw [hgap k v hl' hl] at hb; cases hb
    · rw [Map.over_ge hl]; exact hb
  have hbm' : ∀ k v x, β' k v = some x → Map.over β β' (A.length + B.length) k v = some x := by
    intro k v x hb
    have := hS.dom k v x hb
    rw [hlen] at this
    rw [Map.over_lt this]; exact hb
  have hkeep : ∀ b, b < w.heap.size → w'.heap[b]? = w.heap[b]? := fun b hb => hx.keepW b hb (by omega)
  have hext : Ext β (Map.over β β' (A.length + B.length)) I I' Wr w w' :=
    ⟨hbm, hx.im, fun b hb => (hx.inew b hb).imp id (h.wnew b), hx.size, hx.keepI, fun b hb _ => hkeep b hb, hx.os, hx.tape, hx.output⟩
  refine ⟨hext, ?_⟩
  have hget : ∀ (k : Nat) (o : AObj), (A ++ B ++ C)[k]? = some o → k < A.length + B.length → (A ++ B)[k]? = some o := fun k o h1 h2 => by
    rw [List.getElem?_append_left (by rw [hlen]; exact h2)] at h1; exact h1
  have hlive : ∀ (k : Nat) (o : AObj), k < A.length + B.length → o.live (Map.over β β' (A.length + B.length)) k = o.live β' k := fun k o hk => by cases o <;> simp [AObj.live, Map.over_lt hk]
  have hlive' : ∀ (k : Nat) (o : AObj), A.length + B.length ≤ k → o.live (Map.over β β' (A.length + B.length)) k = o.live β k := fun k o hk => by cases o <;> simp [AObj.live, Map.over_ge hk]
  have hliveA : ∀ (k : Nat) (o : AObj), k < A.length → o.live β' k = o.live β k := fun k o hk' => by cases o <;> simp [AObj.live, hk _ _ hk']
  refine ⟨hS.ilt, ?_, fun b hb => h.wnew b (Nat.le_trans hx.size hb), ?_, ?_, ?_, ?_, ?_, ?_, ?_⟩
  · intro k v b bo cap hb
    unfold Map.over at hb
    split at hb
    · exact hS.blt _ _ _ _ _ hb
    · exact Nat.lt_of_lt_of_le (h.blt _ _ _ _ _ hb) hx.size
  · intro k v x hb
    unfold Map.over at hb
    split at hb
    · rename_i hl; rw [List.length_append, hlen]; omega
    · exact h.dom _ _ _ hb
  · intro k ver sz es v x h1 h2
    rcases Nat.lt_or_ge k (A.length + B.length) with hl | hl
    · rw [Map.over_lt hl] at h2; exact hS.vdom _ _ _ _ _ _ (hget _ _ h1 hl) h2
    · rw [Map.over_ge hl] at h2; exact h.vdom _ _ _ _ _ _ h1 h2
  · intro k o b bo cap h1 h2
    rcases Nat.lt_or_ge k (A.length + B.length) with hl | hl
    · rw [hlive _ _ hl] at h2
      obtain ⟨a1, a2⟩ := hS.wr k o b bo cap (hget _ _ h1 hl) h2
      refine ⟨fun hw => ?_, a2⟩
      rcases Nat.lt_or_ge k A.length with hl' | hl'
      · rw [hliveA _ _ hl'] at h2
        exact (h.wr k o b bo cap h1 h2).1 hw
      · exact h.wnew b (a1 hl')
    · rw [hlive' _ _ hl] at h2
      obtain ⟨a1, a2⟩ := h.wr k o b bo cap h1 h2
      refine ⟨a1, fun hb => ?_⟩
      rcases hx.inew b hb with hb | hb
      · exact a2 hb
      · have := live_lt h h2; omega
  · intro k cs b bo cap h1 h2
    rcases Nat.lt_or_ge k (A.length + B.length) with hl | hl
    · rw [Map.over_lt hl] at h2
      obtain ⟨a0, c, e, a1, a2, a3⟩ := hS.box k cs b bo cap (hget _ _ h1 hl) h2
      exact ⟨a0, c, e, a1, a2, fun j f x e1 e2 => (a3 j f x e1 e2).mono hbm' (fun _ h => h) (fun _ _ => rfl)⟩
    · rw [Map.over_ge hl] at h2
      obtain ⟨a0, c, e, a1, a2, a3⟩ := h.box k cs b bo cap h1 h2
      exact ⟨a0, c, e, by rw [hkeep b (h.blt _ _ _ _ _ h2)]; exact a1, a2, fun j f x e1 e2 => hext.repF (a3 j f x e1 e2)⟩
  · intro k ver sz es b bo cap h1 h2
    rcases Nat.lt_or_ge k (A.length + B.length) with hl | hl
    · rw [Map.over_lt hl] at h2
      exact hS.row _ _ _ _ _ _ _ (hget _ _ h1 hl) h2
    · rw [Map.over_ge hl] at h2
      obtain ⟨a0, c, e, a1, a2⟩ := h.row _ _ _ _ _ _ _ h1 h2
      have hb := hkeep b (h.blt _ _ _ _ _ h2)
      exact ⟨a0.mono hx.im hx.keepI hb, c, e, by rw [hb]; exact a1, a2⟩
  · intro k ver sz es b bo cap h1 h2
    rcases Nat.lt_or_ge k (A.length + B.length) with hl | hl
    · rw [Map.over_lt hl] at h2
      exact hS.frz _ _ _ _ _ _ _ (hget _ _ h1 hl) h2
    · rw [Map.over_ge hl] at h2
      obtain ⟨a0, a1⟩ := h.frz _ _ _ _ _ _ _ h1 h2
      exact ⟨a0.mono hx.im hx.keepI (hx.keepI b a1), hx.im b a1⟩
  · have hmix : ∀ (k k' : Nat) (o o' : AObj) b bo cap bo' cap', k < A.length + B.length → A.length + B.length ≤ k' → (A ++ B ++ C)[k]? = some o → (A ++ B ++ C)[k']? = some o' →
        o.live β' k = some (b, bo, cap) → o'.live β k' = some (b, bo', cap') → k = k' := by
      intro k k' o o' b bo cap bo' cap' hl hl' h1 h2 h3 h4
      rcases Nat.lt_or_ge k A.length with hl2 | hl2
      · rw [hliveA _ _ hl2] at h3
        exact h.inj k k' o o' b bo cap bo' cap' h1 h2 h3 h4
      · have h5 : w.heap.size ≤ b := (hS.wr k o b bo cap (hget _ _ h1 hl) h3).1 hl2
        have := live_lt h h4
        omega
    intro k k' o o' b bo cap bo' cap' h1 h2 h3 h4
    rcases Nat.lt_or_ge k (A.length + B.length) with hl | hl <;> rcases Nat.lt_or_ge k' (A.length + B.length) with hl' | hl'
    · rw [hlive _ _ hl] at h3; rw [hlive _ _ hl'] at h4
      exact hS.inj k k' o o' b bo cap bo' cap' (hget _ _ h1 hl) (hget _ _ h2 hl') h3 h4
    · rw [hlive _ _ hl] at h3; rw [hlive' _ _ hl'] at h4
      exact hmix k k' o o' b bo cap bo' cap' hl hl' h1 h2 h3 h4
    · rw [hlive' _ _ hl] at h3; rw [hlive _ _ hl'] at h4
      exact (hmix k' k o' o b bo' cap' bo cap hl' hl h2 h1 h4 h3).symm
    · rw [hlive' _ _ hl] at h3; rw [hlive' _ _ hl'] at h4
      exact h.inj k k' o o' b bo cap bo' cap' h1 h2 h3 h4
end merge

/-- What the operations from i on make. -/
def tails (H : Nat → List AObj) : Nat → Nat → List AObj
  | 0, _ => []
  | d + 1, i => (H (i + 1)).drop (H i).length ++ tails H d (i + 1)

/-- The heap of state i, and all that is still to come. -/
def full (H : Nat → List AObj) (m i : Nat) : List AObj := H i ++ tails H (m - i) i

section full
variable {H : Nat → List AObj} {m : Nat}

theorem full_end : full H m m = H m := by simp [full, tails]

theorem full_at {i : Nat} (hi : i < m) : full H m i = H i ++ (H (i + 1)).drop (H i).length ++ tails H (m - (i + 1)) (i + 1) := by
  unfold full
  rw [show m - i = (m - (i + 1)) + 1 by omega, tails, List.append_assoc]

theorem full_quiet {i : Nat} (hi : i < m) {new : List AObj} (h : H (i + 1) = H i ++ new) : full H m (i + 1) = full H m i := by
  rw [full_at hi, h, List.drop_append_of_le_length (Nat.le_refl _), List.drop_length, List.nil_append, full, h]

theorem full_set {i p q : Nat} (hi : i < m) {o : AObj} (h : H (i + 1) = (H i).set q o) (hp : p ≠ q) : (full H m (i + 1))[p]? = (full H m i)[p]? := by
  rw [full_at hi, h, full, h]
  have : ((H i).set q o).drop (H i).length = [] := List.drop_eq_nil_of_le (by simp)
  rw [this, List.append_nil]
  rcases Nat.lt_or_ge p (H i).length with hl | hl
  · rw [List.getElem?_append_left (by simpa using hl), List.getElem?_append_left hl, List.getElem?_set_ne (Ne.symm hp)]
  · rw [List.getElem?_append_right (by simpa using hl), List.getElem?_append_right hl]
    simp

theorem full_get {i k : Nat} (hk : k < (H i).length) : (full H m i)[k]? = (H i)[k]? := by
  unfold full; rw [List.getElem?_append_left hk]

theorem full_len (hm : ∀ i, i < m → (H i).length ≤ (H (i + 1)).length) : ∀ (d i : Nat), i + d = m → (full H m i).length = (H m).length
  | 0, i, h => by
    have : i = m := by omega
    subst this; rw [full_end]
  | d + 1, i, h => by
    have h1 := full_len hm d (i + 1) (by omega)
    have h2 := hm i (by omega)
    rw [full_at (by omega)]
    rw [full] at h1
    simp only [List.length_append, List.length_drop] at h1 ⊢
    omega

theorem mono_len (hm : ∀ i, i < m → (H i).length ≤ (H (i + 1)).length) {i j : Nat} (hij : i ≤ j) (hj : j ≤ m) : (H i).length ≤ (H j).length := by
  induction j with
  | zero => have : i = 0 := by omega
            subst this; exact Nat.le_refl _
  | succ j ih =>
    rcases Nat.eq_or_lt_of_le hij with he | hl
    · subst he; exact Nat.le_refl _
    · exact Nat.le_trans (ih (by omega) (by omega)) (hm j (by omega))

/-- Between two states nothing is written: the same heap. -/
theorem full_same {r i : Nat} (hri : r ≤ i) (hq : ∀ j, r ≤ j → j < i → full H m (j + 1) = full H m j) : full H m i = full H m r := by
  induction i with
  | zero => have : r = 0 := by omega
            subst this; rfl
  | succ i ih =>
    rcases Nat.eq_or_lt_of_le hri with he | hl
    · subst he; rfl
    · rw [hq i (by omega) (by omega)]
      exact ih (by omega) (fun j h1 h2 => hq j h1 (by omega))

theorem full_samep {r i p : Nat} (hri : r ≤ i) (hq : ∀ j, r ≤ j → j < i → (full H m (j + 1))[p]? = (full H m j)[p]?) : (full H m i)[p]? = (full H m r)[p]? := by
  induction i with
  | zero => have : r = 0 := by omega
            subst this; rfl
  | succ i ih =>
    rcases Nat.eq_or_lt_of_le hri with he | hl
    · subst he; rfl
    · rw [hq i (by omega) (by omega)]
      exact ih (by omega) (fun j h1 h2 => hq j h1 (by omega))

/-- Which operation has made an object. -/
theorem made_by {k i : Nat} (h1 : (H i).length ≤ k) (d : Nat) (hd : i + d = m) (h2 : k < (H m).length) : ∃ j, i ≤ j ∧ j < m ∧ (H j).length ≤ k ∧ k < (H (j + 1)).length := by
  induction d generalizing i with
  | zero => have : i = m := by omega
            subst this; omega
  | succ d ih =>
    rcases Nat.lt_or_ge k (H (i + 1)).length with hl | hl
    · exact ⟨i, Nat.le_refl _, by omega, h1, hl⟩
    · obtain ⟨j, a1, a2, a3, a4⟩ := ih hl (by omega)
      exact ⟨j, by omega, a2, a3, a4⟩
end full
end Fi
