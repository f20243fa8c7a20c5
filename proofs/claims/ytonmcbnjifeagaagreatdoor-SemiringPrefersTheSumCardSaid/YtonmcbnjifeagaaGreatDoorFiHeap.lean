/-
  The abstract heap under a store and an append.
-/
import Derived.Test.YtonmcbnjifeagaaGreatDoorFiRep
set_option linter.unusedVariables false
set_option linter.unusedSimpArgs false
namespace Fi
open Go

section upd
variable {σ : Nat → Option FuncId} {I Wr : Nat → Prop} {wd : Nat → Prop} {w w' : World} {β : Map} {n : Nat} {H : List AObj}

/-- One object is another one behind the step: it lies in the block that it had, or in a new one. -/
theorem SimH.upd (h : SimH σ n β I Wr wd H w) {k : Nat} (hkw : wd k) {o : AObj} {b bo cap : Nat} (hk : H[k]? = some o) (hl : o.live β k = some (b, bo, cap))
    (o' : AObj) (v' b2 bo2 cap2 : Nat) (hsz : w.heap.size ≤ w'.heap.size) (hoth : ∀ x, x < w.heap.size → x ≠ b → w'.heap[x]? = w.heap[x]?)
    (hb2 : b2 = b ∨ w.heap.size ≤ b2) (hb3 : b2 < w'.heap.size) (hver : ∀ x, β k v' = some x → x = (b2, bo2, cap2))
    (hos : w'.os = w.os) (htape : w'.tape = w.tape) (hout : w'.output = w.output)
    (ho : (∃ cs c e, o' = .box cs ∧ v' = 0 ∧ bo2 = 0 ∧ w'.heap[b2]? = some (.cells c e (0, 0)) ∧ c.size = cs.length ∧ ∀ (j : Nat) (f : FV) (x : Value), cs[j]? = some f → c[j]? = some x → RepF σ β I w' n f x) ∨
      (∃ sz es c e, o' = .row v' sz es ∧ (∀ v x, β k v = some x → v ≤ v') ∧ w'.heap[b2]? = some (.cells c e (0, 0)) ∧ c.size = bo2 + cap2 * sz ∧ AtRows σ I w' b2 bo2 cap2 sz es)) :
    Ext β (β.put k v' (b2, bo2, cap2)) I I Wr w w' ∧ SimH σ n (β.put k v' (b2, bo2, cap2)) I Wr wd (H.set k o') w' := by
  have hkl : k < H.length := by
    rcases Nat.lt_or_ge k H.length with h' | h'
    · exact h'
    · rw [List.getElem?_eq_none h'] at hk; cases hk
  obtain ⟨hwr0, hnI⟩ := h.wr k o b bo cap hk hl
  have hwr := hwr0 hkw
  have hbl : b < w.heap.size := by
    cases o with
    | box cs => exact h.blt _ _ _ _ _ hl
    | row ver sz es => exact h.blt _ _ _ _ _ hl
    | frz ver sz es => cases hl
  have hbm : ∀ k1 v1 x, β k1 v1 = some x → (β.put k v' (b2, bo2, cap2)) k1 v1 = some x := by
    intro k1 v1 x e
    by_cases hc : k1 = k ∧ v1 = v'
    · obtain ⟨rfl, rfl⟩ := hc
      rw [Map.put_same, hver x e]
    · exact (Map.put_other _ _ _ _ hc).trans e
  have hI : ∀ x, I x → w'.heap[x]? = w.heap[x]? := fun x hx => hoth x (h.ilt x hx) (fun e => hnI (e ▸ hx))
  have hext : Ext β (β.put k v' (b2, bo2, cap2)) I I Wr w w' :=
    ⟨hbm, fun _ h => h, fun _ h => .inl h, hsz, hI, fun x hx hnx => hoth x hx (fun e => hnx (e ▸ hwr)), hos, htape, hout⟩
  refine ⟨hext, ?_⟩
  have hget : ∀ (k1 : Nat) (o1 : AObj), (H.set k o')[k1]? = some o1 → (k1 ≠ k ∧ H[k1]? = some o1) ∨ (k1 = k ∧ o1 = o') := by
    intro k1 o1 h1
    by_cases hc : k1 = k
    · subst hc
      rw [List.getElem?_set_self hkl] at h1
      exact .inr ⟨rfl, by simpa using h1.symm⟩
    · rw [List.getElem?_set_ne (Ne.symm hc)] at h1
      exact .inl ⟨hc, h1⟩
  have hother : ∀ k1 v1, k1 ≠ k → (β.put k v' (b2, bo2, cap2)) k1 v1 = β k1 v1 := fun k1 v1 hc => Map.put_other _ _ _ _ (by simp [hc])
  have hlive : ∀ (k1 : Nat) (o1 : AObj), k1 ≠ k → o1.live (β.put k v' (b2, bo2, cap2)) k1 = o1.live β k1 := fun k1 o1 hc => by cases o1 <;> simp [AObj.live, hother _ _ hc]
  have hlv : o'.live (β.put k v' (b2, bo2, cap2)) k = some (b2, bo2, cap2) := by
    rcases ho with ⟨cs, c, e, rfl, rfl, _⟩ | ⟨sz, es, c, e, rfl, _⟩ <;> simp [AObj.live, Map.put_same]
  have hne : ∀ (k1 : Nat) (o1 : AObj) b1 bo1 cap1, k1 ≠ k → H[k1]? = some o1 → o1.live β k1 = some (b1, bo1, cap1) → b1 ≠ b ∧ b1 < w.heap.size := by
    intro k1 o1 b1 bo1 cap1 hc h1 h2
    refine ⟨fun e => hc (h.inj k1 k o1 o b bo1 cap1 bo cap h1 hk (e ▸ h2) hl), ?_⟩
    cases o1 with
    | box cs => exact h.blt _ _ _ _ _ h2
    | row ver sz es => exact h.blt _ _ _ _ _ h2
    | frz ver sz es => cases h2
  constructor
  · exact fun x hx => Nat.lt_of_lt_of_le (h.ilt x hx) hsz
  · intro k1 v1 b1 bo1 cap1 h1
    simp only [Map.put] at h1
    split at h1
    · cases h1; exact hb3
    · exact Nat.lt_of_lt_of_le (h.blt _ _ _ _ _ h1) hsz
  · exact fun x hx => h.wnew x (Nat.le_trans hsz hx)
  · intro k1 v1 x h1
    simp only [Map.put] at h1
    split at h1
    · rename_i hh; rw [List.length_set, hh.1]; exact hkl
    · rw [List.length_set]; exact h.dom _ _ _ h1
  · intro k1 ver sz es v1 x h1 h2
    rcases hget k1 _ h1 with ⟨hc, h3⟩ | ⟨rfl, h3⟩
    · rw [hother _ _ hc] at h2; exact h.vdom k1 ver sz es v1 x h3 h2
    · rcases ho with ⟨cs, c, e, rfl, _⟩ | ⟨sz', es', c, e, rfl, hvd, _⟩
      · cases h3
      · cases h3
        simp only [Map.put] at h2
        split at h2
        · rename_i hh; omega
        · exact hvd _ _ h2
  · intro k1 o1 b1 bo1 cap1 h1 h2
    rcases hget k1 _ h1 with ⟨hc, h3⟩ | ⟨rfl, rfl⟩
    · rw [hlive _ _ hc] at h2; exact h.wr k1 o1 b1 bo1 cap1 h3 h2
    · rw [hlv] at h2; cases h2
      rcases hb2 with rfl | hb2
      · exact ⟨fun _ => hwr, hnI⟩
      · exact ⟨fun _ => h.wnew _ hb2, fun hx => by have := h.ilt _ hx; omega⟩
  · intro k1 cs b1 bo1 cap1 h1 h2
    rcases hget k1 _ h1 with ⟨hc, h3⟩ | ⟨rfl, h3⟩
    · rw [hother _ _ hc] at h2
      obtain ⟨a0, c, e, a1, a2, a3⟩ := h.box k1 cs b1 bo1 cap1 h3 h2
      obtain ⟨d1, d2⟩ := hne k1 _ b1 bo1 cap1 hc h3 h2
      exact ⟨a0, c, e, by rw [hoth _ d2 d1]; exact a1, a2, fun j f x e1 e2 => hext.repF (a3 j f x e1 e2)⟩
    · rcases ho with ⟨cs', c, e, rfl, rfl, rfl, g1, g2, g3⟩ | ⟨sz', es', c, e, rfl, _⟩
      · cases h3
        rw [Map.put_same] at h2; cases h2
        exact ⟨rfl, c, e, g1, g2, fun j f x e1 e2 => (g3 j f x e1 e2).mono hbm (fun _ e => e) (fun _ _ => rfl)⟩
      · cases h3
  · intro k1 ver sz es b1 bo1 cap1 h1 h2
    rcases hget k1 _ h1 with ⟨hc, h3⟩ | ⟨rfl, h3⟩
    · rw [hother _ _ hc] at h2
      obtain ⟨a0, c, e, a1, a2⟩ := h.row k1 ver sz es b1 bo1 cap1 h3 h2
      obtain ⟨d1, d2⟩ := hne k1 _ b1 bo1 cap1 hc h3 h2
      exact ⟨a0.mono (fun _ e => e) hI (hoth _ d2 d1), c, e, by rw [hoth _ d2 d1]; exact a1, a2⟩
    · rcases ho with ⟨cs', c, e, rfl, _⟩ | ⟨sz', es', c, e, rfl, _, g1, g2, g3⟩
      · cases h3
      · cases h3
        rw [Map.put_same] at h2; cases h2
        exact ⟨g3, c, e, g1, g2⟩
  · intro k1 ver sz es b1 bo1 cap1 h1 h2
    rcases hget k1 _ h1 with ⟨hc, h3⟩ | ⟨rfl, h3⟩
    · rw [hother _ _ hc] at h2
      obtain ⟨a0, a1⟩ := h.frz k1 ver sz es b1 bo1 cap1 h3 h2
      exact ⟨a0.mono (fun _ e => e) hI (hI b1 a1), a1⟩
    · rcases ho with ⟨cs', c, e, rfl, _⟩ | ⟨sz', es', c, e, rfl, _⟩ <;> cases h3
  · intro k1 k2 o1 o2 b1 bo1 cap1 bo2' cap2' h1 h2 h3 h4
    rcases hget k1 _ h1 with ⟨hc, h5⟩ | ⟨e1, e2⟩ <;> rcases hget k2 _ h2 with ⟨hc', h6⟩ | ⟨e3, e4⟩
    · rw [hlive _ _ hc] at h3; rw [hlive _ _ hc'] at h4
      exact h.inj k1 k2 o1 o2 b1 bo1 cap1 bo2' cap2' h5 h6 h3 h4
    · rw [hlive _ _ hc] at h3
      obtain ⟨d1, d2⟩ := hne k1 _ b1 bo1 cap1 hc h5 h3
      rw [e3, e4, hlv] at h4; cases h4
      rcases hb2 with hb2 | hb2
      · exact absurd hb2 d1
      · omega
    · rw [hlive _ _ hc'] at h4
      obtain ⟨d1, d2⟩ := hne k2 _ b1 bo2' cap2' hc' h6 h4
      rw [e1, e2, hlv] at h3; cases h3
      rcases hb2 with hb2 | hb2
      · exact absurd hb2 d1
      · omega
    · exact e1.trans e3.symm
end upd

theorem St.heap_eq (st : St) (p : Ref) : st.heap p = (st.base ++ st.loc)[p.abs st.base.length]? := by
  cases p with
  | loc i => simp [St.heap, Ref.abs, List.getElem?_append_right]
  | old i => simp [St.heap, Ref.abs]

theorem St.setHeap_eq (st : St) (p : Ref) (o : AObj) : (st.setHeap p o).base ++ (st.setHeap p o).loc = (st.base ++ st.loc).set (p.abs st.base.length) o := by
  cases p with
  | loc i => simp [St.setHeap, Ref.abs, List.set_append_right]
  | old i =>
    simp only [St.setHeap, Ref.abs]
    split
    · rename_i hi
      rw [List.set_append_left _ _ hi]
    · rename_i hi
      rw [List.set_append_right _ _ (by omega)]

/-- Own objects may be written; others may be, if they have been. -/
def MayW (n : Nat) (st' : St) (wd : Nat → Prop) : Prop := (∀ k, n ≤ k → wd k) ∧ (st'.dirty = true → ∀ k, wd k)

theorem St.setHeap_dirty (st : St) (p : Ref) (o : AObj) {wd : Nat → Prop} (h : MayW st.base.length (st.setHeap p o) wd) : wd (p.abs st.base.length) := by
  cases p with
  | loc i => exact h.1 _ (Nat.le_add_right _ _)
  | old i => exact h.2 rfl _

theorem St.setHeap_base (st : St) (p : Ref) (o : AObj) : (st.setHeap p o).base.length = st.base.length := by
  cases p with
  | loc i => rfl
  | old i => simp only [St.setHeap]; split <;> simp

theorem St.setHeap_vars (st : St) (p : Ref) (o : AObj) : (st.setHeap p o).vars = st.vars := by cases p <;> rfl

theorem St.push_eq (st : St) (o : AObj) : (st.push o).base ++ (st.push o).loc = (st.base ++ st.loc) ++ [o] := by simp [St.push]

end Fi
