/-
  Heaps of a drawn region: as they are when some writes have been done, and all objects that are still to come are thought to be there.
-/
import Derived.Test.YtonmcbnjifeagaaGreatDoorFiOrd1
set_option linter.unusedVariables false
set_option linter.unusedSimpArgs false
namespace Fi
open Go

section sim
variable {σ : Nat → Option FuncId} {β : Map} {I Wr : Nat → Prop} {wd : Nat → Prop} {w : World} {n : Nat} {H T : List AObj}

theorem getElem?_of_append {H T : List AObj} {k : Nat} {o : AObj} (h : H[k]? = some o) : (H ++ T)[k]? = some o := by
  rw [List.getElem?_append_left (List.getElem?_eq_some_iff.1 h).1]; exact h

theorem live_some {β : Map} {k : Nat} {o : AObj} {x : Nat × Nat × Nat} (h : o.live β k = some x) : ∃ v, β k v = some x := by
  cases o with
  | box cs => exact ⟨0, h⟩
  | row ver sz es => exact ⟨ver, h⟩
  | frz ver sz es => cases h

/-- Objects that are not there yet may be left away. -/
theorem SimH.pre (h : SimH σ n β I Wr wd (H ++ T) w) (hn : ∀ k v, H.length ≤ k → β k v = none) : SimH σ n β I Wr wd H w := by
  refine ⟨h.ilt, h.blt, h.wnew, fun k v x hx => ?_, fun k ver sz es v x h1 h2 => h.vdom k ver sz es v x (getElem?_of_append h1) h2, fun k o b bo cap h1 h2 => h.wr k o b bo cap (getElem?_of_append h1) h2,
    fun k cs b bo cap h1 h2 => h.box k cs b bo cap (getElem?_of_append h1) h2, fun k ver sz es b bo cap h1 h2 => h.row k ver sz es b bo cap (getElem?_of_append h1) h2,
    fun k ver sz es b bo cap h1 h2 => h.frz k ver sz es b bo cap (getElem?_of_append h1) h2, fun k k' o o' b bo cap bo' cap' h1 h2 h3 h4 => h.inj k k' o o' b bo cap bo' cap' (getElem?_of_append h1) (getElem?_of_append h2) h3 h4⟩
  rcases Nat.lt_or_ge k H.length with hl | hl
  · exact hl
  · rw [hn k v hl] at hx; cases hx

/-- Objects that are not there yet may be put behind. -/
theorem SimH.app (h : SimH σ n β I Wr wd H w) (T : List AObj) : SimH σ n β I Wr wd (H ++ T) w := by
  have hget : ∀ (k : Nat) (o : AObj) v x, (H ++ T)[k]? = some o → β k v = some x → H[k]? = some o := fun k o v x h1 h2 => by
    rw [List.getElem?_append_left (h.dom _ _ _ h2)] at h1; exact h1
  refine ⟨h.ilt, h.blt, h.wnew, fun k v x hx => by rw [List.length_append]; exact Nat.lt_of_lt_of_le (h.dom _ _ _ hx) (Nat.le_add_right _ _), fun k ver sz es v x h1 h2 => h.vdom k ver sz es v x (hget _ _ _ _ h1 h2) h2,
    fun k o b bo cap h1 h2 => ?_, fun k cs b bo cap h1 h2 => h.box k cs b bo cap (hget _ _ _ _ h1 h2) h2, fun k ver sz es b bo cap h1 h2 => h.row k ver sz es b bo cap (hget _ _ _ _ h1 h2) h2,
    fun k ver sz es b bo cap h1 h2 => h.frz k ver sz es b bo cap (hget _ _ _ _ h1 h2) h2, fun k k' o o' b bo cap bo' cap' h1 h2 h3 h4 => ?_⟩
  · obtain ⟨v, hv⟩ := live_some h2
    exact h.wr k o b bo cap (hget _ _ _ _ h1 hv) h2
  · obtain ⟨v, hv⟩ := live_some h3
    obtain ⟨v', hv'⟩ := live_some h4
    exact h.inj k k' o o' b bo cap bo' cap' (hget _ _ _ _ h1 hv) (hget _ _ _ _ h2 hv') h3 h4

/-- The map of the first m objects. -/
def Map.upto (β : Map) (m : Nat) : Map := fun k v => if k < m then β k v else none

theorem Map.upto_lt {β : Map} {m k v : Nat} (h : k < m) : β.upto m k v = β k v := by simp [Map.upto, h]
theorem Map.upto_some {β : Map} {m k v : Nat} {x : Nat × Nat × Nat} (h : β.upto m k v = some x) : k < m ∧ β k v = some x := by
  unfold Map.upto at h
  split at h
  · exact ⟨by assumption, h⟩
  · cases h

/-- The objects that a step knows, out of all. -/
theorem SimH.first {A : List AObj} (h : SimH σ n β I Wr wd (A ++ T) w) (hbox : ∀ (k : Nat) cs b bo cap, A[k]? = some (.box cs) → β k 0 = some (b, bo, cap) → ∀ (j : Nat) (f : FV) (x : Value), cs[j]? = some f → RepF σ β I w n f x → RepF σ (β.upto A.length) I w n f x) :
    SimH σ n (β.upto A.length) I (fun b => w.heap.size ≤ b) (fun k => A.length ≤ k) A w := by
  have hget : ∀ (k : Nat) (o : AObj), A[k]? = some o → (A ++ T)[k]? = some o ∧ k < A.length := fun k o h1 => ⟨getElem?_of_append h1, (List.getElem?_eq_some_iff.1 h1).1⟩
  have hlive : ∀ (k : Nat) (o : AObj), k < A.length → o.live (β.upto A.length) k = o.live β k := fun k o hk => by cases o <;> simp [AObj.live, Map.upto_lt hk]
  refine ⟨h.ilt, fun k v b bo cap hb => h.blt _ _ _ _ _ (Map.upto_some hb).2, fun b hb => hb, fun k v x hx => (Map.upto_some hx).1, fun k ver sz es v x h1 h2 => h.vdom k ver sz es v x (hget _ _ h1).1 (Map.upto_some h2).2,
    fun k o b bo cap h1 h2 => ?_, fun k cs b bo cap h1 h2 => ?_, fun k ver sz es b bo cap h1 h2 => h.row k ver sz es b bo cap (hget _ _ h1).1 (Map.upto_some h2).2,
    fun k ver sz es b bo cap h1 h2 => h.frz k ver sz es b bo cap (hget _ _ h1).1 (Map.upto_some h2).2, fun k k' o o' b bo cap bo' cap' h1 h2 h3 h4 => ?_⟩
  · obtain ⟨g1, g2⟩ := hget _ _ h1
    rw [hlive _ _ g2] at h2
    exact ⟨fun hk => by omega, (h.wr k o b bo cap g1 h2).2⟩
  · obtain ⟨g1, g2⟩ := hget _ _ h1
    obtain ⟨a0, c, e, a1, a2, a3⟩ := h.box k cs b bo cap g1 (Map.upto_some h2).2
    exact ⟨a0, c, e, a1, a2, fun j f x e1 e2 => hbox k cs b bo cap h1 (Map.upto_some h2).2 j f x e1 (a3 j f x e1 e2)⟩
  · obtain ⟨g1, g2⟩ := hget _ _ h1
    obtain ⟨g3, g4⟩ := hget _ _ h2
    rw [hlive _ _ g2] at h3; rw [hlive _ _ g4] at h4
    exact h.inj k k' o o' b bo cap bo' cap' g1 g3 h3 h4
end sim
end Fi
