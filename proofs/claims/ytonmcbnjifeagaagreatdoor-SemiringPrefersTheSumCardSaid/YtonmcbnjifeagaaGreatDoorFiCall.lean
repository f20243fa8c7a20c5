/-
  Calls: what leaves, what is frozen, what a callee is handed and hands back.
-/
import Derived.Test.YtonmcbnjifeagaaGreatDoorFiStep2
import Derived.Test.YtonmcbnjifeagaaGreatDoorFiMeta
set_option linter.unusedVariables false
set_option linter.unusedSimpArgs false
namespace Fi
open Go

theorem toOldL_eq (n : Nat) : ∀ l : List FV, FV.toOldL n l = l.map (FV.toOld n)
  | [] => by rw [FV.toOldL]; rfl
  | x :: l => by rw [FV.toOldL, toOldL_eq n l]; rfl

theorem shiftL_eq (m : Nat) : ∀ l : List FV, FV.shiftL m l = l.map (FV.shift m)
  | [] => by rw [FV.shiftL]; rfl
  | x :: l => by rw [FV.shiftL, shiftL_eq m l]; rfl

section trans
variable {σ : Nat → Option FuncId} {β : Map} {I : Nat → Prop} {w : World} {n : Nat}

theorem RepF.toOld {v : FV} {x : Value} (h : RepF σ β I w n v x) (n' : Nat) : RepF σ β I w n' (v.toOld n) x := by
  induction h with
  | u x => simp only [FV.toOld]; exact .u x
  | d h => simp only [FV.toOld]; exact .d h
  | r h =>
    rename_i p off b bo cap
    cases p <;> simp only [FV.toOld] <;> exact .r (p := .old _) h
  | e h =>
    rename_i p ver sz i off b bo cap
    cases p <;> simp only [FV.toOld] <;> exact .e (p := .old _) h
  | rc hb ho h => simp only [FV.toOld]; exact .rc hb ho h
  | ls h hl ho =>
    rename_i p ver sz off len b bo cap o
    cases p <;> simp only [FV.toOld] <;> exact .ls (p := .old _) h hl ho
  | f h h1 h2 _ _ ih1 ih2 =>
    simp only [FV.toOld, toOldL_eq]
    refine .f h (by simpa using h1) (by simpa using h2) (fun i c x hc hx => ?_) (fun i c x hc hx => ?_)
    · simp only [List.getElem?_map, Option.map_eq_some_iff] at hc
      obtain ⟨d, hd, rfl⟩ := hc
      exact ih1 i d x hd hx
    · simp only [List.getElem?_map, Option.map_eq_some_iff] at hc
      obtain ⟨d, hd, rfl⟩ := hc
      exact ih2 i d x hd hx
  | a hl _ ih =>
    simp only [FV.toOld, toOldL_eq]
    refine .a (by simpa using hl) (fun i c x hc hx => ?_)
    simp only [List.getElem?_map, Option.map_eq_some_iff] at hc
    obtain ⟨d, hd, rfl⟩ := hc
    exact ih i d x hd hx
  | t hl _ ih =>
    simp only [FV.toOld, toOldL_eq]
    refine .t (by simpa using hl) (fun i c x hc hx => ?_)
    simp only [List.getElem?_map, Option.map_eq_some_iff] at hc
    obtain ⟨d, hd, rfl⟩ := hc
    exact ih i d x hd hx

theorem RepF.shift {v : FV} {x : Value} (h : RepF σ β I w 0 v x) {β' : Map} {n m : Nat} (hβ : ∀ i ver y, β i ver = some y → β' (n + (m + i)) ver = some y) : RepF σ β' I w n (v.shift m) x := by
  generalize hz : 0 = z at h
  induction h with
  | u x => simp only [FV.shift]; exact .u x
  | d h => simp only [FV.shift]; exact .d h
  | r h =>
    subst hz
    rename_i p off b bo cap
    cases p <;> simp only [FV.shift] <;> exact .r (p := .loc _) (hβ _ _ _ (by simpa [Ref.abs] using h))
  | e h =>
    subst hz
    rename_i p ver sz i off b bo cap
    cases p <;> simp only [FV.shift] <;> exact .e (p := .loc _) (hβ _ _ _ (by simpa [Ref.abs] using h))
  | rc hb ho h => simp only [FV.shift]; exact .rc hb ho h
  | ls h hl ho =>
    subst hz
    rename_i p ver sz off len b bo cap o
    cases p <;> simp only [FV.shift] <;> exact .ls (p := .loc _) (hβ _ _ _ (by simpa [Ref.abs] using h)) hl ho
  | f h h1 h2 _ _ ih1 ih2 =>
    simp only [FV.shift, shiftL_eq]
    refine .f h (by simpa using h1) (by simpa using h2) (fun i c x hc hx => ?_) (fun i c x hc hx => ?_)
    · simp only [List.getElem?_map, Option.map_eq_some_iff] at hc
      obtain ⟨d, hd, rfl⟩ := hc
      exact ih1 i d x hd hx
    · simp only [List.getElem?_map, Option.map_eq_some_iff] at hc
      obtain ⟨d, hd, rfl⟩ := hc
      exact ih2 i d x hd hx
  | a hl _ ih =>
    simp only [FV.shift, shiftL_eq]
    refine .a (by simpa using hl) (fun i c x hc hx => ?_)
    simp only [List.getElem?_map, Option.map_eq_some_iff] at hc
    obtain ⟨d, hd, rfl⟩ := hc
    exact ih i d x hd hx
  | t hl _ ih =>
    simp only [FV.shift, shiftL_eq]
    refine .t (by simpa using hl) (fun i c x hc hx => ?_)
    simp only [List.getElem?_map, Option.map_eq_some_iff] at hc
    obtain ⟨d, hd, rfl⟩ := hc
    exact ih i d x hd hx
end trans

section sim
variable {σ : Nat → Option FuncId} {β : Map} {I Wr : Nat → Prop} {wd : Nat → Prop} {w : World} {n : Nat} {H : List AObj}

/-- More blocks are data: none of them is an object's that may be written. -/
theorem SimH.addI (h : SimH σ n β I Wr wd H w) {I' : Nat → Prop} (hm : ∀ b, I b → I' b) (hlt : ∀ b, I' b → b < w.heap.size) (hn : ∀ (k : Nat) (o : AObj) b bo cap, H[k]? = some o → o.live β k = some (b, bo, cap) → ¬ I' b) :
    SimH σ n β I' Wr wd H w := by
  refine ⟨hlt, h.blt, h.wnew, h.dom, h.vdom, fun k o b bo cap h1 h2 => ⟨(h.wr k o b bo cap h1 h2).1, hn k o b bo cap h1 h2⟩, ?_, ?_, ?_, h.inj⟩
  · intro k cs b bo cap h1 h2
    obtain ⟨a0, c, e', a1, a2, a3⟩ := h.box k cs b bo cap h1 h2
    exact ⟨a0, c, e', a1, a2, fun j f x e1 e2 => (a3 j f x e1 e2).mono (fun _ _ _ h => h) hm (fun _ _ => rfl)⟩
  · intro k ver sz' es b bo cap h1 h2
    obtain ⟨a0, c, e', a1, a2⟩ := h.row k ver sz' es b bo cap h1 h2
    exact ⟨a0.mono hm (fun _ _ => rfl) rfl, c, e', a1, a2⟩
  · intro k ver sz' es b bo cap h1 h2
    obtain ⟨a0, a1⟩ := h.frz k ver sz' es b bo cap h1 h2
    exact ⟨a0.mono hm (fun _ _ => rfl) rfl, hm _ a1⟩

/-- The same heap with other bounds on what may be written. -/
theorem SimH.reWr (h : SimH σ n β I Wr wd H w) {n' : Nat} {Wr' : Nat → Prop} {wd' : Nat → Prop} (hnew : ∀ b, w.heap.size ≤ b → Wr' b)
    (hw : ∀ (k : Nat) (o : AObj) b bo cap, H[k]? = some o → o.live β k = some (b, bo, cap) → wd' k → Wr' b)
    (hbox : ∀ (k : Nat) cs b bo cap, H[k]? = some (.box cs) → β k 0 = some (b, bo, cap) → ∀ (j : Nat) (f : FV) (x : Value), cs[j]? = some f → RepF σ β I w n f x → RepF σ β I w n' f x) : SimH σ n' β I Wr' wd' H w := by
  refine ⟨h.ilt, h.blt, hnew, h.dom, h.vdom, fun k o b bo cap h1 h2 => ⟨hw k o b bo cap h1 h2, (h.wr k o b bo cap h1 h2).2⟩, ?_, h.row, h.frz, h.inj⟩
  intro k cs b bo cap h1 h2
  obtain ⟨a0, c, e', a1, a2, a3⟩ := h.box k cs b bo cap h1 h2
  exact ⟨a0, c, e', a1, a2, fun j f x e1 e2 => hbox k cs b bo cap h1 h2 j f x e1 (a3 j f x e1 e2)⟩

/-- Freezing one row. -/
theorem SimH.freeze1 (h : SimH σ n β I Wr wd H w) {k ver sz : Nat} {es : List D} (hk : H[k]? = some (.row ver sz es)) :
    SimH σ n β (fun b => I b ∨ ∃ bo cap, β k ver = some (b, bo, cap)) Wr wd (H.set k (.frz ver sz es)) w := by
  have hkl : k < H.length := (List.getElem?_eq_some_iff.1 hk).1
  have hm : ∀ b, I b → (I b ∨ ∃ bo cap, β k ver = some (b, bo, cap)) := fun b hb => .inl hb
  have hget : ∀ (k1 : Nat) (o1 : AObj), (H.set k (.frz ver sz es))[k1]? = some o1 → (k1 ≠ k ∧ H[k1]? = some o1) ∨ (k1 = k ∧ o1 = .frz ver sz es) := by
    intro k1 o1 h1
    by_cases hc : k1 = k
    · subst hc
      rw [List.getElem?_set_self hkl] at h1
      exact .inr ⟨rfl, by simpa using h1.symm⟩
    · rw [List.getElem?_set_ne (Ne.symm hc)] at h1
      exact .inl ⟨hc, h1⟩
  refine ⟨?_, h.blt, h.wnew, ?_, ?_, ?_, ?_, ?_, ?_, ?_⟩
  · rintro b (hb | ⟨bo, cap, hb⟩)
    · exact h.ilt b hb
    · exact h.blt _ _ _ _ _ hb
  · intro k1 v x hx; rw [List.length_set]; exact h.dom k1 v x hx
  · intro k1 ver1 sz1 es1 v x h1 h2
    rcases hget k1 _ h1 with ⟨_, h3⟩ | ⟨rfl, h3⟩
    · exact h.vdom _ _ _ _ _ _ h3 h2
    · cases h3
  · intro k1 o b bo cap h1 h2
    rcases hget k1 _ h1 with ⟨hc, h3⟩ | ⟨rfl, rfl⟩
    · obtain ⟨a1, a2⟩ := h.wr k1 o b bo cap h3 h2
      refine ⟨a1, ?_⟩
      rintro (hb | ⟨bo', cap', hb⟩)
      · exact a2 hb
      · exact hc (h.inj k1 k o (.row ver sz es) b bo cap bo' cap' h3 hk h2 hb)
    · cases h2
  · intro k1 cs b bo cap h1 h2
    rcases hget k1 _ h1 with ⟨_, h3⟩ | ⟨rfl, h3⟩
    · obtain ⟨a0, c, e', a1, a2, a3⟩ := h.box k1 cs b bo cap h3 h2
      exact ⟨a0, c, e', a1, a2, fun j f x e1 e2 => (a3 j f x e1 e2).mono (fun _ _ _ h => h) hm (fun _ _ => rfl)⟩
    · cases h3
  · intro k1 ver1 sz1 es1 b bo cap h1 h2
    rcases hget k1 _ h1 with ⟨_, h3⟩ | ⟨rfl, h3⟩
    · obtain ⟨a0, c, e', a1, a2⟩ := h.row k1 ver1 sz1 es1 b bo cap h3 h2
      exact ⟨a0.mono hm (fun _ _ => rfl) rfl, c, e', a1, a2⟩
    · cases h3
  · intro k1 ver1 sz1 es1 b bo cap h1 h2
    rcases hget k1 _ h1 with ⟨_, h3⟩ | ⟨rfl, h3⟩
    · obtain ⟨a0, a1⟩ := h.frz k1 ver1 sz1 es1 b bo cap h3 h2
      exact ⟨a0.mono hm (fun _ _ => rfl) rfl, hm _ a1⟩
    · cases h3
      obtain ⟨a0, _⟩ := h.row k1 ver sz es b bo cap hk h2
      exact ⟨a0.mono hm (fun _ _ => rfl) rfl, .inr ⟨bo, cap, h2⟩⟩
  · intro k1 k2 o1 o2 b bo cap bo' cap' h1 h2 h3 h4
    rcases hget k1 _ h1 with ⟨_, h5⟩ | ⟨rfl, rfl⟩
    · rcases hget k2 _ h2 with ⟨_, h6⟩ | ⟨rfl, rfl⟩
      · exact h.inj k1 k2 o1 o2 b bo cap bo' cap' h5 h6 h3 h4
      · cases h4
    · cases h3
end sim

section freeze
variable {σ : Nat → Option FuncId} {β : Map} {Wr : Nat → Prop} {wd : Nat → Prop} {w : World}

/-- What freezing rows leaves. -/
structure Frozen (σ : Nat → Option FuncId) (β : Map) (I I' Wr : Nat → Prop) (wd : Nat → Prop) (st st' : St) (w : World) (rs : List Ref) : Prop where
  sim : SimH σ st.base.length β I' Wr wd (st'.base ++ st'.loc) w
  im : ∀ b, I b → I' b
  base : st'.base.length = st.base.length
  len : st'.loc.length = st.loc.length
  /-- a new block of data was a row's that might be written -/
  inew : ∀ b, I' b → I b ∨ ∃ k o bo cap, (st.base ++ st.loc)[k]? = some o ∧ o.live β k = some (b, bo, cap) ∧ (st'.dirty = true ∨ st.base.length ≤ k)
  /-- objects are as they were, or frozen -/
  keep : ∀ (k : Nat) (o : AObj), (st.base ++ st.loc)[k]? = some o → (st'.base ++ st'.loc)[k]? = some o ∨ ∃ ver sz es, o = .row ver sz es ∧ (st'.base ++ st'.loc)[k]? = some (.frz ver sz es)
  back : ∀ (k : Nat) (o : AObj), (st'.base ++ st'.loc)[k]? = some o → (st.base ++ st.loc)[k]? = some o ∨ ∃ ver sz es, o = .frz ver sz es ∧ (st.base ++ st.loc)[k]? = some (.row ver sz es)
  all : ∀ p ∈ rs, ∀ ver sz es, (st.base ++ st.loc)[p.abs st.base.length]? = some (.row ver sz es) → (st'.base ++ st'.loc)[p.abs st.base.length]? = some (.frz ver sz es)

theorem frozen_all : ∀ (rs : List Ref) {I : Nat → Prop} {st : St}, SimH σ st.base.length β I Wr wd (st.base ++ st.loc) w → ∃ I', Frozen σ β I I' Wr wd st (freezeAll st rs) w rs
  | [], I, st, h => ⟨I, h, fun _ h => h, rfl, rfl, fun _ h => .inl h, fun _ _ h => .inl h, fun _ _ h => .inl h, fun p hp => by simp at hp⟩
  | p :: rs, I, st, h => by
    simp only [freezeAll]
    split
    · rename_i ver sz es hp
      rw [St.heap_eq] at hp
      have h1 := h.freeze1 hp
      have hb := St.setHeap_base st p (.frz ver sz es)
      rw [← St.setHeap_eq, ← hb] at h1
      obtain ⟨I', f⟩ := frozen_all rs h1
      have hset := St.setHeap_eq st p (.frz ver sz es)
      have hkl := (List.getElem?_eq_some_iff.1 hp).1
      have hget : ∀ (k : Nat), (((st.setHeap p (.frz ver sz es)).base ++ (st.setHeap p (.frz ver sz es)).loc))[k]? = if k = p.abs st.base.length then some (.frz ver sz es) else (st.base ++ st.loc)[k]? := by
        intro k
        rw [hset]
        by_cases hk : k = p.abs st.base.length
        · rw [if_pos hk, hk, List.getElem?_set_self hkl]
        · rw [if_neg hk, List.getElem?_set_ne (Ne.symm hk)]
      refine ⟨I', by rw [← hb]; exact f.sim, fun b hb => f.im b (.inl hb), f.base.trans hb, f.len.trans (setHeap_loc _ _ _), ?_, ?_, ?_, ?_⟩
      · intro b hI'
        rcases f.inew b hI' with (hI | ⟨bo, cap, hβ⟩) | ⟨k, o, bo, cap, g1, g2, g3⟩
        · exact .inl hI
        · rw [hb] at hβ
          refine .inr ⟨_, _, bo, cap, hp, hβ, ?_⟩
          cases p with
          | loc i => exact .inr (Nat.le_add_right _ _)
          | old i => exact .inl ((Kept.freezeAll rs _).dirty rfl)
        · rw [hget] at g1
          split at g1
          · cases g1; cases g2
          · exact .inr ⟨k, o, bo, cap, g1, g2, by rw [hb] at g3; exact g3⟩
      · intro k o hk
        by_cases hkp : k = p.abs st.base.length
        · subst hkp
          rw [hp] at hk; cases hk
          have := f.keep (p.abs st.base.length) (.frz ver sz es) (by rw [hget, if_pos rfl])
          rcases this with h | ⟨_, _, _, h, _⟩
          · exact .inr ⟨ver, sz, es, rfl, h⟩
          · cases h
        · exact f.keep k o (by rw [hget, if_neg hkp]; exact hk)
      · intro k o hk
        rcases f.back k o hk with h2 | ⟨ver', sz', es', h2, h3⟩
        · rw [hget] at h2
          split at h2
          · rename_i hkp
            cases h2
            exact .inr ⟨ver, sz, es, rfl, by rw [hkp]; exact hp⟩
          · exact .inl h2
        · rw [hget] at h3
          split at h3
          · cases h3
          · exact .inr ⟨ver', sz', es', h2, h3⟩
      · intro q hq ver' sz' es' hrow
        by_cases hqp : q.abs st.base.length = p.abs st.base.length
        · rw [hqp, hp] at hrow
          cases hrow
          have := f.keep (p.abs st.base.length) (.frz ver sz es) (by rw [hget, if_pos rfl])
          rw [hqp]
          rcases this with h | ⟨_, _, _, h, _⟩
          · exact h
          · cases h
        · rcases List.mem_cons.1 hq with rfl | hq
          · exact absurd rfl hqp
          · have := f.all q hq ver' sz' es' (by rw [hb, hget, if_neg hqp]; exact hrow)
            rw [hb] at this
            exact this
    · rename_i hne
      obtain ⟨I', f⟩ := frozen_all rs h
      refine ⟨I', f.sim, f.im, f.base, f.len, f.inew, f.keep, f.back, ?_⟩
      intro q hq ver sz es hrow
      rcases List.mem_cons.1 hq with rfl | hq
      · exact absurd (by rw [St.heap_eq]; exact hrow) (hne ver sz es)
      · exact f.all q hq ver sz es hrow
end freeze
end Fi
