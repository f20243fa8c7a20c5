/-
  Drawn orders: the trace of a run, the order that edges give, and an invariant that every order keeps.
-/
import Derived.Test.YtonmcbnjifeagaaGreatDoorFiRun
import Derived.Orders
set_option linter.unusedVariables false
set_option linter.unusedSimpArgs false
namespace Fi
open Go

section trace
variable {E : Env} {rec : Nat → List FV → List AObj → CallR}

/-- The states of a run. -/
structure Trace (E : Env) (rec : Nat → List FV → List AObj → CallR) (ks : List FOp) (env : List FV) (f : Nat → St) (vs : List FV) : Prop where
  len : vs.length = ks.length
  step : ∀ i o, ks[i]? = some o → ∃ v, vs[i]? = some v ∧
    ((guardV (env ++ vs.take i) o.guard = some false ∧ v = .d (.t []) ∧ f (i + 1) = f i) ∨
     (guardV (env ++ vs.take i) o.guard = some true ∧ runK E rec o.q (f i) (env ++ vs.take i) o.k = some (v, f (i + 1))))

theorem runOps_trace : ∀ (ks : List FOp) {st st' : St} {env ev : List FV}, runOps E rec ks st env = some (st', ev) → ∃ f vs, ev = env ++ vs ∧ f 0 = st ∧ f ks.length = st' ∧ Trace E rec ks env f vs
  | [], st, st', env, ev, h => by
    simp only [runOps, Option.some.injEq, Prod.mk.injEq] at h
    exact ⟨fun _ => st, [], by simp [h.2], rfl, h.1, ⟨rfl, fun i o hi => by simp at hi⟩⟩
  | o :: ks, st, st', env, ev, h => by
    simp only [runOps] at h
    have key : ∀ (v : FV) (st1 : St), runOps E rec ks st1 (env ++ [v]) = some (st', ev) →
        ((guardV env o.guard = some false ∧ v = .d (.t []) ∧ st1 = st) ∨ (guardV env o.guard = some true ∧ runK E rec o.q st env o.k = some (v, st1))) →
        ∃ f vs, ev = env ++ vs ∧ f 0 = st ∧ f (o :: ks).length = st' ∧ Trace E rec (o :: ks) env f vs := by
      intro v st1 hr h1
      obtain ⟨f, vs, e1, e2, e3, t⟩ := runOps_trace ks hr
      refine ⟨fun i => match i with | 0 => st | i + 1 => f i, v :: vs, by simp [e1], rfl, by simpa using e3, ⟨by simp [t.len], fun i o' hi => ?_⟩⟩
      cases i with
      | zero =>
        simp at hi; subst hi
        refine ⟨v, rfl, ?_⟩
        simp only [List.take_zero, List.append_nil, e2]
        exact h1
      | succ i =>
        obtain ⟨v', h2, h3⟩ := t.step i o' (by simpa using hi)
        refine ⟨v', by simpa using h2, ?_⟩
        simpa using h3
    split at h
    · cases h
    · rename_i hg
      exact key _ _ h (.inl ⟨hg, rfl, rfl⟩)
    · rename_i hg
      split at h
      · cases h
      · rename_i hr
        exact key _ _ h (.inr ⟨hg, hr⟩)
end trace

/-- Operation i waits for operation j. -/
inductive Bef (ops : List Oper) : Nat → Nat → Prop
  | edge {i : Nat} {o : Oper} {e : Edge} (hi : ops[i]? = some o) (he : e ∈ o.after) (hb : Region.binds .any e = true) : Bef ops i e.on
  | step {i j : Nat} {o : Oper} {e : Edge} (hi : ops[i]? = some o) (he : e ∈ o.after) (hb : Region.binds .any e = true) (h : Bef ops e.on j) : Bef ops i j

theorem maskOf_spec {ms : List Nat} {o : Oper} {j : Nat} (h : (maskOf ms o).testBit j = true) : ∃ e ∈ o.after, Region.binds .any e = true ∧ (e.on = j ∨ (ms.getD e.on 0).testBit j = true) := by
  have key : ∀ (l : List Edge) (s : Nat), (l.foldl (fun s e => if Region.binds .any e then s ||| (2 ^ e.on ||| ms.getD e.on 0) else s) s).testBit j = true →
      s.testBit j = true ∨ ∃ e ∈ l, Region.binds .any e = true ∧ (e.on = j ∨ (ms.getD e.on 0).testBit j = true) := by
    intro l
    induction l with
    | nil => intro s h; exact .inl h
    | cons e l ih =>
      intro s h
      rw [List.foldl_cons] at h
      rcases ih _ h with h1 | ⟨e', h1, h2⟩
      · by_cases hb : Region.binds .any e = true
        · rw [if_pos hb, Nat.testBit_or, Nat.testBit_or, Bool.or_eq_true, Bool.or_eq_true] at h1
          rcases h1 with h1 | h1 | h1
          · exact .inl h1
          · rw [Nat.testBit_two_pow] at h1
            exact .inr ⟨e, by simp, hb, .inl (by simpa using h1)⟩
          · exact .inr ⟨e, by simp, hb, .inr h1⟩
        · rw [if_neg hb] at h1; exact .inl h1
      · exact .inr ⟨e', by simp [h1], h2⟩
  rcases key _ _ h with h | ⟨e, h1, h2⟩
  · simp at h
  · exact ⟨e, by simpa using h1, h2⟩

theorem masks_spec {ops : List Oper} : ∀ (l : List Oper) (ms : List Nat), (∀ j, l[j]? = ops[ms.length + j]?) → (∀ i j, (ms.getD i 0).testBit j = true → Bef ops i j) → ∀ i j, ((masks l ms).getD i 0).testBit j = true → Bef ops i j
  | [], ms, _, h => h
  | o :: l, ms, hat, h => by
    have h0 : ops[ms.length]? = some o := by simpa using (hat 0).symm
    refine masks_spec l (ms ++ [maskOf ms o]) (fun j => ?_) (fun i j hb => ?_)
    · have := hat (j + 1)
      simp only [List.length_append, List.length_singleton]
      rw [show ms.length + 1 + j = ms.length + (j + 1) by omega, ← this]
      simp
    · rw [List.getD_eq_getElem?_getD] at hb
      rcases Nat.lt_trichotomy i ms.length with hl | hl | hl
      · rw [List.getElem?_append_left hl, ← List.getD_eq_getElem?_getD] at hb
        exact h i j hb
      · subst hl
        rw [List.getElem?_append_right (Nat.le_refl _)] at hb
        simp only [Nat.sub_self, List.getElem?_cons_zero, Option.getD_some] at hb
        obtain ⟨e, he, hbd, h1⟩ := maskOf_spec hb
        rcases h1 with h1 | h1
        · subst h1; exact .edge h0 he hbd
        · exact .step h0 he hbd (h _ _ h1)
      · rw [List.getElem?_eq_none (by simp; omega)] at hb
        simp at hb

/-- One of the two waits for the other. -/
def Cmp (ops : List Oper) (i j : Nat) : Prop := (i < j → Bef ops j i) ∧ (j < i → Bef ops i j)

theorem comparable_spec {ops : List Oper} {i j : Nat} (h : comparable (masks ops []) i j = true) : Cmp ops i j := by
  have hm := masks_spec (ops := ops) ops [] (by simp) (fun i j h => by simp at h)
  unfold comparable at h
  split at h
  · exact ⟨fun _ => hm _ _ h, fun h' => by omega⟩
  · exact ⟨fun h' => by omega, fun _ => hm _ _ h⟩

/-- What 'orderOk' has looked at. -/
structure Ord (ops : List Oper) (ks : List FOp) (apart : List (Nat × Nat)) : Prop where
  edge : ∀ (i : Nat) (o : Oper) e, ops[i]? = some o → e ∈ o.after → Region.binds .any e = true → e.on < i
  dst : ∀ (i j : Nat) (o o' : Oper) t, ops[i]? = some o → ops[j]? = some o' → i ≠ j → o.dst = some t → o'.dst ≠ some t ∧ (t ∈ tmpsOf o' → Cmp ops i j)
  grd : ∀ (i : Nat) (o : Oper) g b, ops[i]? = some o → o.guard = some (g, b) → Bef ops i g
  mem : ∀ (i j : Nat) (x y : FOp), ks[i]? = some x → ks[j]? = some y → i ≠ j → x.k.loud x.q = true → y.k.mem = true → Cmp ops i j ∨ (y.q = true ∧ ∃ p, farOf x.k y.k = some p ∧ p ∈ apart)

theorem orderOk_spec {ops : List Oper} {ks : List FOp} {apart : List (Nat × Nat)} (h : orderOk ops (masks ops []) ks apart = true) : Ord ops ks apart := by
  simp only [orderOk, Bool.and_eq_true] at h
  obtain ⟨⟨⟨h1, h2⟩, h3⟩, h4⟩ := h
  have mem : ∀ {α : Type} (l : List α) (i : Nat) (x : α), l[i]? = some x → (x, i) ∈ l.zipIdx := fun l i x hx => by
    rw [List.mem_zipIdx_iff_getElem?]; exact hx
  refine ⟨?_, ?_, ?_, ?_⟩
  · intro i o e hi he hb
    have := List.all_eq_true.1 h1 _ (mem _ _ _ hi)
    have := List.all_eq_true.1 this e (by simpa using he)
    simpa [hb] using this
  · intro i j o o' t hi hj hne hd
    have := List.all_eq_true.1 h2 _ (mem _ _ _ hi)
    simp only [hd] at this
    have := List.all_eq_true.1 this _ (mem _ _ _ hj)
    simp only [Bool.or_eq_true, Bool.and_eq_true, beq_iff_eq] at this
    rcases this with h | ⟨h5, h6⟩
    · exact absurd h hne
    · refine ⟨by simpa using h5, fun ht => ?_⟩
      rcases h6 with h6 | h6
      · simp [ht] at h6
      · exact comparable_spec h6
  · intro i o g b hi hg
    have := List.all_eq_true.1 h3 _ (mem _ _ _ hi)
    simp only [hg] at this
    exact masks_spec (ops := ops) ops [] (by simp) (fun i j h => by simp at h) _ _ this
  · intro i j x y hi hj hne hl hm
    have := List.all_eq_true.1 h4 _ (mem _ _ _ hi)
    simp only [hl, Bool.not_true, Bool.false_or] at this
    have := List.all_eq_true.1 this _ (mem _ _ _ hj)
    simp only [hm, Bool.not_true, Bool.or_eq_true, beq_iff_eq, Bool.false_eq_true, or_false] at this
    rcases this with (h | h) | h
    · exact absurd h hne
    · exact .inl (comparable_spec h)
    · right
      rw [Bool.and_eq_true] at h
      refine ⟨h.1, ?_⟩
      have h := h.2
      split at h
      · exact ⟨_, by assumption, by simpa using h⟩
      · cases h

/-- Every order keeps the invariant: so it holds in the end. -/
theorem wpAny_inv {P : Program} {ops : Array Oper} {Q : Exit → Act → World → Prop} (Inv : Array Bool → Act → World → Prop)
    (hedge : ∀ (i : Nat) (o : Oper) e, ops[i]? = some o → e ∈ o.after → Region.binds .any e = true → e.on < i)
    (hstep : ∀ listed a w i, listed.size = ops.size → (∀ (j : Nat) (o : Oper) e, ops[j]? = some o → listed.getD j false = true → e ∈ o.after → Region.binds .any e = true → listed.getD e.on false = true) → Inv listed a w →
      i ∈ Region.ready .any ops listed → ∀ K : Act → World → Prop, (∀ a' w', Inv (listed.setIfInBounds i true) a' w' → K a' w') → wpOp P ops Q i K a w)
    (hdone : ∀ listed a w, Inv listed a w → (∀ i, i < ops.size → listed.getD i false = true) → Q .normal a w) :
    ∀ (fuel : Nat) (listed : Array Bool) (a : Act) (w : World), listed.size = ops.size →
      (∀ (j : Nat) (o : Oper) e, ops[j]? = some o → listed.getD j false = true → e ∈ o.after → Region.binds .any e = true → listed.getD e.on false = true) →
      listed.toList.count false ≤ fuel → Inv listed a w → wpAny P .any ops Q fuel listed a w := by
  have all_of : ∀ listed : Array Bool, listed.size = ops.size → Region.ready .any ops listed = [] → ∀ i, i < ops.size → listed.getD i false = true := by
    intro listed hs hr i
    induction i using Nat.strongRecOn with
    | ind i ih =>
      intro hi
      cases hc : listed.getD i false with
      | true => rfl
      | false =>
        have hm : i ∈ Region.ready .any ops listed := by
          rw [mem_ready]
          refine ⟨?_, _, Array.getElem?_eq_getElem hi, fun e he hb => ?_⟩
          · simp only [Array.getD_eq_getD_getElem?] at hc ⊢
            rw [Array.getElem?_eq_getElem (by omega)] at hc ⊢
            simpa using hc
          · have := hedge i _ e (Array.getElem?_eq_getElem hi) he hb
            exact ih _ this (by omega)
        rw [hr] at hm; cases hm
  intro fuel
  induction fuel with
  | zero =>
    intro listed a w hs hcl hct hI
    have hr : Region.ready .any ops listed = [] := by
      rw [List.eq_nil_iff_forall_not_mem]
      intro i hi
      have h1 := (mem_ready.1 hi).1
      have : false ∈ listed.toList := by
        rcases Nat.lt_or_ge i listed.size with hl | hl
        · simp [hl] at h1
          have h2 : listed.toList[i]? = some false := by rw [Array.getElem?_toList, Array.getElem?_eq_getElem hl, h1]
          exact List.mem_of_getElem? h2
        · simp [Array.getElem?_eq_none hl] at h1
      have := List.count_pos_iff.2 this
      omega
    exact ⟨hr, hdone listed a w hI (all_of listed hs hr)⟩
  | succ fuel ih =>
    intro listed a w hs hcl hct hI
    refine ⟨fun hr => hdone listed a w hI (all_of listed hs hr), fun i hi => ?_⟩
    refine hstep listed a w i hs hcl hI hi _ (fun a' w' hI' => ih _ a' w' (by simp [hs]) ?_ ?_ hI')
    · intro j o e hj hl he hb
      obtain ⟨_, oi, hoi, hall⟩ := mem_ready.1 hi
      by_cases hij : i = j
      · subst hij
        rw [hoi] at hj; cases hj
        exact getD_set_true (hall e he hb)
      · rw [getD_set_ne _ hij] at hl
        exact getD_set_true (hcl j o e hj hl he hb)
    · have h1 := (mem_ready.1 hi).1
      have hil : i < listed.size := by
        rcases Nat.lt_or_ge i listed.size with hl | hl
        · exact hl
        · simp [Array.getElem?_eq_none hl] at h1
      have h2 : listed[i] = false := by simpa [hil] using h1
      rw [Array.toList_setIfInBounds, List.count_set (by simpa using hil)]
      simp only [Array.getElem_toList, h2]
      have : 0 < listed.toList.count false := by
        rw [List.count_pos_iff]
        have h3 : listed.toList[i]? = some false := by rw [Array.getElem?_toList, Array.getElem?_eq_getElem hil, h2]
        exact List.mem_of_getElem? h3
      have h5 : (true == false) = false := rfl
      simp only [beq_self_eq_true, if_true, h5, Bool.false_eq_true, if_false]
      omega
end Fi
