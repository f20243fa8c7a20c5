/-
  Drawn regions: what holds when some of the operations have been done.
-/
import Derived.Test.YtonmcbnjifeagaaGreatDoorFiOrd3
set_option linter.unusedVariables false
set_option linter.unusedSimpArgs false
namespace Fi
open Go

/-- A region and its run in the order of the text. -/
structure Reg (P : Program) (E : Env) (cx : Cx) (σ : Nat → Option FuncId) (rec : Nat → List FV → List AObj → CallR) (l : List Oper) (ks : List FOp) (ap : List (Nat × Nat)) (f : Nat → St) (ev : List FV) (n : Nat) (vars : List FV) (wd : Nat → Prop) : Prop where
  gid : ∀ f g, cx.gid f = some g → σ g = some f
  bod : Bodies P E σ
  rl : RecLen rec
  rc : RecOK P E σ rec
  comp : ∀ (i : Nat) (o : Oper), l[i]? = some o → ∃ x, ks[i]? = some x ∧ compOp P cx ((l.take i).map (·.dst)) o = some x.k ∧ x.guard = o.guard ∧ guardOk ((l.take i).map (·.dst)) o.guard = true ∧ dstOk cx o.dst = true
  klen : ks.length = l.length
  tr : Trace E rec ks [] f ev
  base : ∀ i, i ≤ l.length → (f i).base.length = n
  vrs : ∀ i, i ≤ l.length → (f i).vars = vars
  ord : Ord l ks ap
  apart : apartOk (f 0) ap = true
  mw : ∀ i, i ≤ l.length → MayW n (f i) wd
  vbnd : ∀ (j : Nat) (t : Tmp) (y : FV), cx.vars[j]? = some t → vars[j]? = some y → Bnd n (f 0).H.length y

/-- The heap between the states. -/
def Gr (l : List Oper) (f : Nat → St) (r : Nat) : List AObj := full (fun i => (f i).H) l.length r

structure Inv (cx : Cx) (σ : Nat → Option FuncId) (l : List Oper) (ks : List FOp) (f : Nat → St) (ev : List FV) (n : Nat) (vars : List FV) (Wr wd : Nat → Prop) (β0 : Map) (I0 : Nat → Prop) (w0 : World) (ds : List Deferred)
    (r : Nat) (β : Map) (I : Nat → Prop) (listed : Array Bool) (a : Act) (w : World) : Prop where
  rle : r ≤ l.length
  rl : r = 0 ∨ ∃ x, ks[r - 1]? = some x ∧ x.k.loud x.q = true
  wrote : ∀ (j : Nat) (x : FOp), ks[j]? = some x → x.k.loud x.q = true → (listed.getD j false = true ↔ j < r)
  sim : SimH σ n β I Wr wd (Gr l f r) w
  ext : Ext β0 β I0 I Wr w0 w
  gap : ∀ j, j < l.length → listed.getD j false = false → ∀ k v, (f j).H.length ≤ k → k < (f (j + 1)).H.length → β k v = none
  cb : ∀ i, r ≤ i → i ≤ l.length → ∀ (k : Nat) (cs : List FV) (x : Nat × Nat × Nat), k < (f i).H.length → (Gr l f r)[k]? = some (.box cs) → β k 0 = some x → ∀ c ∈ cs, Bnd n (f i).H.length c
  vb : ∀ (j : Nat) (y : FV), listed.getD j false = true → ev[j]? = some y → Bnd n (f (j + 1)).H.length y
  size : a.tmps.size = cx.ntmps
  loc : ∀ (j : Nat) (o : Oper) (t : Tmp) (y : FV), l[j]? = some o → o.dst = some t → listed.getD j false = true → ev[j]? = some y → RepF σ β I w n y (a.eval (.tmp t))
  var : ∀ (j : Nat) (t : Tmp) (y : FV), cx.vars[j]? = some t → (∀ (i : Nat) (o : Oper), l[i]? = some o → o.dst = some t → listed.getD i false = false) → vars[j]? = some y → RepF σ β I w n y (a.eval (.tmp t))
  dfr : a.defers = ds

section next
variable {P : Program} {E : Env} {cx : Cx} {σ : Nat → Option FuncId} {rec : Nat → List FV → List AObj → CallR} {l : List Oper} {ks : List FOp} {ap : List (Nat × Nat)} {f : Nat → St} {ev : List FV} {n : Nat} {vars : List FV} {Wr wd : Nat → Prop}
variable {β0 β β' : Map} {I0 I I' : Nat → Prop} {w0 w w' : World} {ds : List Deferred} {r r' : Nat} {listed : Array Bool} {a : Act} {i : Nat} {o : Oper} {v : FV} {x : Value}

theorem set_self {m : Nat} (hs : listed.size = m) (hi : i < m) : (listed.setIfInBounds i true).getD i false = true := by
  simp [Array.getD_eq_getD_getElem?, hs, hi]

theorem Inv.next (h : Inv cx σ l ks f ev n vars Wr wd β0 I0 w0 ds r β I listed a w) (hO : Ord l ks ap) (ho : l[i]? = some o) (hs : listed.size = l.length) (hd : dstOk cx o.dst = true) (hv : ev[i]? = some v)
    (hr : r' ≤ l.length) (hrl : r' = 0 ∨ ∃ x, ks[r' - 1]? = some x ∧ x.k.loud x.q = true)
    (hwr : ∀ (j : Nat) (x : FOp), ks[j]? = some x → x.k.loud x.q = true → ((listed.setIfInBounds i true).getD j false = true ↔ j < r')) (hx : Ext β β' I I' Wr w w') (hS : SimH σ n β' I' Wr wd (Gr l f r') w')
    (hgap : ∀ j, j < l.length → j ≠ i → listed.getD j false = false → ∀ k v, (f j).H.length ≤ k → k < (f (j + 1)).H.length → β' k v = none)
    (hcb : ∀ i, r' ≤ i → i ≤ l.length → ∀ (k : Nat) (cs : List FV) (x : Nat × Nat × Nat), k < (f i).H.length → (Gr l f r')[k]? = some (.box cs) → β' k 0 = some x → ∀ c ∈ cs, Bnd n (f i).H.length c)
    (hb : Bnd n (f (i + 1)).H.length v) (hR : RepF σ β' I' w' n v x) :
    Inv cx σ l ks f ev n vars Wr wd β0 I0 w0 ds r' β' I' (listed.setIfInBounds i true) (a.put o.dst x) w' := by
  have hil : i < l.length := (List.getElem?_eq_some_iff.1 ho).1
  have hself := set_self (listed := listed) (i := i) hs hil
  have hne : ∀ j, j ≠ i → (listed.setIfInBounds i true).getD j false = listed.getD j false := fun j hj => getD_set_ne false (Ne.symm hj)
  have hdp : ∀ u, o.dst = some u → u < a.tmps.size := by
    intro u hu
    rw [h.size]
    rw [hu] at hd
    simpa [dstOk] using hd
  refine ⟨hr, hrl, hwr, hS, h.ext.trans hx, ?_, hcb, ?_, by rw [put_size]; exact h.size, ?_, ?_, by rw [put_defers]; exact h.dfr⟩
  · intro j hj hun
    by_cases hji : j = i
    · subst hji; rw [hself] at hun; cases hun
    · rw [hne j hji] at hun
      exact hgap j hj hji hun
  · intro j y hl hy
    by_cases hji : j = i
    · subst hji; rw [hv] at hy; cases hy; exact hb
    · rw [hne j hji] at hl
      exact h.vb j y hl hy
  · intro j o' t y ho' ht hl hy
    rw [eval_put _ _ _ _ hdp]
    by_cases hji : j = i
    · subst hji
      rw [ho] at ho'; cases ho'
      rw [if_pos ht]
      rw [hv] at hy; cases hy; exact hR
    · have : o.dst ≠ some t := fun e => (hO.dst i j o o' t ho ho' (Ne.symm hji) e).1 ht
      rw [if_neg this]
      rw [hne j hji] at hl
      exact hx.repF (h.loc j o' t y ho' ht hl hy)
  · intro j t y hj hno hy
    have h1 : o.dst ≠ some t := fun e => by
      have := hno i o ho e
      rw [hself] at this; cases this
    rw [eval_put _ _ _ _ hdp, if_neg h1]
    refine hx.repF (h.var j t y hj (fun i' o' ho' ht => ?_) hy)
    have := hno i' o' ho' ht
    by_cases hji : i' = i
    · subst hji; rw [hself] at this; cases this
    · rw [hne i' hji] at this; exact this

/-- An operation that is not loud, and has made no object. -/
theorem Inv.same (h : Inv cx σ l ks f ev n vars Wr wd β0 I0 w0 ds r β I listed a w) (hO : Ord l ks ap) (ho : l[i]? = some o) (hs : listed.size = l.length) (hd : dstOk cx o.dst = true) (hv : ev[i]? = some v)
    (hq : ∀ x, ks[i]? = some x → x.k.loud x.q = false) {β1 β2 : Map} (hx : Ext β1 β2 I I' (fun b => w.heap.size ≤ b) w w') (hi : ∀ b, I' b → b < w'.heap.size)
    (hb : Bnd n (f (i + 1)).H.length v) (hR : RepF σ β I' w' n v x) :
    Inv cx σ l ks f ev n vars Wr wd β0 I0 w0 ds r β I' (listed.setIfInBounds i true) (a.put o.dst x) w' := by
  refine h.next hO ho hs hd hv h.rle h.rl (fun j y hj hl => ?_) (hx.after h.sim.wnew β) (h.sim.after hx hi) (fun j hj _ hun => h.gap j hj hun) h.cb hb hR
  have : j ≠ i := fun e => by subst e; rw [hq y hj] at hl; cases hl
  rw [getD_set_ne false (Ne.symm this)]
  exact h.wrote j y hj hl
end next

section reg
variable {P : Program} {E : Env} {cx : Cx} {σ : Nat → Option FuncId} {rec : Nat → List FV → List AObj → CallR} {l : List Oper} {ks : List FOp} {ap : List (Nat × Nat)} {f : Nat → St} {ev : List FV} {n : Nat} {vars : List FV} {wd : Nat → Prop}

theorem loud_mem {q : Bool} {k : K} (h : k.loud q = true) : k.mem = true := by cases k <;> simp_all [K.loud, K.mem]

theorem farOf_inv {k k' : K} {p : Nat × Nat} (h : farOf k k' = some p) : ∃ m b x g m' a, k = .store m (.var b) x ∧ k' = .load g m' (.var a) ∧ p = (a, b) := by
  unfold farOf at h
  split at h
  · cases h; exact ⟨_, _, _, _, _, _, rfl, rfl, rfl⟩
  · cases h

theorem Cmp.symm {i j : Nat} (h : Cmp l i j) : Cmp l j i := ⟨h.2, h.1⟩

variable (R : Reg P E cx σ rec l ks ap f ev n vars wd)
include R

theorem Reg.mono (i : Nat) (hi : i < l.length) : (f i).H.length ≤ (f (i + 1)).H.length := by
  have hk : i < ks.length := by rw [R.klen]; exact hi
  obtain ⟨v, _, h⟩ := R.tr.step i _ (List.getElem?_eq_getElem hk)
  rcases h with ⟨_, _, h⟩ | ⟨_, h⟩
  · rw [h]; exact Nat.le_refl _
  · exact runK_len R.rl h

theorem Reg.le {i j : Nat} (hij : i ≤ j) (hj : j ≤ l.length) : (f i).H.length ≤ (f j).H.length := mono_len (H := fun i => (f i).H) R.mono hij hj

/-- What has made an object looks at memory, and is no load. -/
theorem Reg.makes {j : Nat} {y : FOp} (hy : ks[j]? = some y) (h : (f j).H.length < (f (j + 1)).H.length) : y.k.mem = true ∧ ∀ g m x, y.k ≠ .load g m x := by
  obtain ⟨v, _, h1⟩ := R.tr.step j y hy
  rcases h1 with ⟨_, _, h1⟩ | ⟨_, h1⟩
  · rw [h1] at h; omega
  · constructor
    · cases hm : y.k.mem with
      | true => rfl
      | false => rw [(runK_pure hm h1).1] at h; omega
    · intro g m x e
      rw [e] at h1
      rw [(runK_load h1).1] at h; omega

theorem Reg.quiet {j : Nat} {y : FOp} (hy : ks[j]? = some y) (hq : y.k.loud y.q = false) : ∃ new, (f (j + 1)).H = (f j).H ++ new := by
  obtain ⟨v, _, h1⟩ := R.tr.step j y hy
  rcases h1 with ⟨_, _, h1⟩ | ⟨_, h1⟩
  · exact ⟨[], by rw [h1]; simp⟩
  · obtain ⟨h2, new, h3⟩ := runK_quiet hq h1
    exact ⟨new, by simp [St.H, h2, h3]⟩

theorem Reg.full_len {r : Nat} (hr : r ≤ l.length) : (Gr l f r).length = (f l.length).H.length :=
  Fi.full_len (H := fun i => (f i).H) R.mono (l.length - r) r (by omega)

theorem Reg.n_le {i : Nat} (hi : i ≤ l.length) : n ≤ (f i).H.length := by
  have := R.base i hi
  simp only [St.H, List.length_append]
  omega

/-- An operation has been compared with all the loud ones: the heap of the region is its own, and what is still to come. -/
theorem Reg.own {Wr : Nat → Prop} {β0 β : Map} {I0 I : Nat → Prop} {w0 w : World} {ds : List Deferred} {r : Nat} {listed : Array Bool} {a : Act} {i : Nat} (hi : i < l.length) (h : Inv cx σ l ks f ev n vars Wr wd β0 I0 w0 ds r β I listed a w) (hun : listed.getD i false = false)
    (hset : ∀ (j : Nat) (y : FOp), ks[j]? = some y → y.k.loud y.q = true → j ≠ i → (j < i → listed.getD j false = true) ∧ (i < j → listed.getD j false = false)) : r ≤ i ∧ Gr l f i = Gr l f r := by
  have hri : r ≤ i := by
    rcases h.rl with h0 | ⟨x, h1, h2⟩
    · omega
    · rcases Nat.lt_or_ge i r with hlt | hge
      · have hl := (h.wrote _ x h1 h2).2 (by omega)
        by_cases he : r - 1 = i
        · rw [he, hun] at hl; cases hl
        · rw [(hset _ x h1 h2 he).2 (by omega)] at hl; cases hl
      · exact hge
  refine ⟨hri, full_same (H := fun i => (f i).H) hri (fun j h1 h2 => ?_)⟩
  have hk : j < ks.length := by rw [R.klen]; omega
  cases hq : ks[j].k.loud ks[j].q with
  | false =>
    obtain ⟨new, hn⟩ := R.quiet (List.getElem?_eq_getElem hk) hq
    exact full_quiet (H := fun i => (f i).H) (by omega) hn
  | true =>
    have hl := (hset j _ (List.getElem?_eq_getElem hk) hq (by omega)).1 h2
    have := (h.wrote j _ (List.getElem?_eq_getElem hk) hq).1 hl
    omega
end reg
end Fi
