/-
  Temporaries: what the variables and the operations so far have yielded; operands; guards.
-/
import Derived.Test.YtonmcbnjifeagaaGreatDoorFiCall5
set_option linter.unusedVariables false
set_option linter.unusedSimpArgs false
namespace Fi
open Go

theorem lastDst_nil (t : Tmp) : lastDst [] t = none := by simp [lastDst]

theorem lastDst_append (dsts : List (Option Tmp)) (d : Option Tmp) (t : Tmp) : lastDst (dsts ++ [d]) t = if d = some t then some dsts.length else lastDst dsts t := by
  unfold lastDst
  rw [List.reverse_append, List.reverse_singleton, List.singleton_append]
  by_cases h : d = some t
  · subst h
    simp [List.idxOf?, List.findIdx?_cons]
  · have hb : (d == some t) = false := by simpa using h
    simp only [List.idxOf?, List.findIdx?_cons, hb, h, if_false]
    cases hc : List.findIdx? (fun x => x == some t) dsts.reverse with
    | none => simp
    | some i =>
      simp only [Option.map_some, Bool.false_eq_true, if_false, List.length_append, List.length_singleton]
      congr 1
      omega

theorem lastDst_lt {dsts : List (Option Tmp)} {t : Tmp} {j : Nat} (h : lastDst dsts t = some j) : dsts[j]? = some (some t) := by
  unfold lastDst at h
  split at h <;> simp at h
  rename_i i hi
  subst h
  rw [List.idxOf?, List.findIdx?_eq_some_iff_getElem] at hi
  obtain ⟨hl, h1, _⟩ := hi
  rw [List.length_reverse] at hl
  rw [List.getElem_reverse] at h1
  rw [List.getElem?_eq_getElem (by omega)]
  simpa using h1

theorem eval_put (a : Act) (d : Option Tmp) (x : Value) (t : Tmp) (hd : ∀ u, d = some u → u < a.tmps.size) : (a.put d x).eval (.tmp t) = if d = some t then x else a.eval (.tmp t) := by
  cases d with
  | none => simp [Act.put]
  | some u =>
    have hu := hd u rfl
    simp only [Act.put, Act.eval, Option.some.injEq]
    by_cases h : u = t
    · subst h; simp [hu]
    · rw [if_neg h, Array.getD_eq_getD_getElem?, Array.getD_eq_getD_getElem?, Array.getElem?_setIfInBounds_ne h]

theorem put_size (a : Act) (d : Option Tmp) (x : Value) : (a.put d x).tmps.size = a.tmps.size := by cases d <;> simp [Act.put]
theorem put_defers (a : Act) (d : Option Tmp) (x : Value) : (a.put d x).defers = a.defers := by cases d <;> rfl

section tmps
variable {P : Program} {E : Env} {cx : Cx} {σ : Nat → Option FuncId} {β β' : Map} {I I' Wr : Nat → Prop} {wd : Nat → Prop} {w w' : World} {n : Nat} {vars : List FV} {env : List FV} {dsts : List (Option Tmp)} {a : Act}

/-- The temporaries hold what the interpreter says. -/
structure TmpsOK (σ : Nat → Option FuncId) (β : Map) (I : Nat → Prop) (w : World) (n : Nat) (cx : Cx) (vars : List FV) (dsts : List (Option Tmp)) (env : List FV) (a : Act) : Prop where
  size : a.tmps.size = cx.ntmps
  var : ∀ (j : Nat) (t : Tmp) (y : FV), cx.vars[j]? = some t → lastDst dsts t = none → vars[j]? = some y → RepF σ β I w n y (a.eval (.tmp t))
  loc : ∀ (t : Tmp) (j : Nat) (y : FV), lastDst dsts t = some j → env[j]? = some y → RepF σ β I w n y (a.eval (.tmp t))

theorem TmpsOK.mono (h : TmpsOK σ β I w n cx vars dsts env a) (hm : ∀ k v x, β k v = some x → β' k v = some x) (hi : ∀ b, I b → I' b) (hk : ∀ b, I b → w'.heap[b]? = w.heap[b]?) : TmpsOK σ β' I' w' n cx vars dsts env a :=
  ⟨h.size, fun j t y h1 h2 h3 => (h.var j t y h1 h2 h3).mono hm hi hk, fun t j y h1 h2 => (h.loc t j y h1 h2).mono hm hi hk⟩

theorem TmpsOK.ext (h : TmpsOK σ β I w n cx vars dsts env a) (hx : Ext β β' I I' Wr w w') : TmpsOK σ β' I' w' n cx vars dsts env a := h.mono hx.bm hx.im hx.keepI

theorem TmpsOK.put (h : TmpsOK σ β I w n cx vars dsts env a) (hl : env.length = dsts.length) {d : Option Tmp} (hd : dstOk cx d = true) {v : FV} {x : Value} (hr : RepF σ β I w n v x) :
    TmpsOK σ β I w n cx vars (dsts ++ [d]) (env ++ [v]) (a.put d x) := by
  have hd' : ∀ u, d = some u → u < a.tmps.size := by
    intro u hu; subst hu
    rw [h.size]; simpa [dstOk] using hd
  refine ⟨by rw [put_size]; exact h.size, ?_, ?_⟩
  · intro j t y h1 h2 h3
    rw [lastDst_append] at h2
    split at h2
    · cases h2
    · rename_i hne
      rw [eval_put _ _ _ _ hd', if_neg hne]
      exact h.var j t y h1 h2 h3
  · intro t j y h1 h2
    rw [lastDst_append] at h1
    rw [eval_put _ _ _ _ hd']
    split at h1
    · rename_i he
      cases h1
      rw [if_pos he]
      rw [← hl] at h2
      simp at h2
      subst h2
      exact hr
    · rename_i hne
      rw [if_neg hne]
      have hj := (List.getElem?_eq_some_iff.1 (lastDst_lt h1)).1
      rw [List.getElem?_append_left (by omega)] at h2
      exact h.loc t j y h1 h2

theorem idxOf?_some {l : List Tmp} {t : Tmp} {j : Nat} (h : l.idxOf? t = some j) : l[j]? = some t := by
  rw [List.idxOf?, List.findIdx?_eq_some_iff_getElem] at h
  obtain ⟨hl, h1, _⟩ := h
  rw [List.getElem?_eq_getElem hl]
  simpa using h1

theorem repD_constT (hgid : ∀ f g, cx.gid f = some g → σ g = some f) {hs : List Nat} {x : Value} {y : D} (h : constT cx hs x = some y) : RepD σ I w y x := by
  unfold constT at h
  split at h
  · rename_i cs
    split at h <;> simp at h
    subst h
    rename_i ds hds
    obtain ⟨g1, g2, _⟩ := repD_constDs (σ := σ) (I := I) (w := w) hgid hds
    exact .a (by simpa using g1.symm) (fun i c x hc hx => g2 i c x hc (by simpa using hx))
  · exact repD_constD hgid h

theorem TmpsOK.args (h : TmpsOK σ β I w n cx vars dsts env a) (hgid : ∀ f g, cx.gid f = some g → σ g = some f) (hG : Globs E σ I w) {st : St} (hn : st.base.length = n) (hv : st.vars = vars) (xs : List Operand) :
    ArgsOK P E cx σ β I w st env dsts a.eval xs := by
  intro ty x y f hm hc hf
  clear hm
  subst hn; subst hv
  unfold compArg at hc
  split at hc
  · rename_i t
    split at hc
    · rename_i j hj
      cases hc
      exact h.loc t j f hj hf
    · rename_i hno
      split at hc <;> simp at hc
      subst hc
      rename_i j hj
      exact h.var j t f (idxOf?_some hj) hno hf
  · split at hc <;> simp at hc
    subst hc
    rename_i hx
    simp only [argV, Option.some.injEq] at hf
    subst hf
    exact .d (repD_constT hgid hx)
  · split at hc <;> simp at hc
    subst hc
    rename_i hx
    simp only [argV, Option.some.injEq] at hf
    subst hf
    exact .d (.fn (hgid _ _ hx))
  · cases hc
    simp only [argV] at hf
    split at hf <;> simp at hf
    subst hf
    rename_i z hz
    obtain ⟨h1, h2, h3, _⟩ := hG _ _ hz
    exact .rc h1 h2 h3

/-- Is the operation carried out? Both say the same. -/
theorem TmpsOK.guard (h : TmpsOK σ β I w n cx vars dsts env a) {ops : Array Oper} {o : Oper} (hpre : ∀ (j : Nat) (d : Option Tmp), dsts[j]? = some d → (ops[j]?).bind (·.dst) = d) (hg : guardOk dsts o.guard = true) {b : Bool} (hb : guardV env o.guard = some b) :
    Region.wanted o (yielded ops a.tmps) = b := by
  unfold Region.wanted
  unfold guardV at hb
  cases hgd : o.guard with
  | none => rw [hgd] at hb; simpa using hb
  | some p =>
    obtain ⟨j, want⟩ := p
    rw [hgd] at hb hg
    simp only [guardOk] at hg
    split at hg
    · rename_i t ht
      have hl : lastDst dsts t = some j := by simpa using hg
      have hd := hpre j _ ht
      simp only at hb ⊢
      have hy : yielded ops a.tmps j = match a.tmps[t]? with | some (.bool b) => some b | _ => none := by
        unfold yielded
        rw [hd]; rfl
      rw [hy]
      cases hev : env[j]? with
      | none => rw [hev] at hb; cases hb
      | some y =>
        have hr := h.loc t j y hl hev
        rw [hev] at hb
        split at hb
        · rename_i c he
          cases he
          cases hb
          cases hr with
          | d hr =>
            generalize hz : a.eval (.tmp t) = z at hr
            cases hr
            have : a.tmps[t]? = some (.bool c) := by
              simp only [Act.eval, Array.getD_eq_getD_getElem?] at hz
              cases hq : a.tmps[t]? with
              | none => rw [hq] at hz; simp [undef] at hz
              | some q => rw [hq] at hz; simp at hz; rw [hz]
            rw [this]
            cases c <;> cases want <;> rfl
        · rename_i he
          cases he
          cases hb
          cases hr with
          | d hr =>
            generalize hz : a.eval (.tmp t) = z at hr
            cases hr with
            | @t _ vs hl' h2 =>
              have hvs : vs = #[] := by simpa using hl'
              subst hvs
              simp only [Act.eval, Array.getD_eq_getD_getElem?] at hz
              cases hq : a.tmps[t]? with
              | none => simp
              | some q => rw [hq] at hz; simp at hz; rw [hz]; simp
        · cases hb
    · cases hg
end tmps
end Fi
