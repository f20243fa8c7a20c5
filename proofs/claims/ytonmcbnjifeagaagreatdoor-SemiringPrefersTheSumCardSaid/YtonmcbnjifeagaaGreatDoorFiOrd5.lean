/-
  Drawn regions: any operation that is ready keeps the invariant.
-/
import Derived.Test.YtonmcbnjifeagaaGreatDoorFiOrd4
set_option linter.unusedVariables false
set_option linter.unusedSimpArgs false
namespace Fi
open Go

theorem lastDst_none {dsts : List (Option Tmp)} {t : Tmp} (h : lastDst dsts t = none) : some t ∉ dsts := by
  unfold lastDst at h
  split at h
  · cases h
  · rename_i hi
    rw [List.idxOf?, List.findIdx?_eq_none_iff] at hi
    intro hm
    have := hi (some t) (by simpa using hm)
    simp at this

theorem guard_wanted {σ : Nat → Option FuncId} {β : Map} {I : Nat → Prop} {w : World} {n : Nat} {env : List FV} {dsts : List (Option Tmp)} {a : Act} {ops : Array Oper} {o : Oper}
    (hloc : ∀ g b t y, o.guard = some (g, b) → dsts[g]? = some (some t) → env[g]? = some y → RepF σ β I w n y (a.eval (.tmp t)))
    (hpre : ∀ (j : Nat) (d : Option Tmp), dsts[j]? = some d → (ops[j]?).bind (·.dst) = d) (hg : guardOk dsts o.guard = true) {b : Bool} (hb : guardV env o.guard = some b) :
    Region.wanted o (yielded ops a.tmps) = b := by
  unfold Region.wanted
  unfold guardV at hb
  cases hgd : o.guard with
  | none => rw [hgd] at hb; simpa using hb
  | some p =>
    obtain ⟨j, want⟩ := p
    rw [hgd] at hb hg
    simp only [guardOk] at hg
    split at hg
    · rename_i t ht
      have hd := hpre j _ ht
      simp only at hb ⊢
      have hy : yielded ops a.tmps j = match a.tmps[t]? with | some (.bool b) => some b | _ => none := by
        unfold yielded
        rw [hd]; rfl
      rw [hy]
      cases hev : env[j]? with
      | none => rw [hev] at hb; cases hb
      | some y =>
        have hr := hloc j want t y hgd ht hev
        rw [hev] at hb
        split at hb
        · rename_i c he
          cases he
          cases hb
          cases hr with
          | d hr =>
            generalize hz : a.eval (.tmp t) = z at hr
            cases hr
            have : a.tmps[t]? = some (.bool c) := by
              simp only [Act.eval, Array.getD_eq_getD_getElem?] at hz
              cases hq : a.tmps[t]? with
              | none => rw [hq] at hz; simp [undef] at hz
              | some q => rw [hq] at hz; simp at hz; rw [hz]
            rw [this]
            cases c <;> cases want <;> rfl
        · rename_i he
          cases he
          cases hb
          cases hr with
          | d hr =>
            generalize hz : a.eval (.tmp t) = z at hr
            cases hr with
            | @t _ vs hl' h2 =>
              have hvs : vs = #[] := by simpa using hl'
              subst hvs
              simp only [Act.eval, Array.getD_eq_getD_getElem?] at hz
              cases hq : a.tmps[t]? with
              | none => simp
              | some q => rw [hq] at hz; simp at hz; rw [hz]; simp
        · cases hb
    · cases hg

theorem apart_spec {st : St} : ∀ {ap : List (Nat × Nat)}, apartOk st ap = true → ∀ {i j : Nat}, (i, j) ∈ ap → ∃ p o p' o', st.vars[i]? = some (.r p o) ∧ st.vars[j]? = some (.r p' o') ∧ p.abs st.base.length ≠ p'.abs st.base.length
  | [], _, i, j, h => by simp at h
  | (i', j') :: ap, h, i, j, hm => by
    simp only [apartOk, Bool.and_eq_true] at h
    rcases List.mem_cons.1 hm with he | hm
    · cases he
      have h1 := h.1
      split at h1
      · rename_i p o p' o' e1 e2
        exact ⟨p, o, p', o', e1, e2, by simpa using h1⟩
      · cases h1
    · exact apart_spec h.2 hm

theorem load_data {E : Env} {rec : Nat → List FV → List AObj → CallR} {st st' : St} {env : List FV} {agg : Bool} {m : Nat} {x : Arg} {v : FV} {p : Ref} {off : Nat} (hx : argV E st env x = some (.r p off)) (h : runK E rec true st env (.load agg m x) = some (v, st')) :
    ∃ y, v = .d y := by
  simp only [runK, hx] at h
  split at h
  · split at h
    · split at h
      · cases h
      · rename_i v' hv hp
        cases h
        cases v <;> simp [isPure] at hp
        exact ⟨_, rfl⟩
    · cases h
  · cases h

section step
variable {P : Program} {E : Env} {cx : Cx} {σ : Nat → Option FuncId} {rec : Nat → List FV → List AObj → CallR} {l : List Oper} {ks : List FOp} {ap : List (Nat × Nat)} {f : Nat → St} {ev : List FV} {n : Nat} {vars : List FV} {Wr wd : Nat → Prop}
variable {β0 β : Map} {I0 I : Nat → Prop} {w0 w : World} {ds : List Deferred} {r : Nat} {listed : Array Bool} {a : Act} {i : Nat} {o : Oper} {ops : Array Oper} {Q : Exit → Act → World → Prop}

/-- What an operation reads is there, and is what the text says. -/
theorem Reg.operand (R : Reg P E cx σ rec l ks ap f ev n vars wd) (h : Inv cx σ l ks f ev n vars Wr wd β0 I0 w0 ds r β I listed a w) (hG : Globs E σ I w) (ho : l[i]? = some o) (hun : listed.getD i false = false)
    (hset : ∀ j, Cmp l i j → (j < i → listed.getD j false = true) ∧ (i < j → listed.getD j false = false)) {ty : TypeId} {x : Operand} {y : Arg} {v : FV} (hx : x ∈ o.op.operands.toList)
    (hc : compArg P cx ((l.take i).map (·.dst)) ty x = some y) (hv : argV E (f i) (ev.take i) y = some v) : RepF σ β I w n v (a.eval x) ∧ Bnd n (f i).H.length v := by
  have hil : i < l.length := (List.getElem?_eq_some_iff.1 ho).1
  unfold compArg at hc
  cases x with
  | tmp t =>
    have htm : t ∈ tmpsOf o := by
      unfold tmpsOf
      rw [List.mem_filterMap]
      exact ⟨.tmp t, hx, rfl⟩
    simp only at hc
    split at hc
    · rename_i j hj
      cases hc
      have h1 := lastDst_lt hj
      simp only [List.getElem?_map, Option.map_eq_some_iff, List.getElem?_take] at h1
      obtain ⟨oj, h2, h3⟩ := h1
      split at h2
      · rename_i hji
        have hne : j ≠ i := by omega
        have hcm := ((R.ord.dst j i oj o t h2 ho hne h3).2 htm).symm
        have hlj := (hset j hcm).1 hji
        simp only [argV, List.getElem?_take, if_pos hji] at hv
        exact ⟨h.loc j oj t v h2 h3 hlj hv, (h.vb j v hlj hv).mono (R.le (by omega) (by omega))⟩
      · cases h2
    · rename_i hno
      split at hc <;> simp at hc
      subst hc
      rename_i j hj
      have hjt := idxOf?_some hj
      simp only [argV, R.vrs i (by omega)] at hv
      refine ⟨h.var j t v hjt (fun i' o' ho' ht => ?_) hv, (R.vbnd j t v hjt hv).mono (R.le (Nat.zero_le _) (by omega))⟩
      rcases Nat.lt_trichotomy i' i with hl | hl | hl
      · refine absurd ?_ (lastDst_none hno)
        rw [List.mem_map]
        refine ⟨o', ?_, ht⟩
        rw [List.mem_take_iff_getElem]
        have hi' := List.getElem?_eq_some_iff.1 ho'
        exact ⟨i', by omega, hi'.2⟩
      · subst hl; exact hun
      · have hcm := ((R.ord.dst i' i o' o t ho' ho (by omega) ht).2 htm).symm
        exact (hset i' hcm).2 hl
  | const z =>
    simp only at hc
    split at hc <;> simp at hc
    subst hc
    rename_i hz
    simp only [argV, Option.some.injEq] at hv
    subst hv
    exact ⟨.d (repD_constT R.gid hz), .d _⟩
  | func g =>
    simp only at hc
    split at hc <;> simp at hc
    subst hc
    rename_i hz
    simp only [argV, Option.some.injEq] at hv
    subst hv
    exact ⟨.d (.fn (R.gid _ _ hz)), .d _⟩
  | global k =>
    simp only at hc
    cases hc
    simp only [argV] at hv
    split at hv <;> simp at hv
    subst hv
    rename_i z hz
    obtain ⟨h1, h2, h3, _⟩ := hG _ _ hz
    exact ⟨.rc h1 h2 h3, .rc _⟩

theorem wpOp_of_yields (hi : ops[i]? = some o) (hw : Region.wanted o (yielded ops a.tmps) = true) {Φ : Value → World → Prop} (hy : Yields P o a.eval w Φ) {K : Act → World → Prop} (hK : ∀ x w', Φ x w' → K (a.put o.dst x) w') : wpOp P ops Q i K a w := by
  unfold wpOp
  simp only [hi, hw, if_true]
  exact .inl (hy.wp hK)

theorem wpOp_of_skip (hi : ops[i]? = some o) (hw : Region.wanted o (yielded ops a.tmps) = false) {K : Act → World → Prop} (hK : K (a.put o.dst undef) w) : wpOp P ops Q i K a w := by
  unfold wpOp
  simp only [hi, hw]
  exact hK

theorem Reg.step (R : Reg P E cx σ rec l ks ap f ev n vars wd) (hl : ops.toList = l) (hG0 : Globs E σ I0 w0) (hs : listed.size = ops.size)
    (hcl : ∀ (j : Nat) (o : Oper) e, ops[j]? = some o → listed.getD j false = true → e ∈ o.after → Region.binds .any e = true → listed.getD e.on false = true)
    (h : Inv cx σ l ks f ev n vars Wr wd β0 I0 w0 ds r β I listed a w) (hi : i ∈ Region.ready .any ops listed) (Kn : Act → World → Prop)
    (hK : ∀ a' w', (∃ r' β' I', Inv cx σ l ks f ev n vars Wr wd β0 I0 w0 ds r' β' I' (listed.setIfInBounds i true) a' w') → Kn a' w') : wpOp P ops Q i Kn a w := by
  obtain ⟨hun1, o, hoi, hall⟩ := mem_ready.1 hi
  have hat : ∀ j, l[j]? = ops[j]? := fun j => by rw [← hl, Array.getElem?_toList]
  have hsl : listed.size = l.length := by rw [hs, ← hl, Array.length_toList]
  have ho : l[i]? = some o := by rw [hat]; exact hoi
  have hil : i < l.length := (List.getElem?_eq_some_iff.1 ho).1
  have hun : listed.getD i false = false := by
    simp only [Array.getD_eq_getD_getElem?] at hun1 ⊢
    rw [Array.getElem?_eq_getElem (by omega)] at hun1 ⊢
    simpa using hun1
  have hclosed : ∀ p j, Bef l p j → listed.getD p false = true → listed.getD j false = true := by
    intro p j hb
    induction hb with
    | edge h1 h2 h3 => intro hp; exact hcl _ _ _ (by rw [← hat]; exact h1) hp h2 h3
    | step h1 h2 h3 _ ih => intro hp; exact ih (hcl _ _ _ (by rw [← hat]; exact h1) hp h2 h3)
  have hbef : ∀ j, Bef l i j → listed.getD j false = true := by
    intro j hb
    cases hb with
    | edge h1 h2 h3 => rw [ho] at h1; cases h1; exact hall _ h2 h3
    | step h1 h2 h3 h4 => rw [ho] at h1; cases h1; exact hclosed _ _ h4 (hall _ h2 h3)
  have hset : ∀ j, Cmp l i j → (j < i → listed.getD j false = true) ∧ (i < j → listed.getD j false = false) := by
    intro j hc
    refine ⟨fun hj => hbef j (hc.2 hj), fun hj => ?_⟩
    cases hq : listed.getD j false with
    | false => rfl
    | true => rw [hclosed j i (hc.1 hj) hq] at hun; cases hun
  obtain ⟨x, hx, hcomp, hgd, hgok, hdok⟩ := R.comp i o ho
  obtain ⟨v, hv, htr⟩ := R.tr.step i x hx
  have hG : Globs E σ I w := hG0.mono h.ext.im h.ext.keepI
  have hop : ∀ {ty : TypeId} {z : Operand} {y : Arg} {v : FV}, z ∈ o.op.operands.toList → compArg P cx ((l.take i).map (·.dst)) ty z = some y → argV E (f i) (ev.take i) y = some v → RepF σ β I w n v (a.eval z) ∧ Bnd n (f i).H.length v :=
    fun hz hc hv => R.operand h hG ho hun hset hz hc hv
  have hbase := R.base i (by omega)
  have hvars := R.vrs i (by omega)
  -- the guard
  have hguard : ∀ b, guardV (ev.take i) x.guard = some b → Region.wanted o (yielded ops a.tmps) = b := by
    intro b hb
    rw [hgd] at hb
    refine guard_wanted (σ := σ) (β := β) (I := I) (w := w) (n := n) (env := ev.take i) (dsts := (l.take i).map (·.dst)) (fun g b t y h1 h2 h3 => ?_) (fun j d hj => ?_) hgok hb
    · simp only [List.getElem?_map, Option.map_eq_some_iff, List.getElem?_take] at h2
      obtain ⟨og, h4, h5⟩ := h2
      split at h4
      · rename_i hgi
        simp only [List.getElem?_take, if_pos hgi] at h3
        exact h.loc g og t y h4 h5 (hbef g (R.ord.grd i o g b ho h1)) h3
      · cases h4
    · simp only [List.getElem?_map, Option.map_eq_some_iff, List.getElem?_take] at hj
      obtain ⟨oj, h4, h5⟩ := hj
      split at h4
      · rw [← hat, h4]; exact h5
      · cases h4
  simp only [List.nil_append] at htr
  cases hlo : x.k.loud x.q with
  | true =>
    have hcmp : ∀ (j : Nat) (y : FOp), ks[j]? = some y → y.k.mem = true → j ≠ i → Cmp l i j ∨ ∃ g m z, y.k = .load g m z := by
      intro j y hy hm hne
      rcases R.ord.mem i j x y hx hy (Ne.symm hne) hlo hm with h1 | ⟨_, p, h2, _⟩
      · exact .inl h1
      · obtain ⟨_, _, _, g, m', a', _, e2, _⟩ := farOf_inv h2
        exact .inr ⟨_, _, _, e2⟩
    have hcmpL : ∀ (j : Nat) (y : FOp), ks[j]? = some y → y.k.loud y.q = true → j ≠ i → (j < i → listed.getD j false = true) ∧ (i < j → listed.getD j false = false) := by
      intro j y hy hl hne
      rcases hcmp j y hy (loud_mem hl) hne with h1 | ⟨g, m, z, e⟩
      · exact hset j h1
      · rw [e] at hl; simp [Fi.K.loud] at hl
    obtain ⟨hri, hGi⟩ := R.own hil h hun hcmpL
    have hmk : ∀ j, j < l.length → j ≠ i → (f j).H.length < (f (j + 1)).H.length → (j < i → listed.getD j false = true) ∧ (i < j → listed.getD j false = false) := by
      intro j hj hne hlt
      have hk : j < ks.length := by rw [R.klen]; exact hj
      obtain ⟨hm, hno⟩ := R.makes (List.getElem?_eq_getElem hk) hlt
      rcases hcmp j _ (List.getElem?_eq_getElem hk) hm hne with h1 | ⟨g, m, z, e⟩
      · exact hset j h1
      · exact absurd e (hno g m z)
    have hwr : ∀ (j : Nat) (y : FOp), ks[j]? = some y → y.k.loud y.q = true → ((listed.setIfInBounds i true).getD j false = true ↔ j < i + 1) := by
      intro j y hy hl
      by_cases hji : j = i
      · subst hji
        simp [set_self (listed := listed) hsl hil]
      · rw [getD_set_ne false (Ne.symm hji)]
        have := hcmpL j y hy hl hji
        constructor
        · intro ht
          rcases Nat.lt_or_ge i j with hlt | hge
          · rw [this.2 hlt] at ht; cases ht
          · omega
        · intro hlt; exact this.1 (by omega)
    have hrl : i + 1 = 0 ∨ ∃ x, ks[i + 1 - 1]? = some x ∧ x.k.loud x.q = true := .inr ⟨x, by simpa using hx, hlo⟩
    rcases htr with ⟨hg, hv0, hf⟩ | ⟨hg, hrun⟩
    · -- not carried out
      refine wpOp_of_skip hoi (hguard _ hg) (hK _ w ⟨i + 1, β, I, ?_⟩)
      subst hv0
      have hGs : Gr l f (i + 1) = Gr l f r := by
        rw [← hGi]
        exact full_quiet (H := fun i => (f i).H) hil (new := []) (by simp [hf])
      refine h.next R.ord ho hsl hdok hv (by omega) hrl hwr (Ext.refl _ _ _ _) (by rw [hGs]; exact h.sim) (fun j hj _ hun => h.gap j hj hun) (fun i' h1 h2 k cs z h3 h4 h5 => ?_) (.d _) repT_nil
      rw [hGs] at h4
      exact h.cb i' (by omega) h2 k cs z h3 h4 h5
    · -- it writes
      have hfar : ∀ k u, (f i).H.length ≤ k → β k u = none := by
        intro k u hk
        cases hβ : β k u with
        | none => rfl
        | some z =>
          have hd := h.sim.dom k u z hβ
          rw [R.full_len h.rle] at hd
          obtain ⟨j, h1, h2, h3, h4⟩ := made_by (H := fun i => (f i).H) hk (l.length - i) (by omega) hd
          cases hlj : listed.getD j false with
          | false => rw [h.gap j h2 hlj k u h3 h4] at hβ; cases hβ
          | true =>
            have hne : j ≠ i := fun e => by subst e; rw [hun] at hlj; cases hlj
            rw [(hmk j h2 hne (by omega)).2 (by omega)] at hlj
            cases hlj
      have hsim : SimH σ (f i).base.length β I Wr wd ((f i).base ++ (f i).loc) w := by
        rw [hbase]
        have := h.sim
        rw [← hGi] at this
        exact SimH.pre (H := (f i).H) this hfar
      have hA : ArgsOK P E cx σ β I w (f i) (ev.take i) ((l.take i).map (·.dst)) a.eval o.op.operands.toList := by
        intro ty z y v' hz hc hv'
        rw [hbase]
        exact (hop hz hc hv').1
      have hmay : MayW (f i).base.length (f (i + 1)) wd := by rw [hbase]; exact R.mw (i + 1) (by omega)
      refine wpOp_of_yields hoi (hguard _ hg) (op_sound R.gid R.bod R.rl R.rc hG hA hcomp hrun (fun _ => hmay) hsim) (fun z w' hp => hK _ w' ⟨i + 1, ?_⟩)
      obtain ⟨β', I', hxt, hS', hR', _⟩ := hp
      rw [hbase] at hS' hR'
      have hdom : ∀ k u z, β' k u = some z → k < (f (i + 1)).H.length := hS'.dom
      refine ⟨β', I', h.next R.ord ho hsl hdok hv (by omega) hrl hwr hxt (SimH.app (H := (f (i + 1)).H) hS' _) (fun j hj hne hunj k u h1 h2 => ?_) (fun i' h1 h2 k cs y h3 h4 h5 => ?_) (hR'.bnd hdom) hR'⟩
      · rcases Nat.lt_or_ge j i with hlt | hge
        · rw [(hmk j hj hne (by omega)).1 hlt] at hunj; cases hunj
        · have : (f (i + 1)).H.length ≤ (f j).H.length := R.le (by omega) (by omega)
          cases hβ : β' k u with
          | none => rfl
          | some y => have := hdom k u y hβ; omega
      · have hk := hdom k 0 y h5
        have h6 : (f (i + 1)).H[k]? = some (.box cs) := by
          rw [← h4]; exact (full_get (H := fun i => (f i).H) hk).symm
        obtain ⟨b, bo, cap⟩ := y
        obtain ⟨_, c, e, _, g2, g3⟩ := hS'.box k cs b bo cap h6 h5
        intro cc hcc
        obtain ⟨j, z', e1, e2⟩ := paired g2 hcc
        exact ((g3 j cc z' e1 e2).bnd hdom).mono (R.le (by omega) h2)
  | false =>
    have hqq : ∀ y, ks[i]? = some y → y.k.loud y.q = false := fun y hy => by rw [hx] at hy; cases hy; exact hlo
    rcases htr with ⟨hg, hv0, hf⟩ | ⟨hg, hrun⟩
    · subst hv0
      exact wpOp_of_skip hoi (hguard _ hg) (hK _ w ⟨r, β, I, h.same R.ord ho hsl hdok hv hqq (Ext.refl β I _ w) h.sim.ilt (.d _) repT_nil⟩)
    · have hprev : (Gr l f r).length = (f l.length).H.length := R.full_len h.rle
      cases hm : x.k.mem with
      | false =>
        obtain ⟨hf, hany⟩ := runK_pure hm hrun
        have hblank := h.sim.blank (m := (f i).H.length)
        have hlen : (((Gr l f r).take (f i).H.length).map AObj.blank).length = (f i).H.length := by
          rw [List.length_map, List.length_take, hprev]
          have := R.le (i := i) (j := l.length) (by omega) (Nat.le_refl _)
          omega
        generalize hA' : ((Gr l f r).take (f i).H.length).map AObj.blank = A' at hblank hlen
        let st2 : St := { vars := (f i).vars, base := A'.take n, loc := A'.drop n, dirty := false }
        have hb2 : st2.base.length = n := by
          have := R.n_le (i := i) (by omega)
          simp only [st2, List.length_take]
          omega
        have hH2 : st2.base ++ st2.loc = A' := List.take_append_drop n A'
        have hS2 : SimH σ st2.base.length (β.upto (f i).H.length) I (fun b => w.heap.size ≤ b) (fun _ => False) (st2.base ++ st2.loc) w := by rw [hb2, hH2]; exact hblank
        have hA2 : ArgsOK P E cx σ (β.upto (f i).H.length) I w st2 (ev.take i) ((l.take i).map (·.dst)) a.eval o.op.operands.toList := by
          intro ty z y v' hz hc hv'
          rw [hb2]
          obtain ⟨g1, g2⟩ := hop hz hc hv'
          exact g1.upto g2
        refine wpOp_of_yields hoi (hguard _ hg) (op_sound R.gid R.bod R.rl R.rc hG hA2 hcomp (hany st2 rfl) (fun hl => by rw [hlo] at hl; cases hl) hS2) (fun z w' hp => hK _ w' ⟨r, β, ?_⟩)
        obtain ⟨β', I', hxt, hS', hR', hk'⟩ := hp
        rw [hH2, hlen] at hk'
        rw [hb2, hH2] at hS'
        rw [hb2] at hR'
        have hdom : ∀ k u z, β' k u = some z → k < (f i).H.length := fun k u z hz => by have := hS'.dom k u z hz; rw [hlen] at this; exact this
        refine ⟨I', h.same R.ord ho hsl hdok hv hqq hxt hS'.ilt ((hR'.bnd hdom).mono (R.mono i hil)) (hR'.mono (fun k u z hz => ?_) (fun _ h => h) (fun _ _ => rfl))⟩
        have h1 := hdom k u z hz
        rw [hk' k u h1 (fun h => h), Map.upto_lt h1] at hz
        exact hz
      | true =>
        by_cases hcmp : ∀ (j : Nat) (y : FOp), ks[j]? = some y → y.k.loud y.q = true → j ≠ i → Cmp l i j
        · -- it has been compared with all that is loud
          obtain ⟨hri, hGi⟩ := R.own hil h hun (fun j y hy hl hne => hset j (hcmp j y hy hl hne))
          obtain ⟨new, hnew⟩ := R.quiet hx hlo
          have hfl : Gr l f r = (f i).H ++ new ++ tails (fun i => (f i).H) (l.length - (i + 1)) (i + 1) := by
            rw [← hGi]
            have := full_at (H := fun i => (f i).H) hil
            simp only [hnew, List.drop_append_of_le_length (Nat.le_refl _), List.drop_length, List.nil_append] at this
            exact this
          have hlen1 : (f (i + 1)).H.length = (f i).H.length + new.length := by rw [hnew, List.length_append]
          have hsim := h.sim
          rw [hfl] at hsim
          have hS0 : SimH σ (f i).base.length (β.upto (f i).H.length) I (fun b => w.heap.size ≤ b) (fun k => (f i).H.length ≤ k) ((f i).base ++ (f i).loc) w := by
            rw [hbase]
            refine SimH.first (A := (f i).H) (T := new ++ tails (fun i => (f i).H) (l.length - (i + 1)) (i + 1)) (by rw [← List.append_assoc]; exact hsim) (fun k cs b bo cap h1 h2 j c y h3 h4 => h4.upto ?_)
            have hk := (List.getElem?_eq_some_iff.1 h1).1
            refine h.cb i hri (by omega) k cs _ hk ?_ h2 c (List.mem_of_getElem? h3)
            rw [hfl, List.append_assoc]
            exact getElem?_of_append h1
          have hA : ArgsOK P E cx σ (β.upto (f i).H.length) I w (f i) (ev.take i) ((l.take i).map (·.dst)) a.eval o.op.operands.toList := by
            intro ty z y v' hz hc hv'
            rw [hbase]
            obtain ⟨g1, g2⟩ := hop hz hc hv'
            exact g1.upto g2
          refine wpOp_of_yields hoi (hguard _ hg) (op_sound R.gid R.bod R.rl R.rc hG hA hcomp hrun (fun hl => by rw [hlo] at hl; cases hl) hS0) (fun z w' hp => ?_)
          obtain ⟨β', I', hxt, hS', hR', hk'⟩ := hp
          rw [hbase] at hS' hR'
          have hdom : ∀ k u z, β' k u = some z → k < (f (i + 1)).H.length := hS'.dom
          have hkb : ∀ k u, k < (f i).H.length → β' k u = β k u := fun k u hk => by
            rw [hk' k u hk (by simp only [St.H] at hk ⊢; omega), Map.upto_lt hk]
          have hS1 : SimH σ n β' I' (fun b => w.heap.size ≤ b) (fun k => (f i).H.length ≤ k) ((f i).H ++ new) w' := by rw [← hnew]; exact hS'
          obtain ⟨hx2, hS2⟩ := SimH.mergeQ hsim (fun k u h1 h2 => h.gap i hil hun k u h1 (by omega)) hxt hS1 hkb
          rw [← hlen1] at hx2 hS2
          refine hK _ w' ⟨r, _, I', h.next R.ord ho hsl hdok hv h.rle h.rl (fun j y hy hl => ?_) hx2 (by rw [hfl]; exact hS2) (fun j hj hne hunj k u h1 h2 => ?_) (fun i' h1 h2 k cs y h3 h4 h5 => ?_) (hR'.bnd hdom) (hR'.mono (fun k u z hz => ?_) (fun _ h => h) (fun _ _ => rfl))⟩
          · have : j ≠ i := fun e => by subst e; rw [hqq y hy] at hl; cases hl
            rw [getD_set_ne false (Ne.symm this)]
            exact h.wrote j y hy hl
          · rcases Nat.lt_or_ge j i with hlt | hge
            · have h3 : (f (j + 1)).H.length ≤ (f i).H.length := R.le (by omega) (by omega)
              rw [Map.over_lt (by omega), hkb k u (by omega)]
              exact h.gap j hj hunj k u h1 h2
            · have h3 : (f (i + 1)).H.length ≤ (f j).H.length := R.le (by omega) (by omega)
              rw [Map.over_ge (by omega)]
              exact h.gap j hj hunj k u h1 h2
          · rcases Nat.lt_or_ge k (f i).H.length with hk1 | hk1
            · rw [Map.over_lt (by omega), hkb k 0 hk1] at h5
              exact h.cb i' h1 h2 k cs y h3 h4 h5
            · rcases Nat.lt_or_ge k (f (i + 1)).H.length with hk2 | hk2
              · rw [Map.over_lt hk2] at h5
                have hii : i + 1 ≤ i' := by
                  rcases Nat.lt_or_ge i i' with hlt | hge
                  · exact hlt
                  · have := R.le hge (by omega); omega
                have h6 : ((f i).H ++ new)[k]? = some (.box cs) := by
                  rw [hfl, List.getElem?_append_left (by rw [List.length_append]; omega)] at h4; exact h4
                obtain ⟨b, bo, cap⟩ := y
                obtain ⟨_, c, e, _, g2, g3⟩ := hS1.box k cs b bo cap h6 h5
                intro cc hcc
                obtain ⟨j, z', e1, e2⟩ := paired g2 hcc
                exact ((g3 j cc z' e1 e2).bnd hdom).mono (R.le hii h2)
              · rw [Map.over_ge hk2] at h5
                exact h.cb i' h1 h2 k cs y h3 h4 h5
          · rw [Map.over_lt (hdom k u z hz)]; exact hz
        · -- a load that may come before or behind a store
          have hex : ∃ (j : Nat) (y : FOp), ks[j]? = some y ∧ y.k.loud y.q = true ∧ j ≠ i ∧ ¬ Cmp l i j := by
            refine Classical.byContradiction fun hno => hcmp fun j y hy hl hne => Classical.byContradiction fun hc => hno ⟨j, y, hy, hl, hne, hc⟩
          obtain ⟨j0, y0, hy0, hl0, hne0, hnc0⟩ := hex
          obtain ⟨hxq, p0, hp0, hp0m⟩ := (R.ord.mem j0 i y0 x hy0 hx hne0 hl0 hm).resolve_left (fun hc => hnc0 hc.symm)
          obtain ⟨m0, b0, x0, g0, m0', a0, e1, e2, e3⟩ := farOf_inv hp0
          subst e3
          obtain ⟨p, po, p', po', hva, hvb, hpp⟩ := apart_spec R.apart hp0m
          rw [R.vrs 0 (by omega)] at hva
          have harg : argV E (f i) (ev.take i) (.var a0) = some (.r p po) := by simp only [argV, hvars]; exact hva
          -- the store's object is another
          have hfarj : ∀ (j : Nat) (y : FOp), ks[j]? = some y → y.k.loud y.q = true → j ≠ i → j < l.length → ¬ Cmp l i j → (Gr l f (j + 1))[p.abs n]? = (Gr l f j)[p.abs n]? := by
            intro j y hy hl hne hjl hnc
            obtain ⟨_, pj, hpj, hpjm⟩ := (R.ord.mem j i y x hy hx hne hl hm).resolve_left (fun hc => hnc hc.symm)
            obtain ⟨mj, bj, xj, gj, mj', aj, d1, d2, d3⟩ := farOf_inv hpj
            subst d3
            rw [e2] at d2
            cases d2
            obtain ⟨pq, pqo, pq', pqo', hqa, hqb, hqp⟩ := apart_spec R.apart hpjm
            rw [R.vrs 0 (by omega)] at hqa hqb
            rw [hva] at hqa; cases hqa
            rw [R.base 0 (by omega)] at hqp
            obtain ⟨vj, _, hj⟩ := R.tr.step j y hy
            rcases hj with ⟨_, _, hj⟩ | ⟨_, hj⟩
            · exact congrArg (fun L : List AObj => L[p.abs n]?) (full_quiet (H := fun i => (f i).H) hjl (new := []) (by simp [hj]))
            · rw [d1] at hj
              obtain ⟨oo, hoo⟩ := runK_store (b := bj) (p := pq') (o0 := pqo') (by rw [R.vrs j (by omega)]; exact hqb) hj
              rw [R.base j (by omega)] at hoo
              exact full_set (H := fun i => (f i).H) hjl hoo hqp
          have hquietj : ∀ (j : Nat) (y : FOp), ks[j]? = some y → y.k.loud y.q = false → j < l.length → (Gr l f (j + 1))[p.abs n]? = (Gr l f j)[p.abs n]? := by
            intro j y hy hl hjl
            obtain ⟨new, hn⟩ := R.quiet hy hl
            exact congrArg (fun L : List AObj => L[p.abs n]?) (full_quiet (H := fun i => (f i).H) hjl hn)
          have hagree : (Gr l f r)[p.abs n]? = (Gr l f i)[p.abs n]? := by
            rcases Nat.le_total r i with hri | hri
            · refine (full_samep (H := fun i => (f i).H) hri (fun j h1 h2 => ?_)).symm
              have hk : j < ks.length := by rw [R.klen]; omega
              cases hq : ks[j].k.loud ks[j].q with
              | false => exact hquietj j _ (List.getElem?_eq_getElem hk) hq (by omega)
              | true =>
                refine hfarj j _ (List.getElem?_eq_getElem hk) hq (by omega) (by omega) (fun hc => ?_)
                have := (h.wrote j _ (List.getElem?_eq_getElem hk) hq).1 ((hset j hc).1 h2)
                omega
            · refine full_samep (H := fun i => (f i).H) hri (fun j h1 h2 => ?_)
              have hrl := h.rle
              have hk : j < ks.length := by rw [R.klen]; omega
              cases hq : ks[j].k.loud ks[j].q with
              | false => exact hquietj j _ (List.getElem?_eq_getElem hk) hq (by omega)
              | true =>
                have hlj := (h.wrote j _ (List.getElem?_eq_getElem hk) hq).2 h2
                have hne : j ≠ i := fun e => by subst e; rw [hun] at hlj; cases hlj
                refine hfarj j _ (List.getElem?_eq_getElem hk) hq hne (by omega) (fun hc => ?_)
                rw [(hset j hc).2 (by omega)] at hlj; cases hlj
          have hxl : x.k = .load g0 m0' (.var a0) := e2
          rw [hxl, hxq] at hrun
          rw [hxl] at hcomp
          obtain ⟨hfi, hany⟩ := runK_load hrun
          obtain ⟨y, hvy⟩ := load_data harg hrun
          subst hvy
          -- the object is there
          have hpl : p.abs n < (f i).H.length := by
            simp only [runK, harg, St.heap_eq, hbase] at hrun
            cases hq : ((f i).base ++ (f i).loc)[p.abs n]? with
            | none => rw [hq] at hrun; cases hrun
            | some _ => exact (List.getElem?_eq_some_iff.1 hq).1
          let st2 : St := { vars := (f i).vars, base := (Gr l f r).take n, loc := (Gr l f r).drop n, dirty := false }
          have hb2 : st2.base.length = n := by
            have := R.n_le (i := l.length) (Nat.le_refl _)
            simp only [st2, List.length_take]
            omega
          have hH2 : st2.base ++ st2.loc = Gr l f r := List.take_append_drop n _
          have hS2 : SimH σ st2.base.length β I (fun b => w.heap.size ≤ b) (fun _ => False) (st2.base ++ st2.loc) w := by
            rw [hb2, hH2]
            exact h.sim.reWr (fun _ h => h) (fun _ _ _ _ _ _ _ h => h.elim) (fun _ _ _ _ _ _ _ _ _ _ _ h => h)
          have hA2 : ArgsOK P E cx σ β I w st2 (ev.take i) ((l.take i).map (·.dst)) a.eval o.op.operands.toList := by
            intro ty z y v' hz hc hv'
            rw [hb2]
            exact (hop hz hc hv').1
          have hrun2 := hany st2 rfl (fun q yy hq hor => by
            rw [harg] at hq
            cases hq
            rcases hor with ⟨_, e⟩ | ⟨_, _, _, _, e⟩
            · cases e
              rw [St.heap_eq, St.heap_eq, hb2, hH2, hbase, hagree]
              exact full_get (H := fun i => (f i).H) hpl
            · cases e)
          refine wpOp_of_yields hoi (hguard _ hg) (op_sound R.gid R.bod R.rl R.rc hG hA2 hcomp hrun2 (fun hl => by simp [Fi.K.loud] at hl) hS2) (fun z w' hp => hK _ w' ⟨r, β, ?_⟩)
          obtain ⟨β', I', hxt, hS', hR', hk'⟩ := hp
          cases hR' with
          | d hR' => exact ⟨I', h.same R.ord ho hsl hdok hv hqq hxt hS'.ilt (.d _) (.d hR')⟩
end step
end Fi
