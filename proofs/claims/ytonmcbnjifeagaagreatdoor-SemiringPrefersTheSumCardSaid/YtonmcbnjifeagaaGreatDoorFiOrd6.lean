/-
  A region, whatever its order: the model does what the interpreter says.
-/
import Derived.Test.YtonmcbnjifeagaaGreatDoorFiOrd5
set_option linter.unusedVariables false
set_option linter.unusedSimpArgs false
namespace Fi
open Go

section comp
variable {P : Program} {cx : Cx}

theorem compOps_spec : ∀ {l : List Oper} {dsts : List (Option Tmp)} {ks : List FOp}, compOps P cx l dsts = some ks → ks.length = l.length ∧
    ∀ (i : Nat) (o : Oper), l[i]? = some o → ∃ x, ks[i]? = some x ∧ compOp P cx (dsts ++ (l.take i).map (·.dst)) o = some x.k ∧ x.guard = o.guard ∧ guardOk (dsts ++ (l.take i).map (·.dst)) o.guard = true ∧ dstOk cx o.dst = true
  | [], dsts, ks, h => by
    simp [compOps] at h; subst h
    exact ⟨rfl, fun i o hi => by simp at hi⟩
  | o :: l, dsts, ks, h => by
    simp only [compOps] at h
    split at h
    · rename_i hg
      simp only [Bool.and_eq_true] at hg
      split at h <;> simp at h
      subst h
      rename_i k ks hk hks
      obtain ⟨h1, h2⟩ := compOps_spec hks
      refine ⟨by simp [h1], fun i o' hi => ?_⟩
      cases i with
      | zero =>
        simp at hi; subst hi
        exact ⟨_, rfl, by simpa using hk, rfl, by simpa using hg.1, hg.2⟩
      | succ i =>
        obtain ⟨x, g1, g2, g3, g4, g5⟩ := h2 i o' (by simpa using hi)
        refine ⟨x, by simpa using g1, ?_, g3, ?_, g5⟩
        · simpa using g2
        · simpa using g4
    · cases h

theorem quietly_spec {ms : List Nat} {ks : List FOp} {i : Nat} {x : FOp} (h : ks[i]? = some x) : ∃ y, (quietly ms ks)[i]? = some y ∧ y.k = x.k ∧ y.guard = x.guard := by
  unfold quietly
  rw [List.getElem?_map, List.getElem?_zipIdx, h]
  exact ⟨_, rfl, rfl, rfl⟩

theorem quietly_len {ms : List Nat} {ks : List FOp} : (quietly ms ks).length = ks.length := by simp [quietly]
end comp

section region
variable {P : Program} {E : Env} {cx : Cx} {σ : Nat → Option FuncId} {Wr : Nat → Prop} {wd : Nat → Prop} {rec : Nat → List FV → List AObj → CallR}

theorem Trace.kept (hrl : RecLen rec) {ks : List FOp} {env : List FV} {f : Nat → St} {vs : List FV} (t : Trace E rec ks env f vs) {i : Nat} (hi : i < ks.length) : Kept (f i) (f (i + 1)) := by
  obtain ⟨v, _, h⟩ := t.step i _ (List.getElem?_eq_getElem hi)
  rcases h with ⟨_, _, h⟩ | ⟨_, h⟩
  · rw [h]; exact .refl _
  · exact runK_kept hrl h

theorem Trace.keptTo (hrl : RecLen rec) {ks : List FOp} {env : List FV} {f : Nat → St} {vs : List FV} (t : Trace E rec ks env f vs) {i j : Nat} (hij : i ≤ j) (hj : j ≤ ks.length) : Kept (f i) (f j) := by
  induction j with
  | zero => have : i = 0 := by omega
            subst this; exact .refl _
  | succ j ih =>
    rcases Nat.eq_or_lt_of_le hij with he | hl
    · subst he; exact .refl _
    · exact (ih (by omega) (by omega)).trans (t.kept hrl (by omega))

theorem draw_sound (hm : P.follows .mixedOrders = true) (hgid : ∀ f g, cx.gid f = some g → σ g = some f) (hB : Bodies P E σ) (hrl : RecLen rec) (hrec : RecOK P E σ rec) {id : Nat} {ops : Array Oper} {Q : Exit → Act → World → Prop}
    {ks : List FOp} {ap : List (Nat × Nat)} {ev : List FV} {st st' : St} {a : Act} {w : World} {β : Map} {I : Nat → Prop}
    (hc : compRegion P cx ops.toList true = some (ks, ap)) (hap : apartOk st ap = true) (hr : runOps E rec ks st [] = some (st', ev)) (hmw : MayW st.base.length st' wd)
    (hS : SimH σ st.base.length β I Wr wd (st.base ++ st.loc) w) (hG : Globs E σ I w) (hT : TmpsOK σ β I w st.base.length cx st.vars [] [] a)
    (hQ : ∀ β' I' w' a', Ext β β' I I' Wr w w' → SimH σ st.base.length β' I' Wr wd (st'.base ++ st'.loc) w' → TmpsOK σ β' I' w' st.base.length cx st.vars (ops.toList.map (·.dst)) ev a' → ev.length = ops.toList.length → a'.defers = a.defers → Q .normal a' w') :
    (Code.region id ops true).wp P Q a w := by
  unfold compRegion at hc
  split at hc
  · cases hc
  · rename_i ks0 hks0
    simp only [if_true] at hc
    split at hc
    · rename_i hok
      simp only [Option.some.injEq, Prod.mk.injEq] at hc
      obtain ⟨rfl, rfl⟩ := hc
      obtain ⟨g1, g2⟩ := compOps_spec hks0
      obtain ⟨f, vs, e1, e2, e3, t⟩ := runOps_trace _ hr
      simp only [List.nil_append] at e1
      subst e1
      generalize hksd : quietly (masks ops.toList []) ks0 = ks at *
      have hkl : ks.length = ops.toList.length := by rw [← hksd, quietly_len, g1]
      have hK : ∀ i, i ≤ ops.toList.length → Kept st (f i) := fun i hi => by rw [← e2]; exact t.keptTo hrl (Nat.zero_le _) (by omega)
      have hK' : ∀ i, i ≤ ops.toList.length → Kept (f i) st' := fun i hi => by rw [← e3]; exact t.keptTo hrl (by omega) (Nat.le_refl _)
      have hv0 : ∀ (j : Nat) (tt : Tmp) (y : FV), cx.vars[j]? = some tt → st.vars[j]? = some y → Bnd st.base.length (st.base ++ st.loc).length y := fun j tt y h1 h2 => (hT.var j tt y h1 (lastDst_nil _) h2).bnd hS.dom
      have R : Reg P E cx σ rec ops.toList ks _ f ev st.base.length st.vars wd :=
        { gid := hgid, bod := hB, rl := hrl, rc := hrec, klen := hkl, tr := t, base := fun i hi => (hK i hi).base, vrs := fun i hi => (hK i hi).vars, ord := orderOk_spec hok,
          apart := by rw [e2]; exact hap, mw := fun i hi => hmw.back (hK' i hi).dirty, vbnd := fun j tt y h1 h2 => by rw [e2]; exact hv0 j tt y h1 h2,
          comp := fun i o ho => by
            obtain ⟨x, a1, a2, a3, a4, a5⟩ := g2 i o ho
            obtain ⟨y, b1, b2, b3⟩ := quietly_spec (ms := masks ops.toList []) a1
            rw [hksd] at b1
            exact ⟨y, b1, by rw [b2]; simpa using a2, by rw [b3]; exact a3, by simpa using a4, a5⟩ }
      refine wp_region_any hm ?_
      change wpAny P .any ops Q ops.size (Array.replicate ops.size false) a w.drew
      have hG' : Globs E σ I w.drew := hG.mono (fun _ h => h) (fun _ _ => rfl)
      have hrep : ∀ j, (Array.replicate ops.size false).getD j false = false := fun j => by
        rcases Nat.lt_or_ge j ops.size with h | h
        · simp [h]
        · simp [h]
      have hH0 : (f 0).H = st.base ++ st.loc := by rw [e2]; rfl
      refine wpAny_inv (fun listed a' w' => ∃ r β' I', Inv cx σ ops.toList ks f ev st.base.length st.vars Wr wd β I w.drew a.defers r β' I' listed a' w') (fun i o e hi he hb => R.ord.edge i o e (by rw [Array.getElem?_toList]; exact hi) he hb)
        (fun listed a' w' i hs hcl ⟨r, β', I', hI⟩ hi Kn hKn => R.step rfl hG' hs hcl hI hi Kn hKn) ?_ ops.size _ a w.drew (by simp) (fun j o e _ hl => by rw [hrep j] at hl; cases hl) (by simp) ?_
      · rintro listed a' w' ⟨r, β', I', hI⟩ hall
        have hfull : Gr ops.toList f r = st'.base ++ st'.loc := by
          have h1 : Gr ops.toList f ops.toList.length = Gr ops.toList f r := by
            refine full_same (H := fun i => (f i).H) hI.rle (fun j h1 h2 => ?_)
            have hk : j < ks.length := by omega
            cases hq : ks[j].k.loud ks[j].q with
            | false =>
              obtain ⟨new, hn⟩ := R.quiet (List.getElem?_eq_getElem hk) hq
              exact full_quiet (H := fun i => (f i).H) h2 hn
            | true =>
              have := (hI.wrote j _ (List.getElem?_eq_getElem hk) hq).1 (hall j (by simpa using h2))
              omega
          rw [← h1]
          have := full_end (H := fun i => (f i).H) (m := ops.toList.length)
          unfold Gr
          rw [this, ← hkl, e3]
          rfl
        have hsim := hI.sim
        rw [hfull] at hsim
        refine hQ β' I' w' a' ((drew_ext β I Wr w).trans hI.ext) hsim ⟨hI.size, fun j tt y h1 h2 h3 => ?_, fun tt j y h1 h2 => ?_⟩ (by rw [t.len, hkl]) hI.dfr
        · refine hI.var j tt y h1 (fun i o ho ht => ?_) h3
          refine absurd ?_ (lastDst_none h2)
          rw [List.mem_map]
          exact ⟨o, List.mem_of_getElem? ho, ht⟩
        · have h3 := lastDst_lt h1
          simp only [List.getElem?_map, Option.map_eq_some_iff] at h3
          obtain ⟨o, h4, h5⟩ := h3
          have hj := (List.getElem?_eq_some_iff.1 h4).1
          exact hI.loc j o tt y h4 h5 (hall j (by simpa using hj)) h2
      · have hG0 : Gr ops.toList f 0 = (st.base ++ st.loc) ++ tails (fun i => (f i).H) (ops.toList.length - 0) 0 := by
          unfold Gr full
          simp only [hH0]
        refine ⟨0, β, I, ⟨Nat.zero_le _, .inl rfl, fun j x _ _ => by rw [hrep j]; simp, ?_, Ext.refl _ _ _ _, fun j hj _ k u h1 _ => ?_, fun i _ hi k cs x _ h2 h3 => ?_, fun j y hl => absurd ((hrep j).symm.trans hl) (by simp), hT.size,
          fun j o tt y _ _ hl => absurd ((hrep j).symm.trans hl) (by simp), fun j tt y h1 _ h3 => RepF.mono (w := w) (w' := w.drew) (fun _ _ _ h => h) (fun _ h => h) (fun _ _ => rfl) (hT.var j tt y h1 (lastDst_nil _) h3), rfl⟩⟩
        · rw [hG0]
          exact (drew_grow hS).app _
        · cases hβ : β k u with
          | none => rfl
          | some y =>
            have h4 := hS.dom k u y hβ
            have h5 := R.le (i := 0) (j := j) (Nat.zero_le _) (by omega)
            rw [hH0] at h5
            omega
        · have hk := hS.dom k 0 x h3
          rw [hG0, List.getElem?_append_left hk] at h2
          obtain ⟨b, bo, cap⟩ := x
          obtain ⟨_, c, e, _, b2, b3⟩ := hS.box k cs b bo cap h2 h3
          intro cc hcc
          obtain ⟨j, z, d1, d2⟩ := paired b2 hcc
          have h5 := R.le (i := 0) (j := i) (Nat.zero_le _) hi
          rw [hH0] at h5
          exact ((b3 j cc z d1 d2).bnd hS.dom).mono h5
    · cases hc

/-- A region. -/
theorem region_sound (hm : P.follows .mixedOrders = true) (hgid : ∀ f g, cx.gid f = some g → σ g = some f) (hB : Bodies P E σ) (hrl : RecLen rec) (hrec : RecOK P E σ rec) {id : Nat} {ops : Array Oper} {draw : Bool} {Q : Exit → Act → World → Prop}
    {ks : List FOp} {ap : List (Nat × Nat)} {ev : List FV} {st st' : St} {a : Act} {w : World} {β : Map} {I : Nat → Prop}
    (hc : compRegion P cx ops.toList draw = some (ks, ap)) (hap : apartOk st ap = true) (hr : runOps E rec ks st [] = some (st', ev)) (hmw : MayW st.base.length st' wd)
    (hS : SimH σ st.base.length β I Wr wd (st.base ++ st.loc) w) (hG : Globs E σ I w) (hT : TmpsOK σ β I w st.base.length cx st.vars [] [] a)
    (hQ : ∀ β' I' w' a', Ext β β' I I' Wr w w' → SimH σ st.base.length β' I' Wr wd (st'.base ++ st'.loc) w' → TmpsOK σ β' I' w' st.base.length cx st.vars (ops.toList.map (·.dst)) ev a' → ev.length = ops.toList.length → a'.defers = a.defers → Q .normal a' w') :
    (Code.region id ops draw).wp P Q a w := by
  cases draw with
  | true => exact draw_sound hm hgid hB hrl hrec hc hap hr hmw hS hG hT hQ
  | false =>
    unfold compRegion at hc
    split at hc
    · cases hc
    · rename_i ks0 hks0
      simp only [Bool.false_eq_true, if_false, Option.some.injEq, Prod.mk.injEq] at hc
      obtain ⟨rfl, rfl⟩ := hc
      exact wp_region_list (seq_sound hgid hB hrl hrec ops.toList hks0 hr rfl (fun j d h => by simp at h) (fun j => by simp) hmw hS hG hT (fun β' I' w' a' h1 h2 h3 h4 h5 => hQ β' I' w' a' h1 h2 (by simpa using h3) (by simpa using h4) h5))
end region
end Fi
