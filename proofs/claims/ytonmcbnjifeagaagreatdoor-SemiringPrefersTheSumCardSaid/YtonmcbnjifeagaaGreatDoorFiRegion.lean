/-
  A region whose operations run in the order of the text.
-/
import Derived.Test.YtonmcbnjifeagaaGreatDoorFiTmps
import Derived.Tactics
set_option linter.unusedVariables false
set_option linter.unusedSimpArgs false
namespace Fi
open Go

theorem MayW.back {n : Nat} {st st' : St} {wd : Nat → Prop} (h : MayW n st' wd) (k : st.dirty = true → st'.dirty = true) : MayW n st wd := ⟨h.1, fun hd => h.2 (k hd)⟩

section seq
variable {P : Program} {E : Env} {cx : Cx} {σ : Nat → Option FuncId} {Wr : Nat → Prop} {wd : Nat → Prop} {rec : Nat → List FV → List AObj → CallR}

/-- One operation, whose guard holds. -/
theorem op_sound (hgid : ∀ f g, cx.gid f = some g → σ g = some f) (hB : Bodies P E σ) (hrl : RecLen rec) (hrec : RecOK P E σ rec) {q : Bool} {β : Map} {I : Nat → Prop} {w : World} {st st' : St} {dsts : List (Option Tmp)} {env : List FV} {a : Act} {o : Oper} {k : K} {v : FV}
    (hG : Globs E σ I w) (hT : ArgsOK P E cx σ β I w st env dsts a.eval o.op.operands.toList) (hc : compOp P cx dsts o = some k) (hk : runK E rec q st env k = some (v, st'))
    (hdt : k.loud q = true → MayW st.base.length st' wd) (hS : SimH σ st.base.length β I Wr wd (st.base ++ st.loc) w) :
    Yields P o a.eval w (Post σ st.base.length (st.base ++ st.loc).length β I Wr wd w st' v) :=
  runK_sound (fun _ => rfl) (fun _ => rfl) hgid hB hrl hrec hG hc hk hdt hS hT

theorem seq_sound (hgid : ∀ f g, cx.gid f = some g → σ g = some f) (hB : Bodies P E σ) (hrl : RecLen rec) (hrec : RecOK P E σ rec) {ops : Array Oper} {Q : Exit → Act → World → Prop} :
    ∀ (l : List Oper) {ks : List FOp} {dsts : List (Option Tmp)} {env ev : List FV} {st st' : St} {a : Act} {w : World} {β : Map} {I : Nat → Prop},
      compOps P cx l dsts = some ks → runOps E rec ks st env = some (st', ev) → env.length = dsts.length → (∀ (j : Nat) (d : Option Tmp), dsts[j]? = some d → (ops[j]?).bind (·.dst) = d) →
      (∀ j, l[j]? = ops[dsts.length + j]?) → MayW st.base.length st' wd → SimH σ st.base.length β I Wr wd (st.base ++ st.loc) w → Globs E σ I w → TmpsOK σ β I w st.base.length cx st.vars dsts env a →
      (∀ β' I' w' a', Ext β β' I I' Wr w w' → SimH σ st.base.length β' I' Wr wd (st'.base ++ st'.loc) w' → TmpsOK σ β' I' w' st.base.length cx st.vars (dsts ++ l.map (·.dst)) ev a' → ev.length = (dsts ++ l.map (·.dst)).length → a'.defers = a.defers → Q .normal a' w') →
      wpList P ops Q l a w
  | [], ks, dsts, env, ev, st, st', a, w, β, I, hc, hr, hl, hpre, hat, hm, hS, hG, hT, hQ => by
    simp [compOps] at hc; subst hc
    simp only [runOps, Option.some.injEq, Prod.mk.injEq] at hr
    obtain ⟨rfl, rfl⟩ := hr
    exact hQ β I w a (Ext.refl _ _ _ _) hS (by simpa using hT) (by simpa using hl) rfl
  | o :: l, ks, dsts, env, ev, st, st', a, w, β, I, hc, hr, hl, hpre, hat, hm, hS, hG, hT, hQ => by
    simp only [compOps] at hc
    split at hc
    · rename_i hgd
      simp only [Bool.and_eq_true] at hgd
      split at hc <;> simp at hc
      subst hc
      rename_i k ks hk hks
      have h0 : ops[dsts.length]? = some o := by simpa using (hat 0).symm
      have hpre' : ∀ (j : Nat) (d : Option Tmp), (dsts ++ [o.dst])[j]? = some d → (ops[j]?).bind (·.dst) = d := by
        intro j d hj
        rcases Nat.lt_or_ge j dsts.length with h' | h'
        · rw [List.getElem?_append_left h'] at hj; exact hpre j d hj
        · rw [List.getElem?_append_right h'] at hj
          have hj0 : j - dsts.length = 0 := by
            rcases Nat.eq_zero_or_pos (j - dsts.length) with h | h
            · exact h
            · rw [List.getElem?_eq_none (by simp; omega)] at hj; cases hj
          rw [hj0] at hj
          have : j = dsts.length := by omega
          subst this
          rw [h0]
          simpa using hj
      have hat' : ∀ j, l[j]? = ops[(dsts ++ [o.dst]).length + j]? := by
        intro j
        have := hat (j + 1)
        simp only [List.length_append, List.length_singleton]
        rw [show dsts.length + 1 + j = dsts.length + (j + 1) by omega, ← this]
        simp
      simp only [runOps] at hr
      unfold wpList
      split at hr
      · cases hr
      · rename_i hgv
        have hw := hT.guard (ops := ops) hpre hgd.1 hgv
        rw [hw]
        simp only [Bool.false_eq_true, if_false]
        have hT' := hT.put hl hgd.2 (v := .d (.t [])) (x := undef) repT_nil
        refine seq_sound hgid hB hrl hrec l hks hr (by simp [hl]) hpre' hat' hm hS hG hT' (fun β' I' w' a' h1 h2 h3 h4 h5 => hQ β' I' w' a' h1 h2 (by simpa using h3) (by simpa using h4) (by rw [h5, put_defers]))
      · rename_i hgv
        split at hr
        · cases hr
        · rename_i v st1 hrun
          have hw := hT.guard (ops := ops) hpre hgd.1 hgv
          rw [hw]
          simp only [if_true]
          have hkept := runK_kept hrl hrun
          have hkept2 := runOps_kept hrl _ hr
          have hm1 : MayW st.base.length st1 wd := hm.back hkept2.dirty
          refine .inl ((op_sound hgid hB hrl hrec hG (hT.args hgid hG rfl rfl _) hk hrun (fun _ => hm1) hS).wp (fun x w' hp => ?_))
          obtain ⟨β1, I1, hx, hS1, hR, _⟩ := hp
          have hT1 := (hT.ext hx).put hl hgd.2 hR
          rw [← hkept.base, ← hkept.vars] at hT1
          rw [← hkept.base] at hS1
          refine seq_sound hgid hB hrl hrec l hks hr (by simp [hl]) hpre' hat' (by rw [hkept.base]; exact hm) hS1 (hG.mono hx.im hx.keepI) hT1 (fun β' I' w' a' h1 h2 h3 h4 h5 => ?_)
          rw [hkept.base] at h2 h3
          rw [hkept.vars] at h3
          exact hQ β' I' w' a' (hx.trans h1) h2 (by simpa using h3) (by simpa using h4) (by rw [h5, put_defers])
    · cases hc
end seq
end Fi
