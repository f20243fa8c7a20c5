/-
  Statements: the model does what the interpreter says.
-/
import Derived.Test.YtonmcbnjifeagaaGreatDoorFiOrd6
import Derived.LoopN
set_option linter.unusedVariables false
set_option linter.unusedSimpArgs false
namespace Fi
open Go

theorem setVars_lt {env : List FV} {dsts : List (Option Tmp)} : ∀ (ts : List Tmp) (i : Nat) (vars : List FV) {j : Nat}, j < i → (setVars vars env (outsAt dsts ts i))[j]? = vars[j]?
  | [], i, vars, j, h => rfl
  | t :: ts, i, vars, j, h => by
    simp only [outsAt]
    split
    · simp only [setVars]
      rw [setVars_lt ts (i + 1) _ (by omega), List.getElem?_set_ne (by omega)]
    · exact setVars_lt ts (i + 1) vars (by omega)

theorem setVars_at {env : List FV} {dsts : List (Option Tmp)} : ∀ (ts : List Tmp) (i : Nat) (vars : List FV) {j : Nat} {t : Tmp}, i ≤ j → ts[j - i]? = some t →
    (setVars vars env (outsAt dsts ts i))[j]? = match lastDst dsts t with | none => vars[j]? | some j' => (vars.set j (env.getD j' .u))[j]?
  | [], i, vars, j, t, h, ht => by simp at ht
  | t0 :: ts, i, vars, j, t, h, ht => by
    simp only [outsAt]
    rcases Nat.eq_or_lt_of_le h with he | hl
    · subst he
      simp only [Nat.sub_self, List.getElem?_cons_zero, Option.some.injEq] at ht
      subst ht
      split
      · rename_i g hg
        simp only [setVars, hg]
        exact setVars_lt ts (i + 1) _ (Nat.lt_succ_self i)
      · rename_i hg
        simp only [hg]
        exact setVars_lt ts (i + 1) _ (Nat.lt_succ_self i)
    · have ht' : ts[j - (i + 1)]? = some t := by
        rw [show j - i = (j - (i + 1)) + 1 by omega] at ht
        simpa using ht
      split
      · simp only [setVars]
        rw [setVars_at ts (i + 1) _ (by omega) ht']
        split
        · rw [List.getElem?_set_ne (by omega)]
        · simp [List.getElem?_set]
      · exact setVars_at ts (i + 1) vars (by omega) ht'

theorem killVars_at : ∀ (js : List Nat) (vars : List FV) {j : Nat} {y : FV}, (killVars vars js)[j]? = some y → y = .u ∨ vars[j]? = some y
  | [], vars, j, y, h => .inr h
  | i :: js, vars, j, y, h => by
    simp only [killVars] at h
    rcases killVars_at js _ h with h1 | h1
    · exact .inl h1
    · rw [List.getElem?_set] at h1
      split at h1
      · split at h1
        · cases h1; exact .inl rfl
        · cases h1
      · exact .inr h1

section tmps
variable {cx : Cx} {σ : Nat → Option FuncId} {β : Map} {I : Nat → Prop} {w : World} {n : Nat} {vars : List FV} {env : List FV} {dsts : List (Option Tmp)} {a : Act}

theorem TmpsOK.out (h : TmpsOK σ β I w n cx vars dsts env a) (hl : env.length = dsts.length) : TmpsOK σ β I w n cx (setVars vars env (outsAt dsts cx.vars 0)) [] [] a := by
  refine ⟨h.size, fun j t y h1 _ h3 => ?_, fun t j y h1 => by rw [lastDst_nil] at h1; cases h1⟩
  rw [setVars_at cx.vars 0 vars (Nat.zero_le _) (by simpa using h1)] at h3
  split at h3
  · rename_i hno
    exact h.var j t y h1 hno h3
  · rename_i j' hj'
    rw [List.getElem?_set] at h3
    simp only [if_true] at h3
    split at h3
    · cases h3
      have h4 := (List.getElem?_eq_some_iff.1 (lastDst_lt hj')).1
      have h5 : env[j']? = some (env.getD j' .u) := by
        rw [List.getD_eq_getElem?_getD, List.getElem?_eq_getElem (by omega)]; rfl
      exact h.loc t j' _ hj' h5
    · cases h3

theorem TmpsOK.kill (h : TmpsOK σ β I w n cx vars [] [] a) (js : List Nat) : TmpsOK σ β I w n cx (killVars vars js) [] [] a := by
  refine ⟨h.size, fun j t y h1 h2 h3 => ?_, h.loc⟩
  rcases killVars_at js vars h3 with h4 | h4
  · subst h4; exact .u _
  · exact h.var j t y h1 h2 h4
end tmps

def exitOf : Out → Exit
  | .norm => .normal
  | .exit id => .exit id
  | .ret => .ret

/-- The calls at one depth. -/
def recN (E : Env) (N : Nat) : Nat → List FV → List AObj → CallR := fun g args B => enter E g args B fun F st' => exec E N F st'

/-- A statement does what the interpreter says, with that much fuel. -/
def ExecOK (P : Program) (E : Env) (σ : Nat → Option FuncId) (N : Nat) : Prop :=
  ∀ (cx : Cx), (∀ f g, cx.gid f = some g → σ g = some f) → ∀ (c : Code) (F : FStmt), comp P cx c = some F → ∀ (st : St) (o : Out) (st' : St), exec E N F st = some (o, st') →
    ∀ (Wr wd : Nat → Prop) (β : Map) (I : Nat → Prop) (w : World) (a : Act) (Q : Exit → Act → World → Prop), MayW st.base.length st' wd → SimH σ st.base.length β I Wr wd (st.base ++ st.loc) w → Globs E σ I w →
      TmpsOK σ β I w st.base.length cx st.vars [] [] a →
      (∀ β' I' w' a', Ext β β' I I' Wr w w' → SimH σ st.base.length β' I' Wr wd (st'.base ++ st'.loc) w' → TmpsOK σ β' I' w' st.base.length cx st'.vars [] [] a' → a'.defers = a.defers → Q (exitOf o) a' w') →
      c.wp P Q a w

section exec
variable {P : Program} {E : Env} {σ : Nat → Option FuncId}

theorem region_exec (hm : P.follows .mixedOrders = true) (hB : Bodies P E σ) {N : Nat} (hrec : ∀ M, M < N → RecOK P E σ (recN E M)) {cx : Cx} (hgid : ∀ f g, cx.gid f = some g → σ g = some f) {id : Nat} {ops : Array Oper} {draw : Bool}
    {ks : List FOp} {ap : List (Nat × Nat)} (hc : compRegion P cx ops.toList draw = some (ks, ap)) {st st' : St} {o : Out} (hx : exec E N (.region ks (outsAt (ops.toList.map (·.dst)) cx.vars 0) ap) st = some (o, st')) :
    o = .norm ∧ ∀ (Wr wd : Nat → Prop) (β : Map) (I : Nat → Prop) (w : World) (a : Act) (Q : Exit → Act → World → Prop), MayW st.base.length st' wd → SimH σ st.base.length β I Wr wd (st.base ++ st.loc) w → Globs E σ I w →
      TmpsOK σ β I w st.base.length cx st.vars [] [] a →
      (∀ β' I' w' a', Ext β β' I I' Wr w w' → SimH σ st.base.length β' I' Wr wd (st'.base ++ st'.loc) w' → TmpsOK σ β' I' w' st.base.length cx st'.vars [] [] a' → a'.defers = a.defers → Q .normal a' w') →
      (Code.region id ops draw).wp P Q a w := by
  cases N with
  | zero => simp [exec] at hx
  | succ N =>
    simp only [exec] at hx
    split at hx
    · rename_i hap
      split at hx
      · rename_i st1 ev hr
        simp only [Option.some.injEq, Prod.mk.injEq] at hx
        obtain ⟨rfl, rfl⟩ := hx
        refine ⟨rfl, fun Wr wd β I w a Q hmw hS hG hT hQ => ?_⟩
        have hk := runOps_kept (rec_len E N) _ hr
        refine region_sound hm hgid hB (rec_len E N) (hrec N (Nat.lt_succ_self N)) hc hap hr hmw hS hG hT (fun β' I' w' a' h1 h2 h3 h4 h5 => hQ β' I' w' a' h1 h2 ?_ h5)
        have := h3.out (by rw [h4, List.length_map])
        simp only [hk.vars]
        exact this
      · cases hx
    · cases hx

theorem exec_sound (hm : P.follows .mixedOrders = true) (hB : Bodies P E σ) (N : Nat) (hrec : ∀ M, M < N → RecOK P E σ (recN E M)) : ∀ M, M ≤ N → ExecOK P E σ M := by
  intro M
  induction M with
  | zero => intro _ cx hgid c F hc st o st' hx; simp [exec] at hx
  | succ M ih =>
    intro hMN cx hgid c F hc st o st' hx Wr wd β I w a Q hmw hS hG hT hQ
    have ih := ih (by omega)
    -- a step, and then another
    have chain : ∀ {c1 : Code} {F1 : FStmt} {st1 : St} {o1 : Out} {Q1 : Exit → Act → World → Prop}, comp P cx c1 = some F1 → exec E M F1 st = some (o1, st1) → (st1.dirty = true → st'.dirty = true) →
        (∀ β' I' w' a', Ext β β' I I' Wr w w' → SimH σ st1.base.length β' I' Wr wd (st1.base ++ st1.loc) w' → Globs E σ I' w' → TmpsOK σ β' I' w' st1.base.length cx st1.vars [] [] a' → a'.defers = a.defers → Q1 (exitOf o1) a' w') → c1.wp P Q1 a w := by
      intro c1 F1 st1 o1 Q1 h1 h2 h3 h4
      have hk := exec_kept E M _ _ _ _ h2
      refine ih cx hgid c1 F1 h1 st o1 st1 h2 Wr wd β I w a Q1 (hmw.back h3) hS hG hT (fun β' I' w' a' e1 e2 e3 e4 => h4 β' I' w' a' e1 ?_ (hG.mono e1.im e1.keepI) ?_ e4)
      · rw [hk.base]; exact e2
      · rw [hk.base]; exact e3
    -- and the other
    have next : ∀ {c1 : Code} {F1 : FStmt} {st1 : St} {o1 : Out} {Q1 : Exit → Act → World → Prop} {β1 : Map} {I1 : Nat → Prop} {w1 : World} {a1 : Act}, comp P cx c1 = some F1 → exec E M F1 st1 = some (o1, st') → st1.base.length = st.base.length →
        Ext β β1 I I1 Wr w w1 → SimH σ st1.base.length β1 I1 Wr wd (st1.base ++ st1.loc) w1 → Globs E σ I1 w1 → TmpsOK σ β1 I1 w1 st1.base.length cx st1.vars [] [] a1 → a1.defers = a.defers →
        (∀ β' I' w' a', Ext β β' I I' Wr w w' → SimH σ st.base.length β' I' Wr wd (st'.base ++ st'.loc) w' → TmpsOK σ β' I' w' st.base.length cx st'.vars [] [] a' → a'.defers = a.defers → Q1 (exitOf o1) a' w') → c1.wp P Q1 a1 w1 := by
      intro c1 F1 st1 o1 Q1 β1 I1 w1 a1 h1 h2 h3 h4 h5 h6 h7 h8 h9
      refine ih cx hgid c1 F1 h1 st1 o1 st' h2 Wr wd β1 I1 w1 a1 Q1 (by rw [h3]; exact hmw) h5 h6 h7 (fun β' I' w' a' e1 e2 e3 e4 => h9 β' I' w' a' (h4.trans e1) ?_ ?_ (e4.trans h8))
      · rw [← h3]; exact e2
      · rw [← h3]; exact e3
    cases c <;> simp only [comp] at hc
    case skip =>
      cases hc
      simp only [exec, Option.some.injEq, Prod.mk.injEq] at hx
      obtain ⟨rfl, rfl⟩ := hx
      exact wp_skip (hQ β I w a (Ext.refl _ _ _ _) hS hT rfl)
    case region id ops draw =>
      split at hc
      · rename_i ks ap hks
        split at hc
        · cases hc
          obtain ⟨rfl, hmain⟩ := region_exec (id := id) hm hB (fun M' h => hrec M' (by omega)) hgid hks hx
          exact hmain Wr wd β I w a Q hmw hS hG hT hQ
        · rename_i js _
          cases hc
          simp only [exec] at hx
          split at hx
          · rename_i st1 hx1
            obtain ⟨_, hmain⟩ := region_exec (id := id) hm hB (fun M' h => hrec M' (by omega)) hgid hks hx1
            cases M with
            | zero => simp [exec] at hx
            | succ M =>
              simp only [exec, Option.some.injEq, Prod.mk.injEq] at hx
              obtain ⟨rfl, rfl⟩ := hx
              exact hmain Wr wd β I w a Q hmw hS hG hT (fun β' I' w' a' h1 h2 h3 h4 => hQ β' I' w' a' h1 h2 (h3.kill _) h4)
          · rename_i hne
            obtain ⟨rfl, _⟩ := region_exec (id := id) hm hB (fun M' h => hrec M' (by omega)) hgid hks hx
            exact absurd hx (hne _)
      · cases hc
    case seq x y =>
      split at hc
      · rename_i F1 F2 hF1 hF2
        cases hc
        simp only [exec] at hx
        split at hx
        · rename_i st1 hx1
          have hk := exec_kept E M _ _ _ _ hx
          have hk1 := exec_kept E M _ _ _ _ hx1
          exact wp_seq (chain hF1 hx1 hk.dirty (fun β1 I1 w1 a1 e1 e2 e3 e4 e5 => next hF2 hx hk1.base e1 e2 e3 e4 e5 hQ))
        · rename_i r hne
          refine wp_seq (chain hF1 hx (fun h => h) (fun β1 I1 w1 a1 e1 e2 e3 e4 e5 => ?_))
          have hk1 := exec_kept E M _ _ _ _ hx
          rw [hk1.base] at e2 e4
          cases o with
          | norm => exact absurd hx (hne _)
          | exit id => exact hQ β1 I1 w1 a1 e1 e2 e4 e5
          | ret => exact hQ β1 I1 w1 a1 e1 e2 e4 e5
      · cases hc
    case cond x c1 c2 =>
      split at hc
      · rename_i y F1 F2 hy hF1 hF2
        cases hc
        simp only [exec] at hx
        split at hx
        · rename_i t ht
          have hr := hT.args (P := P) hgid hG (st := st) rfl rfl [x] _ x y _ (by simp) hy ht
          have hev : a.eval x = .bool t := by
            generalize hz : a.eval x = z at hr
            cases hr with | d hr => cases hr; rfl
          refine wp_cond hev ?_
          cases t
          · exact chain hF2 hx (fun h => h) (fun β1 I1 w1 a1 e1 e2 e3 e4 e5 => by
              have hk1 := exec_kept E M _ _ _ _ hx
              rw [hk1.base] at e2 e4
              exact hQ β1 I1 w1 a1 e1 e2 e4 e5)
          · exact chain hF1 hx (fun h => h) (fun β1 I1 w1 a1 e1 e2 e3 e4 e5 => by
              have hk1 := exec_kept E M _ _ _ _ hx
              rw [hk1.base] at e2 e4
              exact hQ β1 I1 w1 a1 e1 e2 e4 e5)
        · cases hx
      · cases hc
    case block id c1 =>
      split at hc
      · rename_i F1 hF1
        cases hc
        simp only [exec] at hx
        split at hx
        · rename_i id' st1 hx1
          have hk1 := exec_kept E M _ _ _ _ hx1
          refine wp_block (chain hF1 hx1 (fun h => by split at hx <;> (cases hx; exact h)) (fun β1 I1 w1 a1 e1 e2 e3 e4 e5 => ?_))
          rw [hk1.base] at e2 e4
          simp only [exitOf, Exit.inBlock]
          split at hx <;> rename_i hid <;> simp only [Option.some.injEq, Prod.mk.injEq] at hx <;> obtain ⟨rfl, rfl⟩ := hx
          · rw [if_pos hid]; exact hQ β1 I1 w1 a1 e1 e2 e4 e5
          · rw [if_neg hid]; exact hQ β1 I1 w1 a1 e1 e2 e4 e5
        · rename_i hne
          have hk1 := exec_kept E M _ _ _ _ hx
          refine wp_block (chain hF1 hx (fun h => h) (fun β1 I1 w1 a1 e1 e2 e3 e4 e5 => ?_))
          rw [hk1.base] at e2 e4
          cases o with
          | norm => exact hQ β1 I1 w1 a1 e1 e2 e4 e5
          | exit id' => exact absurd hx (hne _ _)
          | ret => exact hQ β1 I1 w1 a1 e1 e2 e4 e5
      · cases hc
    case loop c1 =>
      split at hc
      · rename_i F1 hF1
        cases hc
        -- rounds, by fuel
        have rounds : ∀ K, K ≤ M + 1 → ∀ (st1 : St) (β1 : Map) (I1 : Nat → Prop) (w1 : World) (a1 : Act), exec E K (.loop F1) st1 = some (o, st') → st1.base.length = st.base.length → Ext β β1 I I1 Wr w w1 →
            SimH σ st1.base.length β1 I1 Wr wd (st1.base ++ st1.loc) w1 → Globs E σ I1 w1 → TmpsOK σ β1 I1 w1 st1.base.length cx st1.vars [] [] a1 → a1.defers = a.defers → Code.rounds P c1 Q K a1 w1 := by
          intro K
          induction K with
          | zero => intro _ st1 β1 I1 w1 a1 h1; simp [exec] at h1
          | succ K ihK =>
            intro hK st1 β1 I1 w1 a1 h1 h2 h3 h4 h5 h6 h7
            have hE : ExecOK P E σ K := exec_sound hm hB K (fun M' h => hrec M' (by omega)) K (Nat.le_refl _)
            simp only [exec] at h1
            rw [rounds_succ]
            split at h1
            · rename_i st2 hx1
              have hk2 := exec_kept E K _ _ _ _ h1
              have hk1 := exec_kept E K _ _ _ _ hx1
              refine hE cx hgid c1 F1 hF1 st1 _ st2 hx1 Wr wd β1 I1 w1 a1 _ ?_ h4 h5 h6 (fun β' I' w' a' e1 e2 e3 e4 => ?_)
              · rw [h2]; exact hmw.back hk2.dirty
              · exact ihK (by omega) st2 β' I' w' a' h1 (hk1.base.trans h2) (h3.trans e1) (by rw [hk1.base]; exact e2) (h5.mono e1.im e1.keepI) (by rw [hk1.base]; exact e3) (e4.trans h7)
            · rename_i hne
              refine hE cx hgid c1 F1 hF1 st1 _ st' h1 Wr wd β1 I1 w1 a1 _ (by rw [h2]; exact hmw) h4 h5 h6 (fun β' I' w' a' e1 e2 e3 e4 => ?_)
              rw [h2] at e2 e3
              cases o with
              | norm => exact absurd h1 (hne _)
              | exit id' => exact hQ β' I' w' a' (h3.trans e1) e2 e3 (e4.trans h7)
              | ret => exact hQ β' I' w' a' (h3.trans e1) e2 e3 (e4.trans h7)
        exact wp_loop_rounds (M + 1) (rounds (M + 1) (Nat.le_refl _) st β I w a hx rfl (Ext.refl _ _ _ _) hS hG hT rfl)
      · cases hc
    case exit id =>
      cases hc
      simp only [exec, Option.some.injEq, Prod.mk.injEq] at hx
      obtain ⟨rfl, rfl⟩ := hx
      exact wp_exit (hQ β I w a (Ext.refl _ _ _ _) hS hT rfl)
    case ret =>
      cases hc
      simp only [exec, Option.some.injEq, Prod.mk.injEq] at hx
      obtain ⟨rfl, rfl⟩ := hx
      exact wp_ret (hQ β I w a (Ext.refl _ _ _ _) hS hT rfl)
    all_goals cases hc
end exec
end Fi
