/-
  Every operation: what the interpreter says, the model does.
-/
import Derived.Test.YtonmcbnjifeagaaGreatDoorFiCall3
set_option linter.unusedVariables false
set_option linter.unusedSimpArgs false
namespace Fi
open Go

theorem RepC.append {σ : Nat → Option FuncId} {β : Map} {I : Nat → Prop} {w : World} {n : Nat} {a b : List FV} {xs ys : List Value} (h : RepC σ β I w n a xs) (k : RepC σ β I w n b ys) : RepC σ β I w n (a ++ b) (xs ++ ys) := by
  refine ⟨by rw [List.length_append, List.length_append, h.1, k.1], fun i c x hc hx => ?_⟩
  rcases Nat.lt_or_ge i a.length with hl | hl
  · rw [List.getElem?_append_left hl] at hc
    rw [List.getElem?_append_left (by rw [h.1]; exact hl)] at hx
    exact h.2 i c x hc hx
  · rw [List.getElem?_append_right hl] at hc
    rw [List.getElem?_append_right (by rw [h.1]; exact hl), h.1] at hx
    exact k.2 _ c x hc hx

section step
variable {P : Program} {E : Env} {cx : Cx} {σ : Nat → Option FuncId} {β : Map} {I Wr : Nat → Prop} {wd : Nat → Prop} {w : World} {st st' : St} {env : List FV} {dsts : List (Option Tmp)} {ρ : Operand → Value}
variable {rec : Nat → List FV → List AObj → CallR} {draw : Bool} {k : K} {v : FV} {o : Oper}

/-- The functions that are known have bodies. -/
def Bodies (P : Program) (E : Env) (σ : Nat → Option FuncId) : Prop := ∀ g f, Given E g → σ g = some f → ∃ fn c, P.funcs[f]? = some fn ∧ fn.body = some c ∧ (fn.name == "runtime.NumGoroutine") = false

theorem run_callFunc {f : FuncId} {fn : Func} {c : Code} {args : Array Value} (h1 : P.funcs[f]? = some fn) (h2 : fn.body = some c) (h3 : (fn.name == "runtime.NumGoroutine") = false) (w : World) :
    (callFunc f args).run P w = .ok (.enter f args) w := by
  unfold callFunc
  have h4 : ¬ fn.name = "runtime.NumGoroutine" := by simpa using h3
  simp [h1, h2, h4]

theorem y_call {c : Call} {x : Operand} {f : FuncId} {first captured : Array Value} (ho : o.op = .call c) (hcl : c.callee = .value x) (hx : ρ x = .func (.func f) first captured) {fn : Func} {b : Code}
    (h1 : P.funcs[f]? = some fn) (h2 : fn.body = some b) (h3 : (fn.name == "runtime.NumGoroutine") = false) {Φ : Value → World → Prop}
    (h : Calls P f (first ++ c.args.map ρ ++ captured) w fun e w' => ∃ x, e = .returned x ∧ Φ x w') : Yields P o ρ w Φ := by
  have he : (execOp ρ o).run P w = .ok (.enter f (first ++ c.args.map ρ ++ captured)) w := by
    simp [execOp, ho, resolve, hcl, hx, Deferred.ofValue, invoke, run_callFunc h1 h2 h3]
  unfold Yields
  rw [he]
  exact h

theorem s_call {c : Call} {x : Operand} (ho : o.op = .call c) (hcl : c.callee = .value x) (hcst : ∀ f, ρ (.func f) = .func (.func f) #[] #[]) (hgid : ∀ f g, cx.gid f = some g → σ g = some f) (hB : Bodies P E σ)
    (hrl : RecLen rec) (hrec : RecOK P E σ rec) (hG : Globs E σ I w)
    (hc : compOp P cx dsts o = some k) (hk : runK E rec draw st env k = some (v, st')) (hdt : k.loud draw = true → MayW st.base.length st' wd) (hS : SimH σ st.base.length β I Wr wd (st.base ++ st.loc) w) (hA : ArgsOK P E cx σ β I w st env dsts ρ (x :: c.args.toList)) :
    Yields P o ρ w (Post σ st.base.length (st.base ++ st.loc).length β I Wr wd w st' v) := by
  simp only [compOp, ho, hcl] at hc
  split at hc
  · rename_i f hf
    cases hf
    split at hc <;> simp at hc
    subst hc
    rename_i g as hg has
    simp only [runK] at hk
    split at hk
    · rename_i fs hfs
      obtain ⟨fn, b, h1, h2, h3⟩ := hB g f (doCall_given hrec hk) (hgid _ _ hg)
      refine y_call ho hcl (hcst f) h1 h2 h3 ?_
      have hL := args_list hA (fun _ h => List.mem_cons_of_mem _ h) has hfs
      exact doCall_sound hrl hrec hS hG (hgid _ _ hg) (by simpa using hL) hk (fun hd => hdt (by simp [K.loud, hd]))
    · cases hk
  · rename_i x' hne hf
    cases hf
    split at hc <;> simp at hc
    subst hc
    rename_i a as ha has
    simp only [runK] at hk
    split at hk
    · rename_i g xs hfv hfs
      have hr := hA _ x a _ (by simp) ha hfv
      cases hr with
      | d hr =>
        generalize hρ : ρ x = z at hr
        cases hr with
        | fn hσ =>
          obtain ⟨fn, b, h1, h2, h3⟩ := hB _ _ (doCall_given hrec hk) hσ
          refine y_call ho hcl hρ h1 h2 h3 ?_
          have hL := args_list hA (fun _ h => List.mem_cons_of_mem _ h) has hfs
          exact doCall_sound hrl hrec hS hG hσ (by simpa using hL) hk (fun hd => hdt (by simp [K.loud, hd]))
    · rename_i g first captured xs hfv hfs
      have hr := hA _ x a _ (by simp) ha hfv
      generalize hρ : ρ x = z at hr
      cases hr with
      | @f _ kk _ _ vs us hσ e1 e2 hv hu =>
        obtain ⟨fn, b, h1, h2, h3⟩ := hB _ _ (doCall_given hrec hk) hσ
        refine y_call ho hcl hρ h1 h2 h3 ?_
        have hL := args_list hA (fun _ h => List.mem_cons_of_mem _ h) has hfs
        refine doCall_sound hrl hrec hS hG hσ ?_ hk (fun hd => hdt (by simp [K.loud, hd]))
        simp only [Array.toList_append, Array.toList_map]
        have r1 : RepC σ β I w st.base.length first vs.toList := ⟨by simpa using e1, fun i c x h1 h2 => hv i c x h1 (by simpa using h2)⟩
        have r2 : RepC σ β I w st.base.length captured us.toList := ⟨by simpa using e2, fun i c x h1 h2 => hu i c x h1 (by simpa using h2)⟩
        exact RepC.append (RepC.append r1 hL) r2
    · cases hk
  · simp_all
  · simp_all
end step
end Fi
