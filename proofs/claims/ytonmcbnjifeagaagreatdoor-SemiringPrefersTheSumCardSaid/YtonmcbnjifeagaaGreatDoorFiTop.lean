/-
  Calls: the model does what the interpreter says.
-/
import Derived.Test.YtonmcbnjifeagaaGreatDoorFiExec
set_option linter.unusedVariables false
set_option linter.unusedSimpArgs false
namespace Fi
open Go

/-- The functions that are given as F-code are the program's. -/
def FnsOK (P : Program) (E : Env) (σ : Nat → Option FuncId) : Prop :=
  ∀ g F, E.fn g = some F → ∀ f, σ g = some f → ∃ fn cx, P.funcs[f]? = some fn ∧ compFunc P cx fn = some F ∧ ∀ f' g', cx.gid f' = some g' → σ g' = some f'

/-- The functions that are given by what they answer. -/
def PrimsOK (P : Program) (E : Env) (σ : Nat → Option FuncId) : Prop :=
  ∀ g p, E.prim g = some p → ∀ args ds v, allD args = some ds → p ds = some v → CallOK P E σ g args [] (.d v, none)

theorem mapM_run {P : Program} {w : World} {α β : Type} {g : α → Sem β} : ∀ {l : List α} {vs : List β}, vs.length = l.length → (∀ (i : Nat) (x : α) (v : β), l[i]? = some x → vs[i]? = some v → (g x).run P w = .ok v w) → (l.mapM g).run P w = .ok vs w
  | [], [], _, _ => rfl
  | [], _ :: _, h, _ => by simp at h
  | _ :: _, [], h, _ => by simp at h
  | x :: l, v :: vs, h, hg => by
    rw [List.mapM_cons]
    have h1 := hg 0 x v rfl rfl
    have h2 := mapM_run (g := g) (l := l) (vs := vs) (by simpa using h) (fun i y u hy hu => hg (i + 1) y u (by simpa using hy) (by simpa using hu))
    simp only [Sem.run_bind, h1, Result.andThen_ok, h2, Sem.run_pure]

def oneVal (vs : List Value) : Value := match vs with
  | [v] => v
  | vs => .tuple vs.toArray

section top
variable {P : Program} {E : Env} {σ : Nat → Option FuncId}

/-- What a result variable holds. -/
def ResAt (P : Program) (tmps : Array Value) (w : World) (rv : ResultVar) (v : Value) : Prop :=
  match rv with
  | .tmp t => v = tmps.getD t undef
  | .cell t ty => ∃ ad, tmps.getD t undef = .pointer (some ad) ∧ (loadVar ty ad).run P w = .ok v w

theorem results_run {fn : Func} {tmps : Array Value} {w : World} {vs : List Value} (hl : vs.length = fn.results.toList.length) (h : ∀ (i : Nat) (rv : ResultVar) (v : Value), fn.results.toList[i]? = some rv → vs[i]? = some v → ResAt P tmps w rv v) :
    (results fn tmps).run P w = .ok (oneVal vs) w := by
  unfold results
  rw [Array.mapM_eq_mapM_toList]
  simp only [Sem.run_bind, Sem.run_map, Sem.run_pure]
  rw [mapM_run hl (fun i rv v h1 h2 => ?_)]
  · simp only [Result.andThen_ok]
    congr 1
    match vs with
    | [] => rfl
    | [v] => rfl
    | _ :: _ :: _ => simp [oneVal]
  · have := h i rv v h1 h2
    cases rv with
    | tmp t => simp only [ResAt] at this; subst this; rfl
    | cell t ty =>
      obtain ⟨ad, h3, h4⟩ := this
      simp only [h3, asAddr, Sem.run_bind, Sem.run_pure, Result.andThen_ok]
      exact h4

theorem res_spec {cx : Cx} {β : Map} {I Wr wd : Nat → Prop} {w : World} {st : St} {a : Act} (hS : SimH σ st.base.length β I Wr wd (st.base ++ st.loc) w) (hT : TmpsOK σ β I w st.base.length cx st.vars [] [] a) :
    ∀ {l : List ResultVar} {rs : List Res} {xs : List FV}, compRes P cx l = some rs → ressV st rs = some xs →
      ∃ vs : List Value, vs.length = l.length ∧ (∀ (i : Nat) (rv : ResultVar) (v : Value), l[i]? = some rv → vs[i]? = some v → ResAt P a.tmps w rv v) ∧ RepC σ β I w st.base.length xs vs
  | [], rs, xs, hc, hv => by
    simp [compRes] at hc; subst hc
    simp [ressV] at hv; subst hv
    exact ⟨[], rfl, fun i rv v h => by simp at h, rfl, fun i c x h => by simp at h⟩
  | .tmp t :: l, rs, xs, hc, hv => by
    simp only [compRes] at hc
    split at hc <;> simp at hc
    subst hc
    rename_i j s hj hs
    simp only [ressV] at hv
    split at hv <;> simp at hv
    subst hv
    rename_i y ys hy hys
    obtain ⟨vs, g1, g2, g3⟩ := res_spec hS hT hs hys
    simp only [resV] at hy
    have hr := hT.var j t y (idxOf?_some hj) (lastDst_nil _) hy
    refine ⟨a.tmps.getD t undef :: vs, by simp [g1], fun i rv v h1 h2 => ?_, by simp [g3.1], fun i c x h1 h2 => ?_⟩
    · cases i with
      | zero => simp at h1 h2; subst h1; subst h2; simp [ResAt]
      | succ i => exact g2 i rv v (by simpa using h1) (by simpa using h2)
    · cases i with
      | zero =>
        simp only [List.getElem?_cons_zero, Option.some.injEq] at h1 h2
        subst h1; subst h2; exact hr
      | succ i => exact g3.2 i c x (by simpa using h1) (by simpa using h2)
  | .cell t ty :: l, rs, xs, hc, hv => by
    simp only [compRes] at hc
    split at hc <;> simp at hc
    subst hc
    rename_i j g m s hj hg hm hs
    simp only [ressV] at hv
    split at hv <;> simp at hv
    subst hv
    rename_i y ys hy hys
    obtain ⟨vs, g1, g2, g3⟩ := res_spec hS hT hs hys
    simp only [resV] at hy
    split at hy
    · rename_i q off hq
      split at hy
      · rename_i cs hbox
        have hr := hT.var j t _ (idxOf?_some hj) (lastDst_nil _) hq
        generalize hz : a.eval (.tmp t) = z at hr
        cases hr with
        | @r _ _ b bo cap hβ =>
          rw [St.heap_eq] at hbox
          obtain ⟨rfl, c, e, h1, h2, h3⟩ := hS.box _ cs b bo cap hbox hβ
          obtain ⟨v, h4, h5⟩ := load_box hg hm h1 h2 h3 hy
          refine ⟨v :: vs, by simp [g1], fun i rv u h6 h7 => ?_, by simp [g3.1], fun i c x h6 h7 => ?_⟩
          · cases i with
            | zero =>
              simp only [List.getElem?_cons_zero, Option.some.injEq] at h6 h7
              subst h6; subst h7
              exact ⟨_, hz, by simpa using h4⟩
            | succ i => exact g2 i rv u (by simpa using h6) (by simpa using h7)
          · cases i with
            | zero =>
              simp only [List.getElem?_cons_zero, Option.some.injEq] at h6 h7
              subst h6; subst h7; exact h5
            | succ i => exact g3.2 i c x (by simpa using h6) (by simpa using h7)
      · cases hy
    · cases hy

theorem oneOf_rep {β : Map} {I : Nat → Prop} {w : World} {n : Nat} {ys : List FV} {vs : List Value} (h : RepC σ β I w n ys vs) : RepF σ β I w n (oneOf ys) (oneVal vs) := by
  match ys, vs, h with
  | [y], [v], h => exact h.2 0 y v rfl rfl
  | [], [], h => exact RepF.mkT (cs := []) (vs := #[]) rfl (fun i c x h => by simp at h)
  | _ :: _ :: _, _ :: _ :: _, h =>
    simp only [oneOf, oneVal]
    exact RepF.mkT (by simpa using h.1) (fun i c x h1 h2 => h.2 i c x h1 (by simpa using h2))
  | [], _ :: _, h => exact absurd h.1 (by simp)
  | [_], [], h => exact absurd h.1 (by simp)
  | [_], _ :: _ :: _, h => exact absurd h.1 (by simp)
  | _ :: _ :: _, [], h => exact absurd h.1 (by simp)
  | _ :: _ :: _, [_], h => exact absurd h.1 (by simp)

/-- A body, run from its call on. -/
theorem body_sound {N : Nat} (hE : ExecOK P E σ N) {f : FuncId} {fn : Func} {cx : Cx} {F : FFunc} (hf : P.funcs[f]? = some fn) (hc : compFunc P cx fn = some F) (hgid : ∀ f' g', cx.gid f' = some g' → σ g' = some f') {args : List FV} {B : List AObj}
    (hnp : args.length = F.np) {o : Out} {st' : St} (hx : exec E N F.body { vars := args ++ List.replicate (F.nv - F.np) .u, base := B, loc := [], dirty := false } = some (o, st')) (ho : ∀ id, o ≠ .exit id) {xs : List FV} (hres : ressV st' F.res = some xs)
    {Wr wd : Nat → Prop} {β : Map} {I : Nat → Prop} {w : World} {vargs : Array Value} (hmw : MayW B.length st' wd) (hS : SimH σ B.length β I Wr wd B w) (hA : RepC σ β I w B.length args vargs.toList) (hG : Globs E σ I w) {R : Ending → World → Prop}
    (hR : ∀ β' I' w' vs, Ext β β' I I' Wr w w' → SimH σ st'.base.length β' I' Wr wd (st'.base ++ st'.loc) w' → RepC σ β' I' w' st'.base.length xs vs → R (.returned (oneVal vs)) w') :
    Calls P f vargs w R := by
  unfold compFunc at hc
  split at hc
  · cases hc
  · rename_i c hb
    split at hc
    · rename_i b rs hcb hcr
      simp only at hc
      split at hc <;> simp only [Option.some.injEq, reduceCtorEq] at hc
      subst hc
      rename_i hh
      obtain ⟨h1, h2, h3, h4⟩ := hh
      have hvs : vargs.size = fn.params.size + fn.nfree := by
        have := hA.1
        simp only [Array.length_toList] at this
        rw [this]; exact hnp
      simp only at hnp hx
      have hlt : ∀ j, j < fn.params.size + fn.nfree → cx.vars[j]? = some j := by
        intro j hj
        have h5 : (cx.vars.take (fn.params.size + fn.nfree))[j]? = some j := by rw [h1, List.getElem?_range hj]
        rw [List.getElem?_take, if_pos hj] at h5
        exact h5
      have hle : fn.params.size + fn.nfree ≤ fn.ntmps := by
        rcases Nat.eq_zero_or_pos (fn.params.size + fn.nfree) with h0 | h0
        · omega
        · have h5 := hlt (fn.params.size + fn.nfree - 1) (by omega)
          have h6 : fn.params.size + fn.nfree - 1 < cx.ntmps := by simpa using List.all_eq_true.1 h4 _ (List.mem_of_getElem? h5)
          rw [h3] at h6
          omega
      refine calls_of_wp hf hb ?_
      have hk := exec_kept E N _ _ _ _ hx
      refine hE cx hgid c b hcb _ o st' hx Wr wd β I w _ _ hmw (by simpa using hS) hG ⟨?_, fun j t y h5 _ h6 => ?_, fun t j y h5 => by rw [lastDst_nil] at h5; cases h5⟩ (fun β' I' w' a' e1 e2 e3 e4 => ?_)
      · simp only [Array.size_append, Array.size_replicate]
        omega
      · rcases Nat.lt_or_ge j (fn.params.size + fn.nfree) with hj | hj
        · rw [hlt j hj] at h5
          cases h5
          rw [List.getElem?_append_left (by omega)] at h6
          have h7 : vargs.toList[j]? = some (vargs[j]'(by omega)) := by rw [Array.getElem?_toList, Array.getElem?_eq_getElem (by omega)]
          have h8 := hA.2 j y _ h6 h7
          have h9 : (Act.eval { tmps := vargs ++ Array.replicate (fn.ntmps - vargs.size) undef, defers := [] } (.tmp j)) = vargs[j]'(by omega) := by
            simp only [Act.eval, Array.getD_eq_getD_getElem?]
            rw [Array.getElem?_append_left (by omega), Array.getElem?_eq_getElem (by omega)]
            rfl
          rw [h9]
          exact h8
        · rw [List.getElem?_append_right (by omega), List.getElem?_replicate] at h6
          split at h6
          · cases h6; exact .u _
          · cases h6
      · rw [← hk.base] at e2 e3
        obtain ⟨vs, g1, g2, g3⟩ := res_spec (P := P) e2 e3 hcr hres
        have hend : a'.defers = [] ∧ ∃ v, (results fn a'.tmps).run P w' = .ok v w' ∧ R (.returned v) w' := ⟨e4, _, results_run g1 g2, hR β' I' w' vs e1 e2 g3⟩
        cases o with
        | norm => exact hend
        | ret => exact hend
        | exit id => exact absurd rfl (ho id)
    · cases hc

theorem finish_inv {F : FFunc} {st : St} {r : FV × Option (List AObj)} (h : finish F st = some r) : ∃ xs ys, ressV st F.res = some xs ∧ leavesL st xs = some ys ∧ r = finish2 (oneOf ys) (freezeAll st (xs.flatMap FV.rows)) := by
  unfold finish at h
  split at h
  · cases h
  · rename_i xs hxs
    split at h
    · cases h
    · rename_i ys hys
      cases h
      exact ⟨xs, ys, hxs, hys, rfl⟩

theorem call_sound (hF : FnsOK P E σ) (hP : PrimsOK P E σ) {N : Nat} (hE : ExecOK P E σ N) : RecOK P E σ (recN E N) := by
  intro g args B r hr
  have hgiven : Given E g := by
    have hr := hr
    unfold recN enter at hr
    split at hr
    · rename_i p hp; exact .inr (by rw [hp]; rfl)
    · split at hr
      · cases hr
      · rename_i F hFn; exact .inl (by rw [hFn]; rfl)
  refine ⟨hgiven, ?_⟩
  unfold recN enter at hr
  split at hr
  · rename_i p hp
    split at hr
    · rename_i ds hds
      split at hr
      · rename_i v hv
        cases hr
        exact hP g p hp args ds v hds hv
      · cases hr
    · cases hr
  · split at hr
    · cases hr
    · rename_i F hFn
      split at hr
      · rename_i hnp
        split at hr
        · cases hr
        · rename_i o st' hne hx
          have ho : ∀ id, o ≠ .exit id := fun id e => hne id e
          obtain ⟨xs, ys, h1, h2, h3⟩ := finish_inv hr
          have hk := exec_kept E N _ _ _ _ hx
          have hkf := Kept.freezeAll (xs.flatMap FV.rows) st'
          unfold finish2 at h3
          split at h3
          · rename_i hpd
            simp only [Bool.and_eq_true, Bool.not_eq_true'] at hpd
            subst h3
            intro f hσ β I w vargs hS hA hG
            obtain ⟨fn, cx, hf, hc, hgid⟩ := hF g F hFn f hσ
            have hnd : st'.dirty = false := by
              cases hd : st'.dirty with
              | false => rfl
              | true => rw [hkf.dirty hd] at hpd; exact absurd hpd.2 (by simp)
            refine body_sound hE hf hc hgid hnp hx ho h1 ⟨fun k h => h, fun hd => by rw [hnd] at hd; cases hd⟩ hS hA hG (fun β' I' w' vs e1 e2 e3 => ?_)
            obtain ⟨I1, hfz⟩ := frozen_all (xs.flatMap FV.rows) e2
            have hl := oneOf_rep (leavesL_spec e2 h2 e3 hfz.im (hfz.rowsIn e2))
            obtain ⟨z, hz⟩ : ∃ z, oneOf ys = .d z := by
              cases hy : oneOf ys <;> rw [hy] at hpd <;> simp [isPure] at hpd
              exact ⟨_, rfl⟩
            rw [hz] at hl
            cases hl with
            | d hl =>
              refine ⟨oneVal vs, z, I1, rfl, hz, hl, fun b hb => hfz.im b (e1.im b hb), fun b hb => ?_, hfz.sim.ilt, e1.size, fun b hb => e1.keepW b hb (by omega), e1.os, e1.tape, e1.output⟩
              rcases hfz.inew b hb with h | ⟨k, o', bo, cap, h4, h5, h6⟩
              · exact e1.inew b h
              · rcases h6 with h6 | h6
                · rw [h6] at hpd; exact absurd hpd.2 (by simp)
                · exact .inr ((e2.wr k o' b bo cap h4 h5).1 (by rw [hk.base] at h6; exact h6))
          · subst h3
            intro f hσ β I Wr w vargs hS hA hG
            obtain ⟨fn, cx, hf, hc, hgid⟩ := hF g F hFn f hσ
            refine body_sound hE hf hc hgid hnp hx ho h1 ⟨fun _ _ => trivial, fun _ _ => trivial⟩ hS hA hG (fun β' I' w' vs e1 e2 e3 => ?_)
            obtain ⟨I1, hfz⟩ := frozen_all (xs.flatMap FV.rows) e2
            have hl := oneOf_rep (leavesL_spec e2 h2 e3 hfz.im (hfz.rowsIn e2))
            refine ⟨oneVal vs, β', I1, rfl, ?_, fun n' wd' => ?_, fun n' => ?_⟩
            · refine ⟨e1.bm, fun b hb => hfz.im b (e1.im b hb), fun b hb => ?_, e1.size, e1.keepI, e1.keepW, e1.os, e1.tape, e1.output⟩
              rcases hfz.inew b hb with h | ⟨k, o', bo, cap, h4, h5, _⟩
              · exact e1.inew b h
              · exact .inr ((e2.wr k o' b bo cap h4 h5).1 trivial)
            · rw [hkf.base]
              exact hfz.sim.old hfz.sim.wnew (fun k o' b bo cap h4 h5 _ => (hfz.sim.wr k o' b bo cap h4 h5).1 trivial)
            · rw [hkf.base]
              exact hl.toOld n'
        · cases hr
      · cases hr

/-- All calls, at every depth. -/
theorem recs_sound (hm : P.follows .mixedOrders = true) (hB : Bodies P E σ) (hF : FnsOK P E σ) (hP : PrimsOK P E σ) (N : Nat) : RecOK P E σ (recN E N) := by
  induction N using Nat.strongRecOn with
  | ind N ih => exact call_sound hF hP (exec_sound hm hB N ih N (Nat.le_refl _))

/-- A call with data alone: what the interpreter answers, the program answers. -/
theorem run_sound (hm : P.follows .mixedOrders = true) (hB : Bodies P E σ) (hF : FnsOK P E σ) (hP : PrimsOK P E σ) {N g : Nat} {args : List FV} {y : FV} (h : callN E N g args [] = some (y, none)) {f : FuncId} (hσ : σ g = some f)
    {I : Nat → Prop} {w : World} {vargs : Array Value} (hI : ∀ b, I b → b < w.heap.size) (hA : RepC σ (fun _ _ => none) I w 0 args vargs.toList) (hG : Globs E σ I w) :
    Calls P f vargs w fun e w' => ∃ x z I', e = .returned x ∧ y = .d z ∧ RepD σ I' w' z x ∧ Grow I I' w w' :=
  (recs_sound hm hB hF hP N g args [] _ h).2 f hσ _ I w vargs (.empty _ hI (fun _ h => h)) hA hG
end top
end Fi
