import Derived.Test.YtonmcbnjifeagaaGreatDoorFiStep
set_option linter.unusedVariables false
set_option linter.unusedSimpArgs false
namespace Fi
open Go

section step
variable {P : Program} {E : Env} {cx : Cx} {σ : Nat → Option FuncId} {β : Map} {I Wr : Nat → Prop} {wd : Nat → Prop} {w : World} {st st' : St} {env : List FV} {ρ : Operand → Value} {dsts : List (Option Tmp)}
variable {rec : Nat → List FV → List AObj → CallR} {draw : Bool} {v : FV}
variable {type : TypeId} {dst : Option Tmp} {pos : String} {after : Array Edge} {guard : Option (Nat × Bool)} {k : K}

theorem s_iaddr {t : TypeId} {x ix : Operand} (hc : compOp P cx dsts ⟨dst, .indexAddr t x ix, type, pos, after, guard⟩ = some k) (hk : runK E rec draw st env k = some (v, st')) (hS : SimH σ st.base.length β I Wr wd (st.base ++ st.loc) w)
    (hA : ArgsOK P E cx σ β I w st env dsts ρ [x, ix]) : Yields P ⟨dst, .indexAddr t x ix, type, pos, after, guard⟩ ρ w (Post σ st.base.length (st.base ++ st.loc).length β I Wr wd w st' v) := by
  simp only [compOp] at hc
  split at hc
  · rename_i e ht
    split at hc <;> simp at hc
    subst hc
    rename_i a b m ha hb hm
    simp only [runK] at hk
    split at hk
    · rename_i q ver sz off l kk j hp hi
      split at hk <;> simp at hk
      obtain ⟨rfl, rfl⟩ := hk
      rename_i hh
      obtain ⟨rfl, h0, h1⟩ := hh
      exact y_iaddr_ls ht hm h0 h1 hS (hA _ x a _ (by simp) ha hp) (hA _ ix b _ (by simp) hb hi)
    · rename_i sz es kk j hp hi
      split at hk
      · rename_i hh
        obtain ⟨rfl, h0⟩ := hh
        split at hk <;> simp at hk
        obtain ⟨rfl, rfl⟩ := hk
        rename_i y hy
        exact y_iaddr_s ht hm h0 hy hS (hA _ x a _ (by simp) ha hp) (hA _ ix b _ (by simp) hb hi)
      · simp at hk
    · simp at hk
  · rename_i len e ht
    split at hc <;> simp at hc
    subst hc
    rename_i a b m g ha hb hm hg
    simp only [runK] at hk
    split at hk
    · rename_i q o kk j hp hi
      split at hk <;> simp at hk
      obtain ⟨rfl, rfl⟩ := hk
      rename_i hh
      exact y_aaddr_r ht hm hh.1 hh.2 hS (hA _ x a _ (by simp) ha hp) (hA _ ix b _ (by simp) hb hi)
    · rename_i q ver s i o kk j hp hi
      split at hk <;> simp at hk
      obtain ⟨rfl, rfl⟩ := hk
      rename_i hh
      exact y_aaddr_e ht hm hh.1 hh.2 hS (hA _ x a _ (by simp) ha hp) (hA _ ix b _ (by simp) hb hi)
    · rename_i y kk j hp hi
      split at hk
      · rename_i hh
        split at hk <;> simp at hk
        obtain ⟨rfl, rfl⟩ := hk
        rename_i d hd
        exact y_aaddr_rc ht hm hh.1 hh.2 hd hS (hA _ x a _ (by simp) ha hp) (hA _ ix b _ (by simp) hb hi)
      · simp at hk
    · simp at hk
  · simp at hc

theorem s_index {t : TypeId} {x ix : Operand} (hc : compOp P cx dsts ⟨dst, .index t x ix, type, pos, after, guard⟩ = some k) (hk : runK E rec draw st env k = some (v, st')) (hS : SimH σ st.base.length β I Wr wd (st.base ++ st.loc) w)
    (hA : ArgsOK P E cx σ β I w st env dsts ρ [x, ix]) : Yields P ⟨dst, .index t x ix, type, pos, after, guard⟩ ρ w (Post σ st.base.length (st.base ++ st.loc).length β I Wr wd w st' v) := by
  simp only [compOp] at hc
  split at hc
  · rename_i len e ht
    split at hc <;> simp at hc
    subst hc
    rename_i a b m g ha hb hm hg
    simp only [runK] at hk
    split at hk
    · rename_i cs kk j hp hi
      split at hk
      · rename_i hh
        split at hk <;> simp at hk
        obtain ⟨rfl, rfl⟩ := hk
        rename_i d hd
        exact y_index ht hg hm hh.1 hh.2 hd hS (hA _ x a _ (by simp) ha hp) (hA _ ix b _ (by simp) hb hi)
      · simp at hk
    · simp at hk
  · rename_i ht
    split at hc <;> simp at hc
    subst hc
    rename_i a b ha hb
    simp only [runK] at hk
    split at hk
    · rename_i s kk j hp hi
      split at hk
      · rename_i h0
        split at hk <;> simp at hk
        obtain ⟨rfl, rfl⟩ := hk
        rename_i c hc'
        exact y_sindex ht h0 hc' hS (hA _ x a _ (by simp) ha hp) (hA _ ix b _ (by simp) hb hi)
      · simp at hk
    · simp at hk
  · simp at hc

theorem s_ext {x : Operand} {i : Nat} (hc : compOp P cx dsts ⟨dst, .extract x i, type, pos, after, guard⟩ = some k) (hk : runK E rec draw st env k = some (v, st')) (hS : SimH σ st.base.length β I Wr wd (st.base ++ st.loc) w)
    (hA : ArgsOK P E cx σ β I w st env dsts ρ [x]) : Yields P ⟨dst, .extract x i, type, pos, after, guard⟩ ρ w (Post σ st.base.length (st.base ++ st.loc).length β I Wr wd w st' v) := by
  simp only [compOp] at hc
  split at hc <;> simp at hc
  subst hc
  rename_i a ha
  simp only [runK] at hk
  split at hk <;> (try simp at hk)
  · rename_i vs hp
    split at hk <;> simp at hk
    obtain ⟨rfl, rfl⟩ := hk
    rename_i hv
    exact y_extD hv hS (hA _ x a _ (by simp) ha hp)
  · rename_i vs hp
    split at hk <;> simp at hk
    obtain ⟨rfl, rfl⟩ := hk
    rename_i hv
    exact y_extF hv hS (hA _ x a _ (by simp) ha hp)

theorem s_mk {t : TypeId} {x y : Operand} (hgid : ∀ f g, cx.gid f = some g → σ g = some f) (hc : compOp P cx dsts ⟨dst, .makeSlice t x y, type, pos, after, guard⟩ = some k) (hk : runK E rec draw st env k = some (v, st')) (hS : SimH σ st.base.length β I Wr wd (st.base ++ st.loc) w)
    (hA : ArgsOK P E cx σ β I w st env dsts ρ [x, y]) : Yields P ⟨dst, .makeSlice t x y, type, pos, after, guard⟩ ρ w (Post σ st.base.length (st.base ++ st.loc).length β I Wr wd w st' v) := by
  simp only [compOp] at hc
  split at hc
  · rename_i e ht
    split at hc
    · rename_i m b g z a a' hm hb hg hz ha ha'
      split at hc <;> simp at hc
      subst hc
      rename_i hh
      simp only [not_or] at hh
      obtain ⟨h0, h1, h2⟩ := hh
      simp only [runK] at hk
      split at hk
      · rename_i kl l kc c hp hq
        split at hk <;> simp only [Option.some.injEq, Prod.mk.injEq, reduceCtorEq] at hk
        obtain ⟨rfl, rfl⟩ := hk
        rename_i hh
        obtain ⟨g0, g1, g2, g3⟩ := hh
        exact y_mk hgid ht hm hb hz (by omega) (by simpa using h1) h2 g0 g1 g2 g3 hS (hA _ x a _ (by simp) ha hp) (hA _ y a' _ (by simp) ha' hq)
      · simp at hk
    · simp at hc
  · simp at hc

theorem s_slice {t : TypeId} {x : Operand} {lo hi : Option Operand} (hc : compOp P cx dsts ⟨dst, .slice t x lo hi none, type, pos, after, guard⟩ = some k) (hk : runK E rec draw st env k = some (v, st')) (hS : SimH σ st.base.length β I Wr wd (st.base ++ st.loc) w)
    (hA : ArgsOK P E cx σ β I w st env dsts ρ ([x] ++ lo.toList ++ hi.toList)) : Yields P ⟨dst, .slice t x lo hi none, type, pos, after, guard⟩ ρ w (Post σ st.base.length (st.base ++ st.loc).length β I Wr wd w st' v) := by
  have hmlo : ∀ o, lo = some o → o ∈ [x] ++ lo.toList ++ hi.toList := fun o h => by subst h; simp
  have hmhi : ∀ o, hi = some o → o ∈ [x] ++ lo.toList ++ hi.toList := fun o h => by subst h; simp
  simp only [compOp] at hc
  split at hc
  · rename_i e ht
    split at hc
    · rename_i m a l h hm ha hl hh
      split at hc <;> simp at hc
      subst hc
      simp only [runK] at hk
      split at hk
      · rename_i sz es hp
        split at hk
        · rename_i li hi' e1 e2
          split at hk <;> simp at hk
          obtain ⟨rfl, rfl⟩ := hk
          rename_i hb
          obtain ⟨rfl, b0, b1, b2⟩ := hb
          exact y_slice_s ht hm (bound_spec hA hmlo hl e1) (bound_spec hA hmhi hh e2) b0 b1 b2 hS (hA _ x a _ (by simp) ha hp)
        · simp at hk
      · rename_i sz hp
        split at hk
        · rename_i li hi' e1 e2
          split at hk <;> simp at hk
          obtain ⟨rfl, rfl⟩ := hk
          rename_i hb
          obtain ⟨rfl, rfl, rfl⟩ := hb
          exact y_slice_n ht hm (bound_spec hA hmlo hl e1) (bound_spec hA hmhi hh e2) hS (hA _ x a _ (by simp) ha hp)
        · simp at hk
      · rename_i q ver sz off n hp
        split at hk
        · rename_i li hi' e1 e2
          split at hk <;> simp at hk
          obtain ⟨rfl, rfl⟩ := hk
          rename_i hb
          obtain ⟨rfl, b0, b1, b2⟩ := hb
          exact y_slice_ls ht hm (bound_spec hA hmlo hl e1) (bound_spec hA hmhi hh e2) b0 b1 b2 hS (hA _ x a _ (by simp) ha hp)
        · simp at hk
      · simp at hk
    · simp at hc
  · rename_i ht
    split at hc <;> simp at hc
    subst hc
    rename_i a l h ha hl hh
    simp only [runK] at hk
    split at hk
    · rename_i s hp
      split at hk
      · rename_i li hi' e1 e2
        split at hk <;> simp at hk
        obtain ⟨rfl, rfl⟩ := hk
        rename_i hb
        exact y_sslice ht (bound_spec hA hmlo hl e1) (bound_spec hA hmhi hh e2) hb.1 hb.2.1 hb.2.2 hS (hA _ x a _ (by simp) ha hp)
      · simp at hk
    · simp at hk
  · simp at hc

theorem s_clo {f : FuncId} {first captured : Array Operand} (hgid : ∀ f g, cx.gid f = some g → σ g = some f) (hc : compOp P cx dsts ⟨dst, .makeFunc (.func f) first captured, type, pos, after, guard⟩ = some k) (hk : runK E rec draw st env k = some (v, st')) 
    (hS : SimH σ st.base.length β I Wr wd (st.base ++ st.loc) w) (hA : ArgsOK P E cx σ β I w st env dsts ρ (first.toList ++ captured.toList)) :
    Yields P ⟨dst, .makeFunc (.func f) first captured, type, pos, after, guard⟩ ρ w (Post σ st.base.length (st.base ++ st.loc).length β I Wr wd w st' v) := by
  simp only [compOp] at hc
  split at hc <;> simp at hc
  subst hc
  rename_i g fs cs hg hfs hcs
  simp only [runK] at hk
  split at hk
  · rename_i fv cv h1 h2
    have r1 := args_list hA (fun x hx => by simp at hx ⊢; exact .inl hx) hfs h1
    have r2 := args_list hA (fun x hx => by simp at hx ⊢; exact .inr hx) hcs h2
    have hy := y_clo (P := P) (dst := dst) (type := type) (pos := pos) (after := after) (guard := guard) (first := first) (captured := captured) (hgid _ _ hg) (by simpa using r1) (by simpa using r2) hS
    split at hk <;> simp at hk
    · obtain ⟨rfl, rfl⟩ := hk
      rename_i hh
      rw [if_pos (by simpa using hh)] at hy
      exact hy
    · obtain ⟨rfl, rfl⟩ := hk
      rename_i hh
      rw [if_neg (by simpa using hh)] at hy
      exact hy
  · simp at hk

theorem mapM_pure {agg : Bool} {sz : Nat} : ∀ {xs : List FV} {ys : List D}, xs.mapM (pureElem agg sz) = some ys → ys.length = xs.length ∧ ∀ (i : Nat) (x : FV) (y : D), xs[i]? = some x → ys[i]? = some y → pureElem agg sz x = some y
  | [], ys, h => by simp at h; subst h; exact ⟨rfl, fun i x y h => by simp at h⟩
  | x :: xs, ys, h => by
    rw [List.mapM_cons] at h
    cases h1 : pureElem agg sz x with
    | none => rw [h1] at h; simp at h
    | some y =>
      cases h2 : xs.mapM (pureElem agg sz) with
      | none => rw [h1, h2] at h; simp at h
      | some s =>
        rw [h1, h2] at h
        simp at h
        subst h
        obtain ⟨a, b⟩ := mapM_pure h2
        refine ⟨by simp [a], fun i x' y' hx hy => ?_⟩
        cases i with
        | zero => simp at hx hy; subst hx; subst hy; exact h1
        | succ i => exact b i x' y' (by simpa using hx) (by simpa using hy)

theorem s_lit {t : TypeId} {len : Nat} {parts : Array (Nat × Operand)} (hgid : ∀ f g, cx.gid f = some g → σ g = some f) (hc : compOp P cx dsts ⟨dst, .buildSlice t len parts, type, pos, after, guard⟩ = some k) (hk : runK E rec draw st env k = some (v, st')) 
    (hS : SimH σ st.base.length β I Wr wd (st.base ++ st.loc) w) (hA : ArgsOK P E cx σ β I w st env dsts ρ (parts.toList.map (·.2))) : Yields P ⟨dst, .buildSlice t len parts, type, pos, after, guard⟩ ρ w (Post σ st.base.length (st.base ++ st.loc).length β I Wr wd w st' v) := by
  simp only [compOp] at hc
  split at hc
  · rename_i e ht
    split at hc
    · rename_i m g z as hm hg hz has
      split at hc <;> simp at hc
      subst hc
      rename_i hh
      simp only [not_or] at hh
      obtain ⟨h0, h1, h2, h3, h4⟩ := hh
      have hal : as.length = parts.toList.length := by
        have : ∀ (tys : List TypeId) (l : List Operand) (as : List Arg), compArgs P cx dsts tys l = some as → as.length = l.length := by
          intro tys l
          induction l generalizing tys with
          | nil => intro as h; simp [compArgs] at h; subst h; rfl
          | cons x l ih =>
            intro as h
            simp only [compArgs] at h
            split at h <;> simp at h
            subst h
            rename_i h2
            simp [ih _ _ h2]
        simpa using this _ _ _ has
      simp only [runK] at hk
      have e1 : (((parts.toList.map (·.1)).zip as).map (·.2)) = as := by
        rw [List.map_snd_zip]; simp [hal]
      have e2 : (((parts.toList.map (·.1)).zip as).map (·.1)) = parts.toList.map (·.1) := by
        rw [List.map_fst_zip]; simp [hal]
      rw [e1, e2] at hk
      split at hk
      · rename_i xs hxs
        split at hk
        · rename_i ys hys
          split at hk
          · rename_i es hes
            have r1 := args_list hA (fun x hx => hx) has hxs
            obtain ⟨p1, p2⟩ := mapM_pure hys
            have hy := y_lit (ρ := ρ) (dst := dst) (type := type) (pos := pos) (after := after) (guard := guard) (parts := parts) (ys := ys) hgid ht hm hz (by omega) (by simpa using h3) h4 (by omega) (by omega) (by rw [p1, ← r1.1]; simp)
              (fun i p y hp hy => by
                have hlt : i < xs.length := by rw [← p1]; exact (List.getElem?_eq_some_iff.1 hy).1
                have hx : xs[i]? = some xs[i] := List.getElem?_eq_getElem _
                have hpe := p2 i _ y hx hy
                exact pureElem_spec hpe (r1.2 i _ _ hx (by simp [hp]))) hes hS
            split at hk <;> simp at hk
            · obtain ⟨rfl, rfl⟩ := hk
              rename_i hl
              rw [if_pos hl] at hy
              exact hy
            · obtain ⟨rfl, rfl⟩ := hk
              rename_i hl
              rw [if_neg hl] at hy
              exact hy
          · simp at hk
        · simp at hk
      · simp at hk
    · simp at hc
  · simp at hc

theorem partsAt_spec {place : Nat → Option (Nat × TypeId)} {place' : Nat → Option (Nat × Nat)} (hpl : ∀ i off ty m, place i = some (off, ty) → sizeT P ty = some m → place' i = some (off, m)) {xs : List Operand} (hA : ArgsOK P E cx σ β I w st env dsts ρ xs) :
    ∀ {parts : List (Nat × Operand)} {ps : List (Nat × Nat × Arg)} {fs : List FV}, (∀ p ∈ parts, p.2 ∈ xs) → partsAt P cx dsts place parts = some ps → argsV E st env (ps.map (·.2.2)) = some fs →
      parts.length = ((ps.map (·.1)).zip ((ps.map (·.2.1)).zip fs)).length ∧
      ∀ (i : Nat) (p : Nat × Operand) (o : Nat × Nat × FV), parts[i]? = some p → ((ps.map (·.1)).zip ((ps.map (·.2.1)).zip fs))[i]? = some o → place' p.1 = some (o.1, o.2.1) ∧ RepF σ β I w st.base.length o.2.2 (ρ p.2)
  | [], ps, fs, _, hc, hf => by
    simp [partsAt] at hc; subst hc
    exact ⟨rfl, fun i p o h => by simp at h⟩
  | (i, x) :: parts, ps, fs, hm, hc, hf => by
    simp only [partsAt] at hc
    split at hc
    · simp at hc
    · rename_i off ty hp
      split at hc <;> simp at hc
      subst hc
      rename_i m y s h1 h2 h3
      simp only [List.map_cons, argsV] at hf
      split at hf <;> simp at hf
      subst hf
      rename_i f fs' h4 h5
      obtain ⟨g1, g2⟩ := partsAt_spec hpl hA (fun p hp => hm p (by simp [hp])) h3 h5
      refine ⟨by simp at g1 ⊢; omega, fun j p o hj ho => ?_⟩
      cases j with
      | zero =>
        simp at hj ho; subst hj; subst ho
        exact ⟨hpl i off ty m hp h1, hA _ x y f (hm (i, x) (by simp)) h2 h4⟩
      | succ j => exact g2 j p o (by simpa using hj) (by simpa using ho)

theorem s_build {t : TypeId} {parts : Array (Nat × Operand)} (hgid : ∀ f g, cx.gid f = some g → σ g = some f) (hc : compOp P cx dsts ⟨dst, .build t parts, type, pos, after, guard⟩ = some k) (hk : runK E rec draw st env k = some (v, st')) 
    (hS : SimH σ st.base.length β I Wr wd (st.base ++ st.loc) w) (hA : ArgsOK P E cx σ β I w st env dsts ρ (parts.toList.map (·.2))) : Yields P ⟨dst, .build t parts, type, pos, after, guard⟩ ρ w (Post σ st.base.length (st.base ++ st.loc).length β I Wr wd w st' v) := by
  have hmem : ∀ p ∈ parts.toList, p.2 ∈ parts.toList.map (·.2) := fun p hp => List.mem_map.2 ⟨p, hp, rfl⟩
  have fin : ∀ (z : List D) (ps : List (Nat × Nat × Arg)) (place : Nat → Option (Nat × TypeId)) (place' : Nat → Option (Nat × Nat)), zeroD cx P t = some z → k = .build z ps → partsAt P cx dsts place parts.toList = some ps →
      (∀ i off ty m, place i = some (off, ty) → sizeT P ty = some m → place' i = some (off, m)) →
      ((∃ fs, P.underlying t = some (.struct fs) ∧ (∀ f ∈ fs.toList, (sizeT P f.type).isSome) ∧ place' = fun i => (fs[i]?).map fun f => (f.offset, (sizeT P f.type).getD 0)) ∨
      (∃ len e sz, P.underlying t = some (.array len e) ∧ sizeT P e = some sz ∧ place' = fun i => some (i * sz, sz))) →
      Yields P ⟨dst, .build t parts, type, pos, after, guard⟩ ρ w (Post σ st.base.length (st.base ++ st.loc).length β I Wr wd w st' v) := by
    intro z ps place place' hz hke hps hpl ht
    subst hke
    simp only [runK] at hk
    split at hk
    · rename_i xs hxs
      split at hk <;> simp at hk
      obtain ⟨rfl, rfl⟩ := hk
      rename_i cs hcs
      obtain ⟨q1, q2⟩ := partsAt_spec hpl hA hmem hps hxs
      exact y_build hgid hz ht q1 q2 hcs hS
    · simp at hk
  simp only [compOp] at hc
  split at hc
  · rename_i fs z ht hz
    split at hc
    · simp at hc
    · rename_i hall
      split at hc <;> simp at hc
      rename_i ps hps
      refine fin z ps _ (fun i => (fs[i]?).map fun f => (f.offset, (sizeT P f.type).getD 0)) hz hc.symm hps ?_ (.inl ⟨fs, ht, ?_, rfl⟩)
      · intro i off ty m h1 h2
        split at h1
        · rename_i f hf
          cases h1
          simp [hf, h2]
        · cases h1
      · intro f hf
        cases hs : sizeT P f.type with
        | some m => rfl
        | none => exact absurd (List.any_eq_true.2 ⟨f, hf, by simp [hs]⟩) hall
  · rename_i len e z ht hz
    split at hc
    · rename_i m hm
      split at hc <;> simp at hc
      rename_i ps hps
      refine fin z ps _ (fun i => some (i * m, m)) hz hc.symm hps ?_ (.inr ⟨len, e, m, ht, hm, rfl⟩)
      intro i off ty m' h1 h2
      cases h1
      rw [hm] at h2; cases h2; rfl
    · simp at hc
  · simp at hc

theorem slice_value {P : Program} {f : FV} {x : Value} {r : Nat} (hr : RepF σ β I w st.base.length f x) (hf : (∃ sz, f = .d (.n sz) ∧ r = 0) ∨ (∃ sz es, f = .d (.s sz es) ∧ r = es.length) ∨ (∃ q ver sz off, f = .ls q ver sz off r)) :
    ∃ a c, x = .slice a r c := by
  rcases hf with ⟨sz, rfl, rfl⟩ | ⟨sz, es, rfl, rfl⟩ | ⟨q, ver, sz, off, rfl⟩
  · exact ⟨_, _, nil_inv hr⟩
  · cases hr with
    | d h => cases h with
      | s0 => exact ⟨_, _, rfl⟩
      | s u h1 h2 h3 h4 h5 h6 => exact ⟨_, _, rfl⟩
  · obtain ⟨b, bo, cap, o, h1, h2, h3, h4⟩ := ls_inv hr
    exact ⟨_, _, h4⟩

theorem s_builtin {b : Builtin} {tys : Array TypeId} {args : Array Operand} (hgid : ∀ f g, cx.gid f = some g → σ g = some f) (hc : compOp P cx dsts ⟨dst, .call { callee := .builtin b, args := args, argTypes := tys }, type, pos, after, guard⟩ = some k)
    (hk : runK E rec draw st env k = some (v, st')) (hdt : k.loud draw = true → MayW st.base.length st' wd) (hS : SimH σ st.base.length β I Wr wd (st.base ++ st.loc) w) (hA : ArgsOK P E cx σ β I w st env dsts ρ args.toList) :
    Yields P ⟨dst, .call { callee := .builtin b, args := args, argTypes := tys }, type, pos, after, guard⟩ ρ w (Post σ st.base.length (st.base ++ st.loc).length β I Wr wd w st' v) := by
  simp only [compOp] at hc
  split at hc
  · rename_i t x e1 e2
    have h1 : tys = #[t] := by apply Array.ext'; simpa using e1
    have h2 : args = #[x] := by apply Array.ext'; simpa using e2
    subst h1; subst h2
    split at hc
    · rename_i e ht
      simp at hc
      obtain ⟨a, ha, hke⟩ := hc
      subst hke
      simp only [runK] at hk
      have hr := fun f hf => hA _ x a f (by simp) ha hf
      split at hk <;> simp only [Option.some.injEq, Prod.mk.injEq, reduceCtorEq] at hk
      · rename_i sz hp
        obtain ⟨rfl, rfl⟩ := hk
        obtain ⟨aa, c, hx⟩ := slice_value (P := P) (r := 0) (hr _ hp) (.inl ⟨_, rfl, rfl⟩)
        exact y_len_slice ht hx hS
      · rename_i sz es hp
        obtain ⟨rfl, rfl⟩ := hk
        obtain ⟨aa, c, hx⟩ := slice_value (P := P) (r := es.length) (hr _ hp) (.inr (.inl ⟨_, _, rfl, rfl⟩))
        exact y_len_slice ht hx hS
      · rename_i q ver sz off n hp
        obtain ⟨rfl, rfl⟩ := hk
        obtain ⟨aa, c, hx⟩ := slice_value (P := P) (r := n) (hr _ hp) (.inr (.inr ⟨_, _, _, _, rfl⟩))
        exact y_len_slice ht hx hS
    · rename_i ht
      simp at hc
      obtain ⟨a, ha, hke⟩ := hc
      subst hke
      simp only [runK] at hk
      split at hk <;> simp only [Option.some.injEq, Prod.mk.injEq, reduceCtorEq] at hk
      rename_i s hp
      obtain ⟨rfl, rfl⟩ := hk
      exact y_len_string ht (hA _ x a _ (by simp) ha hp).val hS
    · simp at hc
  · rename_i t u x y e1 e2
    have h1 : tys = #[t, u] := by apply Array.ext'; simpa using e1
    have h2 : args = #[x, y] := by apply Array.ext'; simpa using e2
    subst h1; subst h2
    split at hc <;> simp at hc
    subst hc
    rename_i a b' _ ha hb
    simp only [runK] at hk
    split at hk <;> simp at hk
    obtain ⟨rfl, rfl⟩ := hk
    rename_i hp hq
    exact y_maxi hS (hA _ x a _ (by simp) ha hp).val (hA _ y b' _ (by simp) hb hq).val
  · rename_i t u x y e1 e2
    have h1 : tys = #[t, u] := by apply Array.ext'; simpa using e1
    have h2 : args = #[x, y] := by apply Array.ext'; simpa using e2
    subst h1; subst h2
    split at hc <;> simp at hc
    subst hc
    rename_i a b' _ ha hb
    simp only [runK] at hk
    split at hk <;> simp at hk
    obtain ⟨rfl, rfl⟩ := hk
    rename_i hp hq
    exact y_mini hS (hA _ x a _ (by simp) ha hp).val (hA _ y b' _ (by simp) hb hq).val
  · rename_i t u x y e1 e2
    have h1 : tys = #[t, u] := by apply Array.ext'; simpa using e1
    have h2 : args = #[x, y] := by apply Array.ext'; simpa using e2
    subst h1; subst h2
    split at hc
    · rename_i e e' ht hu
      split at hc
      · split at hc
        · rename_i m bb z a a' hm hb hz ha ha'
          split at hc <;> simp at hc
          subst hc
          rename_i hh
          simp only [not_or] at hh
          obtain ⟨h0, hzl⟩ := hh
          simp only [runK] at hk
          split at hk
          · rename_i fx fy hp hq
            split at hk
            · simp at hk
            · rename_i ys hys
              split at hk
              · rename_i sz'
                split at hk
                · rename_i hg
                  obtain ⟨rfl, g1, g2⟩ := hg
                  have hy := y_app_nil (dst := dst) (type := type) (pos := pos) (after := after) (guard := guard) (t := t) (u := u) hgid ht hu hm hb hz (by simpa using hzl) (by omega) hys g1 g2 hS (hA _ x a _ (by simp) ha hp) (hA _ y a' _ (by simp) ha' hq)
                  split at hk <;> simp at hk
                  · obtain ⟨rfl, rfl⟩ := hk
                    rename_i hemp
                    rw [if_pos hemp] at hy
                    exact hy
                  · obtain ⟨rfl, rfl⟩ := hk
                    rename_i hemp
                    rw [if_neg hemp] at hy
                    exact hy
                · simp at hk
              · rename_i q ver sz' off n
                split at hk
                · rename_i ver' sz'' es hrow
                  split at hk <;> simp at hk
                  obtain ⟨rfl, rfl⟩ := hk
                  rename_i hg
                  obtain ⟨rfl, rfl, rfl, g1, g2, g3⟩ := hg
                  exact y_app_ls hgid ht hu hm hb hz (by simpa using hzl) hrow g1 hys g2 g3 (hdt (by cases a <;> first | rfl | (simp [argV] at hp))) hS (hA _ x a _ (by simp) ha hp) (hA _ y a' _ (by simp) ha' hq)
                · simp at hk
              · simp at hk
          · simp at hk
        · simp at hc
      · simp at hc
    · simp at hc
  · simp at hc
end step
end Fi
