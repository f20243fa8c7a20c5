/-
  One step: what is compiled of an operation, run by the interpreter, is what the operation does. Calls are taken by a hypothesis.
-/
import Derived.Test.YtonmcbnjifeagaaGreatDoorFiOpsA
set_option linter.unusedVariables false
set_option linter.unusedSimpArgs false
namespace Fi
open Go

section step
variable {P : Program} {E : Env} {cx : Cx} {σ : Nat → Option FuncId} {β : Map} {I Wr : Nat → Prop} {wd : Nat → Prop} {w : World} {st st' : St} {env : List FV} {ρ : Operand → Value} {dsts : List (Option Tmp)}
variable {rec : Nat → List FV → List AObj → CallR} {draw : Bool} {v : FV}

/-- The operands are what the interpreter's arguments are. -/
def ArgsOK (P : Program) (E : Env) (cx : Cx) (σ : Nat → Option FuncId) (β : Map) (I : Nat → Prop) (w : World) (st : St) (env : List FV) (dsts : List (Option Tmp)) (ρ : Operand → Value) (xs : List Operand) : Prop :=
  ∀ ty x y f, x ∈ xs → compArg P cx dsts ty x = some y → argV E st env y = some f → RepF σ β I w st.base.length f (ρ x)

theorem args_list {xs : List Operand} (hA : ArgsOK P E cx σ β I w st env dsts ρ xs) : ∀ {tys : List TypeId} {l : List Operand} {as : List Arg} {fs : List FV}, (∀ x ∈ l, x ∈ xs) → compArgs P cx dsts tys l = some as → argsV E st env as = some fs →
    RepC σ β I w st.base.length fs (l.map ρ)
  | tys, [], as, fs, _, hc, hf => by
    simp [compArgs] at hc; subst hc
    simp [argsV] at hf; subst hf
    exact ⟨rfl, fun i c x h => by simp at h⟩
  | tys, x :: l, as, fs, hm, hc, hf => by
    simp only [compArgs] at hc
    split at hc <;> simp at hc
    subst hc
    rename_i y s h1 h2
    simp only [argsV] at hf
    split at hf <;> simp at hf
    subst hf
    rename_i f fs' h3 h4
    obtain ⟨g1, g2⟩ := args_list hA (fun x hx => hm x (by simp [hx])) h2 h4
    refine ⟨by simp [g1], fun i c z hc hz => ?_⟩
    cases i with
    | zero => simp at hc hz; subst hc; subst hz; exact hA _ x y f (hm x (by simp)) h1 h3
    | succ i => exact g2 i c z (by simpa using hc) (by simpa using hz)

theorem asI_spec {n : Nat} {f : FV} {i : Int} {x : Value} (h : asI f = some i) (hr : RepF σ β I w n f x) : ∃ k, x = .int k i := by
  unfold asI at h
  split at h
  · rename_i k m
    simp at h; subst h
    exact ⟨k, hr.val⟩
  · simp at h

theorem bound_spec {xs : List Operand} (hA : ArgsOK P E cx σ β I w st env dsts ρ xs) {x : Option Operand} {y : Option Arg} {dflt i : Int} (hm : ∀ o, x = some o → o ∈ xs) (hc : optArg P cx dsts x = some y) (hv : oneI y dflt (argV E st env) = some i) : BoundR ρ x dflt i := by
  cases x with
  | none =>
    simp [optArg] at hc; subst hc
    simp [oneI] at hv
    exact hv.symm
  | some o =>
    simp only [optArg] at hc
    split at hc <;> simp at hc
    subst hc
    rename_i y' h1
    simp only [oneI] at hv
    split at hv
    · rename_i f h2
      exact asI_spec hv (hA _ o y' f (hm o rfl) h1 h2)
    · simp at hv

theorem Yields.cast {o : Oper} {n : Nat} {v1 v2 : FV} {s1 s2 : St} (h : Yields P o ρ w (Post σ n (st.base ++ st.loc).length β I Wr wd w s1 v1)) (e1 : v1 = v2) (e2 : s1 = s2) : Yields P o ρ w (Post σ n (st.base ++ st.loc).length β I Wr wd w s2 v2) := by subst e1; subst e2; exact h

variable {type : TypeId} {dst : Option Tmp} {pos : String} {after : Array Edge} {guard : Option (Nat × Bool)} {k : K}

theorem s_mov {op : Op} {x : Operand} (hop : op = .move x ∨ op = .assign x) (hc : compOp P cx dsts ⟨dst, op, type, pos, after, guard⟩ = some k) (hk : runK E rec draw st env k = some (v, st')) (hS : SimH σ st.base.length β I Wr wd (st.base ++ st.loc) w)
    (hA : ArgsOK P E cx σ β I w st env dsts ρ op.operands.toList) : Yields P ⟨dst, op, type, pos, after, guard⟩ ρ w (Post σ st.base.length (st.base ++ st.loc).length β I Wr wd w st' v) := by
  have hc' : (match compArg P cx dsts type x with | some a => some (K.mov a) | none => none) = some k := by rcases hop with rfl | rfl <;> exact hc
  have hm : x ∈ op.operands.toList := by rcases hop with rfl | rfl <;> simp [Op.operands]
  split at hc' <;> simp at hc'
  subst hc'
  rename_i a ha
  simp only [runK] at hk
  split at hk <;> simp at hk
  obtain ⟨rfl, rfl⟩ := hk
  rename_i f hf
  exact y_mov hop hS (hA _ x a _ hm ha hf)

theorem s_pick {c a b : Operand} (hc : compOp P cx dsts ⟨dst, .pick c a b, type, pos, after, guard⟩ = some k) (hk : runK E rec draw st env k = some (v, st')) (hS : SimH σ st.base.length β I Wr wd (st.base ++ st.loc) w)
    (hA : ArgsOK P E cx σ β I w st env dsts ρ [c, a, b]) : Yields P ⟨dst, .pick c a b, type, pos, after, guard⟩ ρ w (Post σ st.base.length (st.base ++ st.loc).length β I Wr wd w st' v) := by
  simp only [compOp] at hc
  split at hc <;> simp at hc
  subst hc
  rename_i c' a' b' h1 h2 h3
  simp only [runK] at hk
  split at hk
  · rename_i t ht
    split at hk <;> simp at hk
    obtain ⟨rfl, rfl⟩ := hk
    rename_i f hf
    refine y_pick (t := t) hS (hA _ c c' _ (by simp) h1 ht) ?_
    cases t
    · exact hA _ b b' _ (by simp) h3 (by simpa using hf)
    · exact hA _ a a' _ (by simp) h2 (by simpa using hf)
  · simp at hk

theorem s_bin {op : BinOp} {xt yt : TypeId} {x y : Operand} (hcst : ∀ v, ρ (.const v) = v) (hc : compOp P cx dsts ⟨dst, .binOp op xt x y yt, type, pos, after, guard⟩ = some k) (hk : runK E rec draw st env k = some (v, st')) (hS : SimH σ st.base.length β I Wr wd (st.base ++ st.loc) w)
    (hA : ArgsOK P E cx σ β I w st env dsts ρ [x, y]) : Yields P ⟨dst, .binOp op xt x y yt, type, pos, after, guard⟩ ρ w (Post σ st.base.length (st.base ++ st.loc).length β I Wr wd w st' v) := by
  simp only [compOp, compBin] at hc
  split at hc
  · rename_i a b ha hb
    have main : ∀ op', op' = op → runK E rec draw st env (.bin op' a b) = some (v, st') → Yields P ⟨dst, .binOp op xt x y yt, type, pos, after, guard⟩ ρ w (Post σ st.base.length (st.base ++ st.loc).length β I Wr wd w st' v) := by
      intro op' hop hk
      subst hop
      simp only [runK] at hk
      split at hk
      · rename_i p q hp hq
        split at hk <;> simp at hk
        obtain ⟨rfl, rfl⟩ := hk
        rename_i r hr
        exact y_bin hr hS (hA _ x a _ (by simp) ha hp) (hA _ y b _ (by simp) hb hq)
      · simp at hk
    split at hc
    · simp at hc; subst hc; exact main _ rfl hk
    · simp at hc; subst hc; exact main _ rfl hk
    · rename_i ht
      have mb : ∀ neg, op = (if neg then .neq else .eql) → k = .beq neg a b → Yields P ⟨dst, .binOp op xt x y yt, type, pos, after, guard⟩ ρ w (Post σ st.base.length (st.base ++ st.loc).length β I Wr wd w st' v) := by
        intro neg hop hke
        subst hke
        simp only [runK] at hk
        split at hk <;> simp at hk
        obtain ⟨rfl, rfl⟩ := hk
        rename_i p q hp hq
        have := y_beq (dst := dst) (type := type) (pos := pos) (after := after) (guard := guard) (yt := yt) hop ht hS (hA _ x a _ (by simp) ha hp) (hA _ y b _ (by simp) hb hq)
        exact this
      split at hc <;> simp at hc
      · exact mb false rfl hc.symm
      · exact mb true rfl hc.symm
    · rename_i len e ht
      have mb : ∀ neg k0, op = (if neg then .neq else .eql) → P.underlying e = some (.int k0) → sizeT P e = some 1 → P.eqGuardType P.depth xt = false → k = .aeq neg len a b → Yields P ⟨dst, .binOp op xt x y yt, type, pos, after, guard⟩ ρ w (Post σ st.base.length (st.base ++ st.loc).length β I Wr wd w st' v) := by
        intro neg k0 hop hu hs hq hke
        subst hke
        simp only [runK] at hk
        split at hk
        · rename_i p q hp hq'
          split at hk
          · rename_i hl
            split at hk <;> simp at hk
            obtain ⟨rfl, rfl⟩ := hk
            rename_i t hv
            have := y_aeq (dst := dst) (type := type) (pos := pos) (after := after) (guard := guard) (yt := yt) hop ht hu hs hq hl hv hS (hA _ x a _ (by simp) ha hp) (hA _ y b _ (by simp) hb hq')
            exact this.cast (by cases neg <;> rfl) rfl
          · cases hk
        · cases hk
      split at hc
      · rename_i k0 hu hs
        split at hc
        · cases hc
        · rename_i hq
          cases hc
          exact mb false k0 rfl hu hs (by simpa using hq) rfl
      · rename_i k0 hu hs
        split at hc
        · cases hc
        · rename_i hq
          cases hc
          exact mb true k0 rfl hu hs (by simpa using hq) rfl
      · cases hc
    · rename_i e ht
      have mb : ∀ neg, op = (if neg then .neq else .eql) → y = .const (.slice none 0 0) → k = .nileq 0 neg a → Yields P ⟨dst, .binOp op xt x y yt, type, pos, after, guard⟩ ρ w (Post σ st.base.length (st.base ++ st.loc).length β I Wr wd w st' v) := by
        intro neg hop hy hke
        subst hke; subst hy
        simp only [runK] at hk
        split at hk <;> simp at hk
        · rename_i sz _ hp
          obtain ⟨rfl, rfl⟩ := hk
          have hx := nil_inv (hA _ x a _ (by simp) ha hp)
          have := y_nil_slice (dst := dst) (type := type) (pos := pos) (after := after) (guard := guard) (yt := yt) hop hcst ht hx hS
          exact this.cast (by cases neg <;> rfl) rfl
        · rename_i sz e0 es _ hp
          obtain ⟨rfl, rfl⟩ := hk
          have hr := hA _ x a _ (by simp) ha hp
          obtain ⟨ad, l, c, hx⟩ : ∃ ad l c, ρ x = .slice (some ad) l c := by
            generalize ρ x = z at hr
            cases hr with
            | d hr => cases hr with
              | s u h1 h2 h3 h4 h5 h6 => exact ⟨_, _, _, rfl⟩
          have := y_nil_slice (dst := dst) (type := type) (pos := pos) (after := after) (guard := guard) (yt := yt) hop hcst ht hx hS
          exact this.cast (by cases neg <;> rfl) rfl
        · rename_i h1 h2; simp at h1
        · rename_i h1 h2; simp at h1
      split at hc <;> simp at hc
      · exact mb false rfl rfl hc.symm
      · exact mb true rfl rfl hc.symm
    · rename_i ms ht
      have mb : ∀ neg, op = (if neg then .neq else .eql) → y = .const .nilIface → k = .nileq 1 neg a → Yields P ⟨dst, .binOp op xt x y yt, type, pos, after, guard⟩ ρ w (Post σ st.base.length (st.base ++ st.loc).length β I Wr wd w st' v) := by
        intro neg hop hy hke
        subst hke; subst hy
        simp only [runK] at hk
        split at hk <;> simp at hk
        · rename_i h1 h2; simp at h1
        · rename_i h1 h2; simp at h1
        · rename_i _ hp
          obtain ⟨rfl, rfl⟩ := hk
          have hx := (hA _ x a _ (by simp) ha hp).val
          have := y_nil_iface (dst := dst) (type := type) (pos := pos) (after := after) (guard := guard) (yt := yt) (r := true) hop hcst ht hx (.inl ⟨rfl, rfl⟩) hS
          exact this.cast (by cases neg <;> rfl) rfl
        · rename_i _ hp
          obtain ⟨rfl, rfl⟩ := hk
          have hr := hA _ x a _ (by simp) ha hp
          obtain ⟨k1, y1, hx⟩ : ∃ k1 y1, ρ x = .iface k1 y1 := by
            generalize ρ x = z at hr
            cases hr with
            | d hr => cases hr with
              | i t y => exact ⟨_, _, rfl⟩
          have := y_nil_iface (dst := dst) (type := type) (pos := pos) (after := after) (guard := guard) (yt := yt) (r := false) hop hcst ht hx (.inr ⟨_, _, rfl, rfl⟩) hS
          exact this.cast (by cases neg <;> rfl) rfl
      split at hc <;> simp at hc
      · exact mb false rfl rfl hc.symm
      · exact mb true rfl rfl hc.symm
    · simp at hc
  · simp at hc

theorem s_un {op : UnOp} {xt : TypeId} {x : Operand} (hc : compOp P cx dsts ⟨dst, .unOp op xt x, type, pos, after, guard⟩ = some k) (hk : runK E rec draw st env k = some (v, st')) (hS : SimH σ st.base.length β I Wr wd (st.base ++ st.loc) w)
    (hA : ArgsOK P E cx σ β I w st env dsts ρ [x]) : Yields P ⟨dst, .unOp op xt x, type, pos, after, guard⟩ ρ w (Post σ st.base.length (st.base ++ st.loc).length β I Wr wd w st' v) := by
  simp only [compOp] at hc
  split at hc <;> simp at hc
  subst hc
  rename_i a ha
  simp only [runK] at hk
  split at hk
  · rename_i p hp
    split at hk <;> simp at hk
    obtain ⟨rfl, rfl⟩ := hk
    rename_i r hr
    exact y_un hr hS (hA _ x a _ (by simp) ha hp)
  · simp at hk

theorem s_conv {src dt : TypeId} {x : Operand} (hc : compOp P cx dsts ⟨dst, .convert src dt x, type, pos, after, guard⟩ = some k) (hk : runK E rec draw st env k = some (v, st')) (hS : SimH σ st.base.length β I Wr wd (st.base ++ st.loc) w)
    (hA : ArgsOK P E cx σ β I w st env dsts ρ [x]) : Yields P ⟨dst, .convert src dt x, type, pos, after, guard⟩ ρ w (Post σ st.base.length (st.base ++ st.loc).length β I Wr wd w st' v) := by
  simp only [compOp] at hc
  split at hc
  · rename_i k1 k2 h1 h2
    split at hc <;> simp at hc
    subst hc
    rename_i a ha
    simp only [runK] at hk
    split at hk <;> simp at hk
    obtain ⟨rfl, rfl⟩ := hk
    rename_i hp
    exact y_conv h1 h2 hS (hA _ x a _ (by simp) ha hp)
  · simp at hc

theorem s_box {e : TypeId} {x : Operand} (hc : compOp P cx dsts ⟨dst, .box e x, type, pos, after, guard⟩ = some k) (hk : runK E rec draw st env k = some (v, st')) (hS : SimH σ st.base.length β I Wr wd (st.base ++ st.loc) w)
    (hA : ArgsOK P E cx σ β I w st env dsts ρ [x]) : Yields P ⟨dst, .box e x, type, pos, after, guard⟩ ρ w (Post σ st.base.length (st.base ++ st.loc).length β I Wr wd w st' v) := by
  simp only [compOp] at hc
  split at hc <;> simp at hc
  subst hc
  rename_i a ha
  simp only [runK] at hk
  split at hk
  · rename_i f hf
    split at hk <;> simp at hk
    obtain ⟨rfl, rfl⟩ := hk
    rename_i ho
    exact y_box ho hS (hA _ x a _ (by simp) ha hf)
  · simp at hk

theorem s_new {e : TypeId} (hgid : ∀ f g, cx.gid f = some g → σ g = some f) (hc : compOp P cx dsts ⟨dst, .alloc e, type, pos, after, guard⟩ = some k) (hk : runK E rec draw st env k = some (v, st')) (hS : SimH σ st.base.length β I Wr wd (st.base ++ st.loc) w) :
    Yields P ⟨dst, .alloc e, type, pos, after, guard⟩ ρ w (Post σ st.base.length (st.base ++ st.loc).length β I Wr wd w st' v) := by
  simp only [compOp] at hc
  split at hc <;> simp at hc
  subst hc
  rename_i z hz
  simp only [runK] at hk
  simp at hk
  obtain ⟨rfl, rfl⟩ := hk
  exact y_new hgid hz hS

theorem s_load {t : TypeId} {x : Operand} (hc : compOp P cx dsts ⟨dst, .load t x, type, pos, after, guard⟩ = some k) (hk : runK E rec draw st env k = some (v, st')) (hS : SimH σ st.base.length β I Wr wd (st.base ++ st.loc) w)
    (hA : ArgsOK P E cx σ β I w st env dsts ρ [x]) : Yields P ⟨dst, .load t x, type, pos, after, guard⟩ ρ w (Post σ st.base.length (st.base ++ st.loc).length β I Wr wd w st' v) := by
  simp only [compOp] at hc
  split at hc <;> simp at hc
  subst hc
  rename_i a g m ha hg hm
  simp only [runK] at hk
  split at hk
  · rename_i q off hp
    split at hk
    · rename_i cs hq
      split at hk <;> simp at hk
      obtain ⟨hpu, rfl, rfl⟩ := hk
      rename_i hv
      exact y_load_r hg hm hq hv hS (hA _ x a _ (by simp) ha hp)
    · simp at hk
  · rename_i q ver sz i off hp
    have main : ∀ es, (st.heap q = some (.row ver sz es) ∨ st.heap q = some (.frz ver sz es)) → (match es[i]? with | some x => (match partD x.cells g off m with | some v => some (FV.d v, st) | none => none) | none => none) = some (v, st') →
        Yields P ⟨dst, .load t x, type, pos, after, guard⟩ ρ w (Post σ st.base.length (st.base ++ st.loc).length β I Wr wd w st' v) := by
      intro es hq hk
      split at hk
      · rename_i e he
        split at hk <;> simp at hk
        obtain ⟨rfl, rfl⟩ := hk
        rename_i d hd
        exact y_load_e hg hm hq he hd hS (hA _ x a _ (by simp) ha hp)
      · simp at hk
    split at hk
    · rename_i ver' sz' es hq
      split at hk
      · rename_i hh
        obtain ⟨rfl, rfl⟩ := hh
        exact main es (.inl hq) hk
      · simp at hk
    · rename_i ver' sz' es hq
      split at hk
      · rename_i hh
        obtain ⟨rfl, rfl⟩ := hh
        exact main es (.inr hq) hk
      · simp at hk
    · simp at hk
  · rename_i y hp
    split at hk <;> simp at hk
    obtain ⟨rfl, rfl⟩ := hk
    rename_i d hd
    exact y_load_rc hg hm hd hS (hA _ x a _ (by simp) ha hp)
  · simp at hk

theorem s_store {t : TypeId} {x y : Operand} (hc : compOp P cx dsts ⟨dst, .store t x y, type, pos, after, guard⟩ = some k) (hk : runK E rec draw st env k = some (v, st')) (hdt : k.loud draw = true → MayW st.base.length st' wd) (hS : SimH σ st.base.length β I Wr wd (st.base ++ st.loc) w)
    (hA : ArgsOK P E cx σ β I w st env dsts ρ [x, y]) : Yields P ⟨dst, .store t x y, type, pos, after, guard⟩ ρ w (Post σ st.base.length (st.base ++ st.loc).length β I Wr wd w st' v) := by
  simp only [compOp] at hc
  split at hc <;> simp at hc
  subst hc
  rename_i a b m ha hb hm
  simp only [runK] at hk
  split at hk
  · rename_i q off f hp hf
    split at hk
    · rename_i cs hq
      split at hk <;> simp at hk
      obtain ⟨rfl, rfl⟩ := hk
      rename_i hh
      exact y_store_r hm hq hh.1 hh.2.1 hh.2.2 (hdt rfl) hS (hA _ x a _ (by simp) ha hp) (hA _ y b _ (by simp) hb hf)
    · simp at hk
  · rename_i q ver sz i off f hp hf
    split at hk
    · rename_i ver' sz' es hq
      split at hk
      · rename_i hh
        obtain ⟨rfl, rfl⟩ := hh
        split at hk
        · rename_i cs he
          split at hk <;> simp at hk
          obtain ⟨rfl, rfl⟩ := hk
          rename_i hh
          exact y_store_e hm hq he hh.1 hh.2.2 hh.2.1 rfl (hdt rfl) hS (hA _ x a _ (by simp) ha hp) (hA _ y b _ (by simp) hb hf)
        · rename_i e0 hne he
          split at hk <;> simp at hk
          obtain ⟨rfl, rfl⟩ := hk
          rename_i hh
          obtain ⟨h1, rfl, h3⟩ := hh
          have hcl := D.norm_one h3
          have he0 : e0.cells = [e0] := by cases e0 <;> first | rfl | exact absurd rfl (hne _)
          refine y_store_e hm hq he (by rw [hcl, h1]; rfl) (by rw [hcl]; simp [h3]) (by rw [he0, h1]; simp) (by rw [he0, hcl]; rfl) (hdt rfl) hS (hA _ x a _ (by simp) ha hp) (hA _ y b _ (by simp) hb hf)
        · simp at hk
      · simp at hk
    · simp at hk
  · simp at hk

theorem s_faddr {s : TypeId} {x : Operand} {i : Nat} (hc : compOp P cx dsts ⟨dst, .fieldAddr s x i, type, pos, after, guard⟩ = some k) (hk : runK E rec draw st env k = some (v, st')) (hS : SimH σ st.base.length β I Wr wd (st.base ++ st.loc) w)
    (hA : ArgsOK P E cx σ β I w st env dsts ρ [x]) : Yields P ⟨dst, .fieldAddr s x i, type, pos, after, guard⟩ ρ w (Post σ st.base.length (st.base ++ st.loc).length β I Wr wd w st' v) := by
  simp only [compOp] at hc
  split at hc
  · rename_i fs hs
    split at hc
    · rename_i fl hfl
      split at hc
      · rename_i a g m ha hg hm
        split at hc <;> simp at hc
        subst hc
        rename_i h0
        simp only [runK] at hk
        split at hk <;> (try simp at hk)
        · rename_i q o hp
          obtain ⟨rfl, rfl⟩ := hk
          exact y_faddr_r hs hfl hm h0 hS (hA _ x a _ (by simp) ha hp)
        · rename_i q ver sz j o hp
          obtain ⟨rfl, rfl⟩ := hk
          exact y_faddr_e hs hfl hm h0 hS (hA _ x a _ (by simp) ha hp)
        · rename_i y hp
          split at hk <;> simp at hk
          obtain ⟨rfl, rfl⟩ := hk
          rename_i d hd
          exact y_faddr_rc hs hfl hm h0 hd hS (hA _ x a _ (by simp) ha hp)
      · simp at hc
    · simp at hc
  · simp at hc

theorem s_field {s : TypeId} {x : Operand} {i : Nat} (hc : compOp P cx dsts ⟨dst, .field s x i, type, pos, after, guard⟩ = some k) (hk : runK E rec draw st env k = some (v, st')) (hS : SimH σ st.base.length β I Wr wd (st.base ++ st.loc) w)
    (hA : ArgsOK P E cx σ β I w st env dsts ρ [x]) : Yields P ⟨dst, .field s x i, type, pos, after, guard⟩ ρ w (Post σ st.base.length (st.base ++ st.loc).length β I Wr wd w st' v) := by
  simp only [compOp] at hc
  split at hc
  · rename_i fs hs
    split at hc
    · rename_i fl hfl
      split at hc <;> simp at hc
      subst hc
      rename_i a g m ha hg hm
      simp only [runK] at hk
      split at hk <;> (try simp at hk)
      · rename_i cs hp
        split at hk <;> simp at hk
        obtain ⟨rfl, rfl⟩ := hk
        rename_i hv
        exact y_fieldF hs hfl hg hm hv hS (hA _ x a _ (by simp) ha hp)
      · rename_i cs hp
        split at hk <;> simp at hk
        obtain ⟨rfl, rfl⟩ := hk
        rename_i hv
        exact y_fieldD hs hfl hg hm hv hS (hA _ x a _ (by simp) ha hp)
    · simp at hc
  · simp at hc
end step
end Fi
