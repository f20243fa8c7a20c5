import Derived.Test.YtonmcbnjifeagaaGreatDoorFiCall4
set_option linter.unusedVariables false
set_option linter.unusedSimpArgs false
namespace Fi
open Go

section step
variable {P : Program} {E : Env} {cx : Cx} {σ : Nat → Option FuncId} {β : Map} {I Wr : Nat → Prop} {wd : Nat → Prop} {w : World} {st st' : St} {env : List FV} {dsts : List (Option Tmp)} {ρ : Operand → Value}
variable {rec : Nat → List FV → List AObj → CallR} {draw : Bool} {k : K} {v : FV} {o : Oper}

theorem ArgsOK.sub {xs ys : List Operand} (h : ArgsOK P E cx σ β I w st env dsts ρ xs) (hs : ∀ x ∈ ys, x ∈ xs) : ArgsOK P E cx σ β I w st env dsts ρ ys := fun ty x y f hm => h ty x y f (hs x hm)

theorem runK_sound (hcst : ∀ v, ρ (.const v) = v) (hfun : ∀ f, ρ (.func f) = .func (.func f) #[] #[]) (hgid : ∀ f g, cx.gid f = some g → σ g = some f) (hB : Bodies P E σ)
    (hrl : RecLen rec) (hrec : RecOK P E σ rec) (hG : Globs E σ I w)
    (hc : compOp P cx dsts o = some k) (hk : runK E rec draw st env k = some (v, st')) (hdt : k.loud draw = true → MayW st.base.length st' wd) (hS : SimH σ st.base.length β I Wr wd (st.base ++ st.loc) w) (hA : ArgsOK P E cx σ β I w st env dsts ρ o.op.operands.toList) :
    Yields P o ρ w (Post σ st.base.length (st.base ++ st.loc).length β I Wr wd w st' v) := by
  obtain ⟨dst, op, type, pos, after, guard⟩ := o
  cases op
  case move x => exact s_mov (.inl rfl) hc hk hS (hA.sub (by simp [Op.operands]))
  case assign x => exact s_mov (.inr rfl) hc hk hS (hA.sub (by simp [Op.operands]))
  case pick c a b => exact s_pick hc hk hS (hA.sub (by simp [Op.operands]))
  case alloc e => exact s_new hgid hc hk hS
  case box e x => exact s_box hc hk hS (hA.sub (by simp [Op.operands]))
  case build t parts => exact s_build hgid hc hk hS (hA.sub (by simp [Op.operands]))
  case buildSlice t len parts => exact s_lit hgid hc hk hS (hA.sub (by simp [Op.operands]))
  case load t x => exact s_load hc hk hS (hA.sub (by simp [Op.operands]))
  case store t x y => exact s_store hc hk hdt hS (hA.sub (by simp [Op.operands]))
  case fieldAddr s x i => exact s_faddr hc hk hS (hA.sub (by simp [Op.operands]))
  case field s x i => exact s_field hc hk hS (hA.sub (by simp [Op.operands]))
  case indexAddr t x ix => exact s_iaddr hc hk hS (hA.sub (by simp [Op.operands]))
  case index t x ix => exact s_index hc hk hS (hA.sub (by simp [Op.operands]))
  case makeSlice t l c => exact s_mk hgid hc hk hS (hA.sub (by simp [Op.operands]))
  case slice t x lo hi mx =>
    cases mx with
    | none => exact s_slice hc hk hS (hA.sub (by simp [Op.operands]))
    | some m => simp [compOp] at hc
  case extract x i => exact s_ext hc hk hS (hA.sub (by simp [Op.operands]))
  case makeFunc fn first captured =>
    cases fn with
    | func f => exact s_clo hgid hc hk hS (hA.sub (by simp [Op.operands]))
    | _ => simp [compOp] at hc
  case binOp op xt x y yt => exact s_bin hcst hc hk hS (hA.sub (by simp [Op.operands]))
  case unOp op t x => exact s_un hc hk hS (hA.sub (by simp [Op.operands]))
  case convert src dt x => exact s_conv hc hk hS (hA.sub (by simp [Op.operands]))
  case call c =>
    obtain ⟨callee, args, tys⟩ := c
    cases callee with
    | value x => exact s_call rfl rfl hfun hgid hB hrl hrec hG hc hk hdt hS (hA.sub (by simp [Op.operands, Call.operands]))
    | builtin b => exact s_builtin hgid hc hk hdt hS (hA.sub (by simp [Op.operands, Call.operands]))
    | invoke r nm => simp [compOp] at hc
  all_goals simp [compOp] at hc
end step
end Fi
