/-
  What the interpreter keeps: the number of older objects, the variables of a call; and that a write to an older object is remembered.
-/
import Derived.Test.YtonmcbnjifeagaaGreatDoorFiComp
set_option linter.unusedVariables false
set_option linter.unusedSimpArgs false
namespace Fi
open Go

theorem setHeap_base (st : St) (p : Ref) (o : AObj) : (st.setHeap p o).base.length = st.base.length := by
  cases p with
  | loc i => rfl
  | old i => simp only [St.setHeap]; split <;> simp
theorem setHeap_loc (st : St) (p : Ref) (o : AObj) : (st.setHeap p o).loc.length = st.loc.length := by
  cases p with
  | loc i => simp [St.setHeap]
  | old i => simp only [St.setHeap]; split <;> simp
theorem setHeap_vars (st : St) (p : Ref) (o : AObj) : (st.setHeap p o).vars = st.vars := by cases p <;> rfl
theorem setHeap_dirty (st : St) (p : Ref) (o : AObj) (h : st.dirty = true) : (st.setHeap p o).dirty = true := by
  cases p with
  | loc i => exact h
  | old i => rfl

/-- What a step of a call keeps. -/
structure Kept (st st' : St) : Prop where
  base : st'.base.length = st.base.length
  vars : st'.vars = st.vars
  dirty : st.dirty = true → st'.dirty = true

theorem Kept.refl (st : St) : Kept st st := ⟨rfl, rfl, fun h => h⟩
theorem Kept.trans {a b c : St} (h : Kept a b) (k : Kept b c) : Kept a c := ⟨k.base.trans h.base, k.vars.trans h.vars, fun x => k.dirty (h.dirty x)⟩
theorem Kept.setHeap (st : St) (p : Ref) (o : AObj) : Kept st (st.setHeap p o) := ⟨setHeap_base st p o, setHeap_vars st p o, setHeap_dirty st p o⟩
theorem Kept.push (st : St) (o : AObj) : Kept st (st.push o) := ⟨rfl, rfl, fun h => h⟩

theorem Kept.freezeAll : ∀ (rs : List Ref) (st : St), Kept st (Fi.freezeAll st rs)
  | [], st => .refl st
  | p :: r, st => by
    simp only [Fi.freezeAll]
    split
    · exact (Kept.setHeap st p _).trans (Kept.freezeAll r _)
    · exact Kept.freezeAll r st

theorem freezeAll_loc : ∀ (rs : List Ref) (st : St), (Fi.freezeAll st rs).loc.length = st.loc.length
  | [], st => rfl
  | p :: r, st => by
    simp only [Fi.freezeAll]
    split
    · rw [freezeAll_loc r, setHeap_loc]
    · exact freezeAll_loc r st

/-- A callee hands back at least the objects that it was given. -/
def RecLen (rec : Nat → List FV → List AObj → CallR) : Prop := ∀ g args B v B', rec g args B = some (v, some B') → B.length ≤ B'.length

theorem callPure_kept {rec : Nat → List FV → List AObj → CallR} {draw : Bool} {st st' : St} {g : Nat} {xs : List FV} {rows : List Ref} {v : FV} (h : callPure rec draw st g xs rows = some (v, st')) : Kept st st' := by
  unfold callPure at h
  split at h
  · split at h
    · cases h; exact .refl _
    · split at h
      · cases h
      · cases h; exact Kept.freezeAll _ _
  · split at h
    · cases h; exact ⟨rfl, rfl, fun h => h⟩
    · cases h
  · cases h

theorem callFull_kept {rec : Nat → List FV → List AObj → CallR} (hr : RecLen rec) {draw : Bool} {st st' : St} {g : Nat} {xs : List FV} {rows : List Ref} {v : FV} (h : callFull rec draw st g xs rows = some (v, st')) : Kept st st' := by
  unfold callFull at h
  split at h
  · split at h
    · cases h; exact .refl _
    · split at h
      · cases h
      · cases h; exact Kept.freezeAll _ _
  · rename_i B hB
    split at h
    · cases h
    · cases h
      have hk := Kept.freezeAll rows st
      have hl := hr _ _ _ _ _ hB
      refine ⟨?_, rfl, fun _ => rfl⟩
      simp only [List.length_append, List.length_map, List.length_take] at hl ⊢
      rw [hk.base] at hl
      omega
  · cases h

theorem doCall_kept {rec : Nat → List FV → List AObj → CallR} (hr : RecLen rec) {draw : Bool} {st st' : St} {g : Nat} {args : List FV} {v : FV} (h : doCall rec draw st g args = some (v, st')) : Kept st st' := by
  unfold doCall at h
  split at h
  · cases h
  · split at h
    · exact callPure_kept h
    · exact callFull_kept hr h

theorem runK_kept {E : Env} {rec : Nat → List FV → List AObj → CallR} (hr : RecLen rec) {draw : Bool} {st st' : St} {env : List FV} {k : K} {v : FV} (h : runK E rec draw st env k = some (v, st')) : Kept st st' := by
  have hs : ∀ {x y : FV} {a b : St}, some (x, a) = some (y, b) → a = b := fun h => by cases h; rfl
  cases k
  case call g args =>
    simp only [runK] at h
    split at h
    · exact doCall_kept hr h
    · cases h
  case callv f args =>
    simp only [runK] at h
    split at h
    · exact doCall_kept hr h
    · exact doCall_kept hr h
    · cases h
  all_goals
    simp only [runK] at h
    (repeat' split at h) <;> first
      | (cases h; done)
      | (cases hs h; exact .refl _)
      | (cases hs h; exact .push _ _)
      | (cases hs h; exact .setHeap _ _ _)

theorem runOps_kept {E : Env} {rec : Nat → List FV → List AObj → CallR} (hr : RecLen rec) : ∀ (ops : List FOp) {st st' : St} {env env' : List FV}, runOps E rec ops st env = some (st', env') → Kept st st'
  | [], st, st', env, env', h => by simp [runOps] at h; rw [h.1]; exact .refl _
  | o :: ops, st, st', env, env', h => by
    simp only [runOps] at h
    split at h
    · cases h
    · exact runOps_kept hr ops h
    · split at h
      · cases h
      · rename_i h1
        exact (runK_kept hr h1).trans (runOps_kept hr ops h)

structure KeptB (st st' : St) : Prop where
  base : st'.base.length = st.base.length
  dirty : st.dirty = true → st'.dirty = true

theorem finish_len {F : FFunc} {st : St} {v : FV} {B : List AObj} (h : finish F st = some (v, some B)) : st.base.length ≤ B.length := by
  unfold finish at h
  split at h
  · cases h
  · split at h
    · cases h
    · simp only [finish2, Option.some.injEq] at h
      split at h
      · cases h
      · simp only [Option.some.injEq, Prod.mk.injEq] at h
        rw [← h.2, List.length_map, List.length_append, (Kept.freezeAll _ st).base]
        omega

theorem enter_len {E : Env} {run : FStmt → St → Option (Out × St)} (hrun : ∀ s st o st', run s st = some (o, st') → KeptB st st') : RecLen (fun g args B => enter E g args B run) := by
  intro g args B v B' h
  change enter E g args B run = some (v, some B') at h
  unfold enter at h
  split at h
  · split at h
    · split at h
      · cases h
      · cases h
    · cases h
  · split at h
    · cases h
    · split at h
      · split at h
        · cases h
        · rename_i h1
          have := finish_len h
          rw [(hrun _ _ _ _ h1).base] at this
          exact this
        · cases h
      · cases h

theorem exec_kept (E : Env) : ∀ (n : Nat) (s : FStmt) (st : St) (o : Out) (st' : St), exec E n s st = some (o, st') → KeptB st st'
  | 0, s, st, o, st', h => by simp [exec] at h
  | n + 1, s, st, o, st', h => by
    have ih := exec_kept E n
    have hr : RecLen (fun g args B => enter E g args B fun F st' => exec E n F st') := enter_len (fun s st o st' h => ih s st o st' h)
    cases s <;> simp only [exec] at h
    case skip => cases h; exact ⟨rfl, fun h => h⟩
    case region ops outs apart =>
      split at h
      · split at h
        · rename_i h1
          cases h
          have := runOps_kept hr _ h1
          exact ⟨this.base, this.dirty⟩
        · cases h
      · cases h
    case seq a b =>
      split at h
      · rename_i h1
        have k1 := ih _ _ _ _ h1
        have k2 := ih _ _ _ _ h
        exact ⟨k2.base.trans k1.base, fun x => k2.dirty (k1.dirty x)⟩
      · exact ih _ _ _ _ h
    case cond x a b =>
      split at h
      · exact ih _ _ _ _ h
      · cases h
    case block id b =>
      split at h
      · rename_i h1
        have k1 := ih _ _ _ _ h1
        split at h <;> cases h <;> exact k1
      · exact ih _ _ _ _ h
    case loop b =>
      split at h
      · rename_i h1
        have k1 := ih _ _ _ _ h1
        have k2 := ih _ _ _ _ h
        exact ⟨k2.base.trans k1.base, fun x => k2.dirty (k1.dirty x)⟩
      · exact ih _ _ _ _ h
    case exit id => cases h; exact ⟨rfl, fun h => h⟩
    case ret => cases h; exact ⟨rfl, fun h => h⟩
    case kill js => cases h; exact ⟨rfl, fun h => h⟩

theorem rec_len (E : Env) (n : Nat) : RecLen (fun g args B => enter E g args B fun F st' => exec E n F st') := enter_len (fun s st o st' h => exec_kept E n s st o st' h)
end Fi
