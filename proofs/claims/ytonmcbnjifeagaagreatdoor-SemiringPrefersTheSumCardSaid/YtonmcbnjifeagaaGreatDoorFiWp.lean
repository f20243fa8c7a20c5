/-
  Rules for running F-code by rewriting: equations of the interpreter with calls kept folded, and more fuel does no harm.
-/
import Derived.Test.YtonmcbnjifeagaaGreatDoorFiSeat
import Derived.Test.YtonmcbnjifeagaaGreatDoorFiBin
set_option linter.unusedVariables false
set_option linter.unusedSimpArgs false
namespace Fi
open Go

section eqs
variable {E : Env} {n : Nat} {st : St}

theorem exec_skip : exec E (n + 1) .skip st = some (.norm, st) := rfl
theorem exec_ret : exec E (n + 1) .ret st = some (.ret, st) := rfl
theorem exec_exit {id : Nat} : exec E (n + 1) (.exit id) st = some (.exit id, st) := rfl
theorem exec_kill {js : List Nat} : exec E (n + 1) (.kill js) st = some (.norm, { st with vars := killVars st.vars js }) := rfl
theorem exec_seq {a b : FStmt} : exec E (n + 1) (.seq a b) st = match exec E n a st with
      | some (.norm, st') => exec E n b st'
      | r => r := rfl
theorem exec_cond {x : Arg} {a b : FStmt} : exec E (n + 1) (.cond x a b) st = match argV E st [] x with
      | some (.d (.v (.bool t))) => exec E n (if t then a else b) st
      | _ => none := rfl
theorem exec_block {id : Nat} {b : FStmt} : exec E (n + 1) (.block id b) st = match exec E n b st with
      | some (.exit id', st') => if id' = id then some (.norm, st') else some (.exit id', st')
      | r => r := rfl
theorem exec_loop {b : FStmt} : exec E (n + 1) (.loop b) st = match exec E n b st with
      | some (.norm, st') => exec E n (.loop b) st'
      | r => r := rfl
theorem exec_region {ops : List FOp} {outs apart : List (Nat × Nat)} : exec E (n + 1) (.region ops outs apart) st =
    if apartOk st apart then (match runOps E (callN E n) ops st [] with
      | some (st', env) => some (.norm, { st' with vars := setVars st'.vars env outs })
      | none => none) else none := rfl

theorem call_fn {g : Nat} {F : FFunc} {args : List FV} {B : List AObj} (hp : E.prim g = none) (hf : E.fn g = some F) (hl : args.length = F.np) :
    callN E n g args B = match exec E n F.body { vars := args ++ List.replicate (F.nv - F.np) .u, base := B, loc := [], dirty := false } with
        | some (.exit _, _) => none
        | some (_, st') => finish F st'
        | none => none := by
  unfold callN enter
  rw [hp, hf]
  simp only [hl, if_true]
  rfl

theorem call_prim {g : Nat} {p : List D → Option D} {ds : List D} {v : D} (hp : E.prim g = some p) (hv : p ds = some v) :
    callN E n g (ds.map .d) [] = some (.d v, none) := by
  have ha : allD (ds.map .d) = some ds := by
    clear hv
    induction ds with
    | nil => rfl
    | cons x r ih => simp only [List.map_cons, allD, ih]
  unfold callN enter
  simp only [hp, ha, hv]
end eqs

/-! More fuel does no harm. -/
def Le (r r' : Nat → List FV → List AObj → CallR) : Prop := ∀ g args B x, r g args B = some x → r' g args B = some x

section mono
variable {E : Env} {r r' : Nat → List FV → List AObj → CallR}

theorem callPure_mono (h : Le r r') {draw : Bool} {st : St} {g : Nat} {xs : List FV} {rows : List Ref} {z : FV × St} (hz : callPure r draw st g xs rows = some z) : callPure r' draw st g xs rows = some z := by
  unfold callPure at hz ⊢
  cases hr : r g xs [] with
  | none => rw [hr] at hz; cases hz
  | some x => rw [h _ _ _ _ hr]; rw [hr] at hz; exact hz

theorem callFull_mono (h : Le r r') {draw : Bool} {st : St} {g : Nat} {xs : List FV} {rows : List Ref} {z : FV × St} (hz : callFull r draw st g xs rows = some z) : callFull r' draw st g xs rows = some z := by
  unfold callFull at hz ⊢
  cases hr : r g (FV.toOldL st.base.length xs) (((freezeAll st rows).base ++ (freezeAll st rows).loc).map (AObj.toOld st.base.length)) with
  | none => rw [hr] at hz; cases hz
  | some x => rw [h _ _ _ _ hr]; rw [hr] at hz; exact hz

theorem doCall_mono (h : Le r r') {draw : Bool} {st : St} {g : Nat} {args : List FV} {z : FV × St} (hz : doCall r draw st g args = some z) : doCall r' draw st g args = some z := by
  unfold doCall at hz ⊢
  split at hz
  · cases hz
  · split at hz
    · rename_i hc; rw [if_pos hc]; exact callPure_mono h hz
    · rename_i hc; rw [if_neg hc]; exact callFull_mono h hz

theorem runK_mono (h : Le r r') {draw : Bool} {st : St} {env : List FV} {k : K} {z : FV × St} (hz : runK E r draw st env k = some z) : runK E r' draw st env k = some z := by
  cases k with
  | call g args =>
    simp only [runK] at hz ⊢
    split at hz
    · exact doCall_mono h hz
    · cases hz
  | callv f args =>
    simp only [runK] at hz ⊢
    split at hz
    · exact doCall_mono h hz
    · exact doCall_mono h hz
    · cases hz
  | _ => exact hz

theorem runOps_mono (h : Le r r') : ∀ {ops : List FOp} {st : St} {env : List FV} {z : St × List FV}, runOps E r ops st env = some z → runOps E r' ops st env = some z
  | [], st, env, z, hz => hz
  | o :: rest, st, env, z, hz => by
    unfold runOps at hz ⊢
    split at hz
    · cases hz
    · exact runOps_mono h hz
    · rename_i hg
      split at hz
      · cases hz
      · rename_i v st' hk
        rw [runK_mono h hk]
        exact runOps_mono h hz

theorem exec_mono1 : ∀ (n : Nat) (c : FStmt) (st : St) (z : Out × St), exec E n c st = some z → exec E (n + 1) c st = some z
  | 0, _, _, _, h => by cases h
  | n + 1, c, st, z, h => by
    have ih := exec_mono1 n
    have hc : Le (callN E n) (callN E (n + 1)) := by
      intro g args B x hx
      unfold callN enter at hx ⊢
      split at hx
      · exact hx
      · split at hx
        · cases hx
        · rename_i F hF
          split at hx
          · rename_i hl
            rw [if_pos hl]
            generalize hi : ({ vars := args ++ List.replicate (F.nv - F.np) FV.u, base := B, loc := [], dirty := false } : St) = s0 at hx ⊢
            cases he : exec E n F.body s0 with
            | none => rw [he] at hx; cases hx
            | some z => rw [ih _ _ _ he]; rw [he] at hx; exact hx
          · cases hx
    cases c with
    | skip => exact h
    | ret => exact h
    | exit id => exact h
    | kill js => exact h
    | region ops outs apart =>
      rw [exec_region] at h ⊢
      split at h
      · rename_i ha
        rw [if_pos ha]
        split at h
        · rename_i st' env hr
          rw [runOps_mono hc hr]; exact h
        · cases h
      · cases h
    | seq a b =>
      rw [exec_seq] at h ⊢
      cases he : exec E n a st with
      | none => rw [he] at h; cases h
      | some x =>
        obtain ⟨o, st'⟩ := x
        rw [ih _ _ _ he]
        rw [he] at h
        cases o with
        | norm => exact ih _ _ _ h
        | exit id => exact h
        | ret => exact h
    | cond x a b =>
      rw [exec_cond] at h ⊢
      split at h
      · exact ih _ _ _ h
      · cases h
    | block id b =>
      rw [exec_block] at h ⊢
      cases he : exec E n b st with
      | none => rw [he] at h; cases h
      | some x => rw [ih _ _ _ he]; rw [he] at h; exact h
    | loop b =>
      rw [exec_loop] at h ⊢
      cases he : exec E n b st with
      | none => rw [he] at h; cases h
      | some x =>
        obtain ⟨o, st'⟩ := x
        rw [ih _ _ _ he]
        rw [he] at h
        cases o with
        | norm => exact ih _ _ _ h
        | exit id => exact h
        | ret => exact h

theorem exec_mono {n m : Nat} {c : FStmt} {st : St} {z : Out × St} (h : exec E n c st = some z) (hm : n ≤ m) : exec E m c st = some z := by
  induction hm with
  | refl => exact h
  | step _ ih => exact exec_mono1 _ _ _ _ ih

theorem call_mono {n m g : Nat} {args : List FV} {B : List AObj} {x : FV × Option (List AObj)} (hx : callN E n g args B = some x) (hm : n ≤ m) : callN E m g args B = some x := by
  unfold callN enter at hx ⊢
  split at hx
  · exact hx
  · split at hx
    · cases hx
    · rename_i F hF
      split at hx
      · rename_i hl
        rw [if_pos hl]
        generalize hi : ({ vars := args ++ List.replicate (F.nv - F.np) FV.u, base := B, loc := [], dirty := false } : St) = s0 at hx ⊢
        cases he : exec E n F.body s0 with
        | none => rw [he] at hx; cases hx
        | some z => rw [exec_mono he hm]; rw [he] at hx; exact hx
      · cases hx
end mono

/-- A call answers so, with enough fuel. -/
def Ca (E : Env) (g : Nat) (args : List FV) (r : FV × Option (List AObj)) : Prop := ∃ n0, ∀ n, n0 ≤ n → callN E n g args [] = some r

theorem Ca.of {E : Env} {n g : Nat} {args : List FV} {r : FV × Option (List AObj)} (h : callN E n g args [] = some r) : Ca E g args r := ⟨n, fun _ hm => call_mono h hm⟩

end Fi
