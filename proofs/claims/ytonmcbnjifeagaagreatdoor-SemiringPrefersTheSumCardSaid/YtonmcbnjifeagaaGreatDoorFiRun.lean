/-
  What a step of the interpreter does to its heap, by kinds.
-/
import Derived.Test.YtonmcbnjifeagaaGreatDoorFiRegion
set_option linter.unusedVariables false
set_option linter.unusedSimpArgs false
namespace Fi
open Go

def St.H (st : St) : List AObj := st.base ++ st.loc

section run
variable {E : Env} {rec : Nat → List FV → List AObj → CallR} {q : Bool} {st st' : St} {env : List FV} {k : K} {v : FV}

theorem argV_vars {st2 : St} (h : st2.vars = st.vars) (x : Arg) : argV E st2 env x = argV E st env x := by cases x <;> simp [argV, h]
theorem argsV_vars {st2 : St} (h : st2.vars = st.vars) : ∀ xs : List Arg, argsV E st2 env xs = argsV E st env xs
  | [] => rfl
  | x :: xs => by simp only [argsV, argV_vars h, argsV_vars h xs]

theorem freezeAll_len (rs : List Ref) (st : St) : (freezeAll st rs).H.length = st.H.length := by
  simp [St.H, (Kept.freezeAll rs st).base, freezeAll_loc]

/-- Objects stay, and none is taken away. -/
theorem runK_len (hr : RecLen rec) (h : runK E rec q st env k = some (v, st')) : st.H.length ≤ st'.H.length := by
  have hs : ∀ {x y : FV} {a b : St}, some (x, a) = some (y, b) → a = b := fun h => by cases h; rfl
  have hcall : ∀ {g : Nat} {xs : List FV}, doCall rec q st g xs = some (v, st') → st.H.length ≤ st'.H.length := by
    intro g xs h
    unfold doCall at h
    split at h
    · cases h
    · split at h
      · unfold callPure at h
        split at h
        · split at h
          · cases hs h; exact Nat.le_refl _
          · split at h
            · cases h
            · cases hs h; exact Nat.le_of_eq (freezeAll_len _ _).symm
        · split at h
          · cases hs h; simp [St.H]
          · cases h
        · cases h
      · unfold callFull at h
        split at h
        · split at h
          · cases hs h; exact Nat.le_refl _
          · split at h
            · cases h
            · cases hs h; exact Nat.le_of_eq (freezeAll_len _ _).symm
        · rename_i B hB
          split at h
          · cases h
          · have := hr _ _ _ _ _ hB
            cases hs h
            simp only [St.H, List.take_append_drop]
            have hl := freezeAll_len (xs.flatMap FV.rows) st
            simp only [St.H, List.length_map] at this hl
            rw [hl] at this
            exact this
        · cases h
  cases k
  case call g args =>
    simp only [runK] at h
    split at h
    · exact hcall h
    · cases h
  case callv f args =>
    simp only [runK] at h
    split at h
    · exact hcall h
    · exact hcall h
    · cases h
  all_goals
    simp only [runK] at h
    (repeat' split at h) <;> first
      | (cases h; done)
      | (cases hs h; exact Nat.le_refl _)
      | (cases hs h; simp [St.H, St.push]; done)
      | (cases hs h; simp [St.H, Fi.setHeap_base, setHeap_loc]; done)

/-- What does not look at memory leaves it as it is, and does the same elsewhere. -/
theorem runK_pure (hm : k.mem = false) (h : runK E rec q st env k = some (v, st')) : st' = st ∧ ∀ st2 : St, st2.vars = st.vars → runK E rec q st2 env k = some (v, st2) := by
  have hs : ∀ {x y : FV} {a b : St}, some (x, a) = some (y, b) → x = y ∧ a = b := fun h => by cases h; exact ⟨rfl, rfl⟩
  cases k <;> first
    | (simp [K.mem] at hm; done)
    | skip
  all_goals
    simp only [runK] at h
    refine ⟨?_, fun st2 h2 => ?_⟩
    · (repeat' split at h) <;> first
        | (cases h; done)
        | (exact (hs h).2.symm)
    · have ha : argV E st2 env = argV E st env := funext (argV_vars h2)
      have hl : ∀ xs, argsV E st2 env xs = argsV E st env xs := argsV_vars h2
      simp only [runK, ha, hl]
      (repeat' split at h) <;> first
        | (cases h; done)
        | (cases h; simp_all; done)
        | (cases h; simp_all; omega)

/-- A load: the same, where the object is the same. -/
theorem runK_load {agg : Bool} {m : Nat} {x : Arg} (h : runK E rec q st env (.load agg m x) = some (v, st')) :
    st' = st ∧ ∀ st2 : St, st2.vars = st.vars → (∀ (p : Ref) (y : FV), argV E st env x = some y → ((∃ off, y = .r p off) ∨ ∃ ver sz i off, y = .e p ver sz i off) → st2.heap p = st.heap p) → runK E rec q st2 env (.load agg m x) = some (v, st2) := by
  have hs : ∀ {x y : FV} {a b : St}, some (x, a) = some (y, b) → x = y ∧ a = b := fun h => by cases h; exact ⟨rfl, rfl⟩
  simp only [runK] at h
  refine ⟨?_, fun st2 h2 hh => ?_⟩
  · (repeat' split at h) <;> first
      | (cases h; done)
      | (exact (hs h).2.symm)
  · simp only [runK, argV_vars h2 x]
    generalize argV E st env x = y at *
    cases y with
    | none => cases h
    | some y =>
      cases y <;> first
        | (cases h; done)
        | skip
      · rename_i p off
        simp only [hh p _ rfl (.inl ⟨_, rfl⟩)]
        (repeat' split at h) <;> first
          | (cases h; done)
          | (cases h; simp_all; done)
      · rename_i p ver sz i off
        simp only [hh p _ rfl (.inr ⟨_, _, _, _, rfl⟩)]
        (repeat' split at h) <;> first
          | (cases h; done)
          | (cases h; simp_all; done)
      · (repeat' split at h) <;> first
          | (cases h; done)
          | (cases h; simp_all; done)

/-- A store by way of a variable that points to an object. -/
theorem runK_store {m : Nat} {b : Nat} {x : Arg} {p : Ref} {o0 : Nat} (hb : st.vars[b]? = some (.r p o0)) (h : runK E rec q st env (.store m (.var b) x) = some (v, st')) : ∃ o, st'.H = st.H.set (p.abs st.base.length) o := by
  have hs : ∀ {x y : FV} {a b : St}, some (x, a) = some (y, b) → x = y ∧ a = b := fun h => by cases h; exact ⟨rfl, rfl⟩
  simp only [runK, argV, hb] at h
  split at h
  · rename_i y1 y2 q' off v' e1 e2
    cases e1
    split at h
    · split at h
      · rw [← (hs h).2]
        exact ⟨_, St.setHeap_eq _ _ _⟩
      · cases h
    · cases h
  · rename_i h1 h2; cases h1
  · cases h

/-- What is not loud may put objects behind those that are there. -/
theorem runK_quiet (hm : k.loud q = false) (h : runK E rec q st env k = some (v, st')) : st'.base = st.base ∧ ∃ new, st'.loc = st.loc ++ new := by
  have hs : ∀ {x y : FV} {a b : St}, some (x, a) = some (y, b) → a = b := fun h => by cases h; rfl
  have hcall : ∀ {g : Nat} {xs : List FV}, q = true → doCall rec q st g xs = some (v, st') → st'.base = st.base ∧ ∃ new, st'.loc = st.loc ++ new := by
    intro g xs hq h
    subst hq
    unfold doCall at h
    split at h
    · cases h
    · split at h
      · unfold callPure at h
        split at h
        · split at h
          · cases hs h; exact ⟨rfl, [], by simp⟩
          · cases h
        · split at h
          · cases hs h; exact ⟨rfl, _, rfl⟩
          · cases h
        · cases h
      · unfold callFull at h
        split at h
        · split at h
          · cases hs h; exact ⟨rfl, [], by simp⟩
          · cases h
        · cases h
        · cases h
  cases k
  case call g args =>
    simp only [runK] at h
    split at h
    · exact hcall (by simpa [K.loud] using hm) h
    · cases h
  case callv f args =>
    simp only [runK] at h
    split at h
    · exact hcall (by simpa [K.loud] using hm) h
    · exact hcall (by simpa [K.loud] using hm) h
    · cases h
  case store => simp [K.loud] at hm
  case app sz bytes x y =>
    cases x with
    | c d =>
      cases d with
      | n sz' =>
        simp only [runK, argV] at h
        (repeat' split at h) <;> first
          | (cases h; done)
          | (cases hs h; exact ⟨rfl, _, rfl⟩)
          | (cases hs h; exact ⟨rfl, [], (List.append_nil _).symm⟩)
          | (simp_all; done)
      | _ => simp [K.loud] at hm
    | _ => simp [K.loud] at hm
  all_goals
    simp only [runK] at h
    (repeat' split at h) <;> first
      | (cases h; done)
      | (cases hs h; exact ⟨rfl, _, rfl⟩)
      | (cases hs h; exact ⟨rfl, [], (List.append_nil _).symm⟩)
end run
end Fi
