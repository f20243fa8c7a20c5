/-
  Equality of arrays of integers.
-/
import Derived.Test.YtonmcbnjifeagaaGreatDoorFiOps7
import Derived.ChangeKeysEq
import Derived.Laws.StructEq
set_option linter.unusedVariables false
set_option linter.unusedSimpArgs false
namespace Fi
open Go

section aeq
variable {P : Program} {σ : Nat → Option FuncId} {β : Map} {I Wr : Nat → Prop} {wd : Nat → Prop} {w : World} {st : St} {n : Nat} {ρ : Operand → Value}
variable {dst : Option Tmp} {type : TypeId} {pos : String} {after : Array Edge} {guard : Option (Nat × Bool)}

theorem run_part_one {e : TypeId} (hg : aggT P e = some false) {xs : Array Value} {off : Nat} {v : Value} (hx : xs[off]? = some v) (w : World) : (part e xs off).run P w = .ok v w := by
  simp [part, run_isAgg hg, hx]

theorem intsEq_cons {x y : D} {p q : List D} {t : Bool} (h : intsEq (x :: p) (y :: q) = some t) : ∃ k a b r, x = .v (.int k a) ∧ y = .v (.int k b) ∧ intsEq p q = some r ∧ t = (a == b && r) := by
  unfold intsEq at h
  split at h
  · rename_i e1 e2; cases e1
  · rename_i k a r1 k' b s e1 e2
    cases e1; cases e2
    split at h
    · rename_i hk
      subst hk
      split at h
      · rename_i t' ht
        cases h
        exact ⟨_, _, _, _, rfl, rfl, ht, rfl⟩
      · cases h
    · cases h
  · cases h

theorem run_items_ints {e : TypeId} {k0 : IntKind} (hu : P.underlying e = some (.int k0)) (d : Nat) {xs ys : Array Value} (w : World) : ∀ (p q : List D) (s : Nat) {t : Bool}, intsEq p q = some t →
    (∀ (i : Nat) (c : D), p[i]? = some c → ∃ x, xs[s + i]? = some x ∧ RepD σ I w c x) → (∀ (i : Nat) (c : D), q[i]? = some c → ∃ x, ys[s + i]? = some x ∧ RepD σ I w c x) →
    (Op.eqItems (d + 1) e 1 xs ys (List.range' s p.length)).run P w = .ok t w
  | [], [], s, t, h, _, _ => by
    simp [intsEq] at h; subst h
    simp [Op.eqItems]
  | [], _ :: _, s, t, h, _, _ => by simp [intsEq] at h
  | _ :: _, [], s, t, h, _, _ => by simp [intsEq] at h
  | x :: p, y :: q, s, t, h, hp, hq => by
    obtain ⟨k, a, b, r, rfl, rfl, h1, rfl⟩ := intsEq_cons h
    obtain ⟨x1, g1, g2⟩ := hp 0 _ rfl
    obtain ⟨y1, g3, g4⟩ := hq 0 _ rfl
    cases g2; cases g4
    have hg : aggT P e = some false := by simp [aggT, hu]
    have ih := run_items_ints hu d (xs := xs) (ys := ys) w p q (s + 1) h1 (fun i c hc => by
      obtain ⟨x, e1, e2⟩ := hp (i + 1) c (by simpa using hc)
      exact ⟨x, by rw [show s + 1 + i = s + (i + 1) by omega]; exact e1, e2⟩) (fun i c hc => by
      obtain ⟨x, e1, e2⟩ := hq (i + 1) c (by simpa using hc)
      exact ⟨x, by rw [show s + 1 + i = s + (i + 1) by omega]; exact e1, e2⟩)
    simp only [List.length_cons, List.range'_succ, Op.eqItems, Nat.mul_one, Sem.run_bind]
    rw [run_part_one hg (by simpa using g1)]
    simp only [Result.andThen_ok]
    rw [run_part_one hg (by simpa using g3)]
    simp only [Result.andThen_ok]
    rw [run_equalIn_int w d e k k0 a b hu]
    simp only [Result.andThen_ok]
    cases hab : (a == b)
    · simp
    · simpa using ih

theorem y_aeq {neg : Bool} {op : BinOp} (hop : op = if neg then .neq else .eql) {xt yt e : TypeId} {x y : Operand} {p q : List D} {len : Nat} {k0 : IntKind} {t : Bool} (ht : P.underlying xt = some (.array len e)) (hu : P.underlying e = some (.int k0)) (hs : sizeT P e = some 1)
    (hq : P.eqGuardType P.depth xt = false) (hl : p.length = len) (hv : intsEq p q = some t) (hS : SimH σ n β I Wr wd (st.base ++ st.loc) w)
    (hx : RepF σ β I w n (.d (.a p)) (ρ x)) (hy : RepF σ β I w n (.d (.a q)) (ρ y)) :
    Yields P ⟨dst, .binOp op xt x y yt, type, pos, after, guard⟩ ρ w (Post σ n (st.base ++ st.loc).length β I Wr wd w st (.d (.v (.bool (if neg then !t else t))))) := by
  refine yields_value (x := .bool (if neg then !t else t)) (w' := w) ?_ (Post.same hS (.ofV _))
  generalize hxv : ρ x = xv at hx
  generalize hyv : ρ y = yv at hy
  cases hx with
  | d hx =>
    cases hx with
    | @a _ xs hxl hxr =>
      cases hy with
      | d hy =>
        cases hy with
        | @a _ ys hyl hyr =>
          obtain ⟨i, hi, hi1⟩ : ∃ i, P.info? e = some i ∧ i.size = 1 := by
            unfold sizeT at hs
            split at hs
            · rename_i i hi; exact ⟨i, hi, by simpa using hs⟩
            · cases hs
          have hcell : P.cellsOf e = 1 := by simp [Program.cellsOf, hi, hi1]
          have hrun : (Op.equalIn 10000 xt (.agg xs) (.agg ys)).run P w = .ok t w := by
            rw [run_equalIn_array w 9999 xs ys ht hi, hcell, List.range_eq_range', ← hl]
            exact run_items_ints (σ := σ) (I := I) hu 9998 w p q 0 hv
              (fun i c hc => by
                have := (List.getElem?_eq_some_iff.1 hc).1
                exact ⟨xs[i]'(by omega), by rw [Nat.zero_add, Array.getElem?_eq_getElem (by omega)], hxr i c _ hc (Array.getElem?_eq_getElem (by omega))⟩)
              (fun i c hc => by
                have := (List.getElem?_eq_some_iff.1 hc).1
                exact ⟨ys[i]'(by omega), by rw [Nat.zero_add, Array.getElem?_eq_getElem (by omega)], hyr i c _ hc (Array.getElem?_eq_getElem (by omega))⟩)
          subst hop
          cases neg
          · simp only [execOp, hxv, hyv, Bool.false_eq_true, if_false, Sem.run_bind, run_eqGuard_agg w _ _ _ _ _ _ hq, Result.andThen_ok, run_eql_struct, hrun, Sem.run_pure]
          · simp only [execOp, hxv, hyv, if_true, Sem.run_bind, run_eqGuard_agg w _ _ _ _ _ _ hq, Result.andThen_ok, run_neq_struct, hrun, Sem.run_pure]
end aeq
end Fi
