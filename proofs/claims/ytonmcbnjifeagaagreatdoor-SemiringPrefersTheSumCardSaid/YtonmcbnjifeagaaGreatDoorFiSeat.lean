/-
  What a seat's checks are made of.
-/
import Derived.Test.YtonmcbnjifeagaaGreatDoorFiTop
import Derived.KernelRfl
set_option linter.unusedVariables false
set_option linter.unusedSimpArgs false
namespace Fi
open Go

/-- Functions go by their own numbers. -/
def sg (n : Nat) (g : Nat) : Option Nat := bif Nat.blt g n then some g else none

/-- All functions but those of the list have bodies. -/
def bodiedB (P : Program) (n : Nat) (no : List Nat) : Bool :=
  (List.range n).all fun g => (no.any fun k => Nat.beq g k) || match P.funcs[g]? with
    | some fn => fn.body.isSome && !(fn.name == "runtime.NumGoroutine")
    | none => false

/-- None of them is given. -/
def noneGiven (E : Env) (no : List Nat) : Bool := no.all fun g => (E.fn g).isNone && (E.prim g).isNone

theorem sg_some {n : Nat} {g f : Nat} (h : sg n g = some f) : f = g ∧ g < n := by
  unfold sg at h
  cases hb : Nat.blt g n with
  | false => rw [hb] at h; cases h
  | true => rw [hb] at h; simp only [cond_true, Option.some.injEq] at h; exact ⟨h.symm, Nat.le_of_ble_eq_true hb⟩

theorem bodies_of {P : Program} {E : Env} {n : Nat} {no : List Nat} (h : bodiedB P n no = true) (h2 : noneGiven E no = true) : Bodies P E (sg n) := by
  intro g f hg hf
  obtain ⟨rfl, hlt⟩ := sg_some hf
  have h3 := List.all_eq_true.1 h f (List.mem_range.2 hlt)
  have hno : (no.any fun k => Nat.beq f k) = false := by
    cases ha : no.any fun k => Nat.beq f k with
    | false => rfl
    | true =>
      obtain ⟨k, hk, he⟩ := List.any_eq_true.1 ha
      have := Nat.eq_of_beq_eq_true he
      subst this
      have h4 := List.all_eq_true.1 h2 f hk
      simp only [Bool.and_eq_true, Option.isNone_iff_eq_none] at h4
      rcases hg with hg | hg
      · rw [h4.1] at hg; cases hg
      · rw [h4.2] at hg; cases hg
  rw [hno, Bool.false_or] at h3
  split at h3
  · rename_i fn hfn
    simp only [Bool.and_eq_true, Bool.not_eq_true'] at h3
    obtain ⟨c, hc⟩ := Option.isSome_iff_exists.1 h3.1
    exact ⟨fn, c, hfn, hc, h3.2⟩
  · cases h3

theorem t_or {c : Bool} {A B : Option FFunc} {F : FFunc} {Q : Prop} (hA : A = some F → Q) (hB : B = some F → Q) : (bif c then A else B) = some F → Q := by
  cases c
  · exact hB
  · exact hA

theorem t_leaf {g k : Nat} {fk F : FFunc} {Q : Prop} (h : g = k → fk = F → Q) : (bif Nat.beq g k then some fk else none) = some F → Q := by
  intro hb
  cases hc : Nat.beq g k with
  | false => rw [hc] at hb; cases hb
  | true =>
    rw [hc] at hb
    simp only [cond_true, Option.some.injEq] at hb
    exact h (Nat.eq_of_beq_eq_true hc) hb

theorem fok {P : Program} {n : Nat} {g k : Nat} {F fk : FFunc} {cx : Cx} {fn : Func} (hg : g = k) (hF : fk = F) (hk : compFunc P cx fn = some fk) (hf : P.funcs[k]? = some fn) (hc : cx.gid = sg n) :
    ∀ f, sg n g = some f → ∃ fn cx, P.funcs[f]? = some fn ∧ compFunc P cx fn = some F ∧ ∀ f' g', cx.gid f' = some g' → sg n g' = some f' := by
  intro f h
  subst hg; subst hF
  obtain ⟨rfl, _⟩ := sg_some h
  refine ⟨fn, cx, hf, hk, fun f' g' h' => ?_⟩
  rw [hc] at h'
  obtain ⟨rfl, hh⟩ := sg_some h'
  exact h'

def yes (r : CallR) : Bool := match r with
  | some (.d (.v (.bool b)), none) => b
  | _ => false

theorem of_yes {r : CallR} (h : yes r = true) : r = some (.d (.v (.bool true)), none) := by
  unfold yes at h
  split at h
  · subst h; rfl
  · cases h
end Fi
