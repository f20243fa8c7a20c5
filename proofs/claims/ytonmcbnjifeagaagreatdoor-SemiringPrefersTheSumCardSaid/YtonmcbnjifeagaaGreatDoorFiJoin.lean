/-
  strings.Join: given by what it answers: the kit's contract.
-/
import Derived.Test.YtonmcbnjifeagaaGreatDoorFiPrim
import Derived.Shelf.Strings.OnBuilder
set_option linter.unusedVariables false
set_option linter.unusedSimpArgs false
namespace Fi
open Go Go.Proofs Go.RowKit

/-- The texts of a row of strings. -/
def strsOf : List D → Option (List ByteArray)
  | [] => some []
  | .v (.string s) :: r => match strsOf r with
    | some t => some (s :: t)
    | none => none
  | _ => none

def joinP : List D → Option D
  | [.s 1 es, .v (.string sep)] => match strsOf es with
    | some xs =>
      let t := Lib.join (xs.map (·.data.toList)) sep.data.toList
      bif Nat.ble xs.length 140737488355328 && Nat.ble t.length 140737488355328 then some (.v (.string ⟨t.toArray⟩)) else none
    | none => none
  | [.n 1, .v (.string _)] => some (.v (.string ⟨#[]⟩))
  | _ => none

theorem strsOf_eq : ∀ {es : List D} {xs : List ByteArray}, strsOf es = some xs → es = xs.map fun s => .v (.string s)
  | [], xs, h => by simp [strsOf] at h; subst h; rfl
  | e :: r, xs, h => by
    unfold strsOf at h
    split at h
    · cases ‹_ :: _ = []›
    · rename_i he
      cases he
      split at h
      · rename_i ht
        cases h
        rw [strsOf_eq ht]; rfl
      · cases h
    · cases h

theorem grow_of_below {I : Nat → Prop} {w w' : World} (hi : ∀ b, I b → b < w.heap.size) (h : Below w.heap.size w w') : Grow I I w w' :=
  ⟨fun b hb => hb, fun b hb => .inl hb, fun b hb => Nat.lt_of_lt_of_le (hi b hb) h.size, h.size, fun b hb => h.block b hb, h.os, h.tape, h.output⟩

theorem two_args {σ : Nat → Option FuncId} {β : Map} {I : Nat → Prop} {w : World} {n : Nat} {a b : D} {vargs : Array Value} (hA : RepC σ β I w n [.d a, .d b] vargs.toList) :
    ∃ x y, vargs = #[x, y] ∧ RepD σ I w a x ∧ RepD σ I w b y := by
  have hl : vargs.toList.length = 2 := hA.1
  match hvl : vargs.toList, hl with
  | [x, y], _ =>
    have h0 := hA.2 0 _ x rfl (by rw [hvl]; rfl)
    have h1 := hA.2 1 _ y rfl (by rw [hvl]; rfl)
    cases h0 with
    | d h0 => cases h1 with
      | d h1 => exact ⟨x, y, by apply Array.ext'; rw [hvl], h0, h1⟩

theorem join_ok {P : Program} {ρ : Shelf.Ren} (L : Lays.n156 P ρ) (X : Builder.Extra P ρ) {E : Env} {σ : Nat → Option FuncId} {g : Nat} (hσ : ∀ f, σ g = some f → f = ρ.f 156)
    (args : List FV) (ds : List D) (v : D) (ha : allD args = some ds) (hv : joinP ds = some v) : CallOK P E σ g args [] (.d v, none) := by
  intro f hf β I w vargs hS hA hG
  have := hσ f hf; subst this
  have hargs := allD_eq ha
  subst hargs
  unfold joinP at hv
  split at hv
  · rename_i es sep
    split at hv
    · rename_i xs hxs
      obtain ⟨x, y, rfl, h0, h1⟩ := two_args hA
      cases h1
      have hes := strsOf_eq hxs
      cases hb : (Nat.ble xs.length 140737488355328 && Nat.ble (Lib.join (xs.map (·.data.toList)) sep.data.toList).length 140737488355328) with
      | false => simp only [hb, cond_false] at hv; cases hv
      | true =>
        simp only [hb, cond_true, Option.some.injEq] at hv
        subst hv
        simp only [Bool.and_eq_true] at hb
        have hn := Nat.le_of_ble_eq_true hb.1
        have hl := Nat.le_of_ble_eq_true hb.2
        cases h0 with
        | s0 =>
          cases xs with
          | cons x r => simp at hes
          | nil =>
            refine (Any.strings_Join_none L X none 0 sep w).mono fun e w' ⟨he, hw⟩ => ⟨_, _, I, he, rfl, ?_, ?_⟩
            · exact .v _
            · subst hw; exact grow_of_below hS.ilt (Below.refl _ _)
        | @s _ _ b off cap u hb0 hc hsz hone hcell hrep =>
          subst hes
          rw [List.length_map]
          refine (Any.strings_Join L X b off cap xs sep w ?_ (hS.ilt b hb0) hn (by simpa using hc) hl).mono fun e w' ⟨he, hw⟩ => ⟨_, _, I, he, rfl, .v _, grow_of_below hS.ilt hw⟩
          intro j s hj
          have g1 : (xs.map fun s => D.v (.string s))[j]? = some (.v (.string s)) := by simp [hj]
          have g2 := hcell j _ 0 (.v (.string s)) g1 rfl
          have g3 := hrep j _ 0 (.v (.string s)) g1 rfl
          generalize u j 0 = z at g2 g3
          cases g3
          simpa using g2
    · cases hv
  · rename_i sep
    cases hv
    obtain ⟨x, y, rfl, h0, h1⟩ := two_args hA
    cases h1
    cases h0
    refine (Any.strings_Join_none L X none 0 sep w).mono fun e w' ⟨he, hw⟩ => ⟨_, _, I, he, rfl, .v _, ?_⟩
    subst hw; exact grow_of_below hS.ilt (Below.refl _ _)
  · cases hv
end Fi
