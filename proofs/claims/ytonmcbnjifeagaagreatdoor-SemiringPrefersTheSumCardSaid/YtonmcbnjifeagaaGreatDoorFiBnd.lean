/-
  Values that point to none but the first m objects.
-/
import Derived.Test.YtonmcbnjifeagaaGreatDoorFiOrd2
set_option linter.unusedVariables false
set_option linter.unusedSimpArgs false
namespace Fi
open Go

inductive Bnd (n m : Nat) : FV → Prop
  | u : Bnd n m .u
  | d (y : D) : Bnd n m (.d y)
  | r {p : Ref} {off : Nat} (h : p.abs n < m) : Bnd n m (.r p off)
  | e {p : Ref} {ver sz i off : Nat} (h : p.abs n < m) : Bnd n m (.e p ver sz i off)
  | rc (y : D) : Bnd n m (.rc y)
  | ls {p : Ref} {ver sz off len : Nat} (h : p.abs n < m) : Bnd n m (.ls p ver sz off len)
  | f {g : Nat} {first captured : List FV} (h1 : ∀ c ∈ first, Bnd n m c) (h2 : ∀ c ∈ captured, Bnd n m c) : Bnd n m (.f g first captured)
  | a {cs : List FV} (h : ∀ c ∈ cs, Bnd n m c) : Bnd n m (.a cs)
  | t {cs : List FV} (h : ∀ c ∈ cs, Bnd n m c) : Bnd n m (.t cs)

theorem Bnd.mono {n m m' : Nat} {v : FV} (h : Bnd n m v) (hm : m ≤ m') : Bnd n m' v := by
  induction h with
  | u => exact .u
  | d y => exact .d y
  | r h => exact .r (Nat.lt_of_lt_of_le h hm)
  | e h => exact .e (Nat.lt_of_lt_of_le h hm)
  | rc y => exact .rc y
  | ls h => exact .ls (Nat.lt_of_lt_of_le h hm)
  | f _ _ ih1 ih2 => exact .f ih1 ih2
  | a _ ih => exact .a ih
  | t _ ih => exact .t ih

section bnd
variable {σ : Nat → Option FuncId} {β : Map} {I : Nat → Prop} {w : World} {n m : Nat} {v : FV} {x : Value}

theorem paired {α : Type} {cs : List α} {vs : Array Value} (hl : vs.size = cs.length) {c : α} (hc : c ∈ cs) : ∃ (i : Nat) (y : Value), cs[i]? = some c ∧ vs[i]? = some y := by
  obtain ⟨i, hi, rfl⟩ := List.getElem_of_mem hc
  exact ⟨i, vs[i]'(by omega), List.getElem?_eq_getElem hi, Array.getElem?_eq_getElem (by omega)⟩

theorem RepF.bnd (h : RepF σ β I w n v x) (hd : ∀ k v x, β k v = some x → k < m) : Bnd n m v := by
  induction h with
  | u x => exact .u
  | d h => exact .d _
  | r h => exact .r (hd _ _ _ h)
  | e h => exact .e (hd _ _ _ h)
  | rc hb ho h => exact .rc _
  | ls h hl ho => exact .ls (hd _ _ _ h)
  | f h h1 h2 _ _ ih1 ih2 =>
    refine .f (fun c hc => ?_) (fun c hc => ?_)
    · obtain ⟨i, y, e1, e2⟩ := paired h1 hc; exact ih1 i c y e1 e2
    · obtain ⟨i, y, e1, e2⟩ := paired h2 hc; exact ih2 i c y e1 e2
  | a hl _ ih => exact .a (fun c hc => by obtain ⟨i, y, e1, e2⟩ := paired hl hc; exact ih i c y e1 e2)
  | t hl _ ih => exact .t (fun c hc => by obtain ⟨i, y, e1, e2⟩ := paired hl hc; exact ih i c y e1 e2)

theorem RepF.upto (h : RepF σ β I w n v x) (hb : Bnd n m v) : RepF σ (β.upto m) I w n v x := by
  induction h with
  | u x => exact .u x
  | d h => exact .d h
  | r h => cases hb with | r hb => exact .r ((Map.upto_lt hb).trans h)
  | e h => cases hb with | e hb => exact .e ((Map.upto_lt hb).trans h)
  | rc h0 ho h => exact .rc h0 ho h
  | ls h hl ho => cases hb with | ls hb => exact .ls ((Map.upto_lt hb).trans h) hl ho
  | f h h1 h2 _ _ ih1 ih2 =>
    cases hb with
    | f b1 b2 => exact .f h h1 h2 (fun i c x e1 e2 => ih1 i c x e1 e2 (b1 c (List.mem_of_getElem? e1))) (fun i c x e1 e2 => ih2 i c x e1 e2 (b2 c (List.mem_of_getElem? e1)))
  | a hl _ ih => cases hb with | a b => exact .a hl (fun i c x e1 e2 => ih i c x e1 e2 (b c (List.mem_of_getElem? e1)))
  | t hl _ ih => cases hb with | t b => exact .t hl (fun i c x e1 e2 => ih i c x e1 e2 (b c (List.mem_of_getElem? e1)))
end bnd

/-- Objects with their places alone. -/
def AObj.blank : AObj → AObj
  | .box cs => .box (cs.map fun _ => .u)
  | o => o

theorem SimH.blank {σ : Nat → Option FuncId} {β : Map} {I Wr : Nat → Prop} {wd : Nat → Prop} {w : World} {n m : Nat} {G : List AObj} (h : SimH σ n β I Wr wd G w) :
    SimH σ n (β.upto m) I (fun b => w.heap.size ≤ b) (fun _ => False) ((G.take m).map AObj.blank) w := by
  have hget : ∀ (k : Nat) (o : AObj), ((G.take m).map AObj.blank)[k]? = some o → k < m ∧ ∃ o', G[k]? = some o' ∧ o'.blank = o := by
    intro k o hk
    simp only [List.getElem?_map, Option.map_eq_some_iff, List.getElem?_take] at hk
    obtain ⟨o', h1, h2⟩ := hk
    split at h1
    · exact ⟨by assumption, o', h1, h2⟩
    · cases h1
  have hrow : ∀ (o : AObj) ver sz es, o.blank = .row ver sz es → o = .row ver sz es := by intro o; cases o <;> simp [AObj.blank]
  have hfrz : ∀ (o : AObj) ver sz es, o.blank = .frz ver sz es → o = .frz ver sz es := by intro o; cases o <;> simp [AObj.blank]
  have hlive : ∀ (o : AObj) k x, o.blank.live (β.upto m) k = some x → o.live β k = some x := by
    intro o k x hx
    cases o with
    | box cs => exact (Map.upto_some hx).2
    | row ver sz es => exact (Map.upto_some hx).2
    | frz ver sz es => cases hx
  refine ⟨h.ilt, fun k v b bo cap hb => h.blt _ _ _ _ _ (Map.upto_some hb).2, fun b hb => hb, fun k v x hx => ?_, fun k ver sz es v x h1 h2 => ?_, fun k o b bo cap h1 h2 => ⟨fun hf => hf.elim, ?_⟩, fun k cs b bo cap h1 h2 => ?_,
    fun k ver sz es b bo cap h1 h2 => ?_, fun k ver sz es b bo cap h1 h2 => ?_, fun k k' o1 o2 b bo cap bo' cap' h1 h2 h3 h4 => ?_⟩
  · obtain ⟨h1, h2⟩ := Map.upto_some hx
    have := h.dom _ _ _ h2
    simp; omega
  · obtain ⟨_, o', h3, h4⟩ := hget k _ h1
    have := hrow _ _ _ _ h4; subst this
    exact h.vdom _ _ _ _ _ _ h3 (Map.upto_some h2).2
  · obtain ⟨_, o', h3, rfl⟩ := hget k _ h1
    exact (h.wr k o' b bo cap h3 (hlive _ _ _ h2)).2
  · obtain ⟨_, o', h3, h4⟩ := hget k _ h1
    cases o' with
    | box cs' =>
      simp only [AObj.blank, AObj.box.injEq] at h4
      subst h4
      obtain ⟨a0, c, e, a1, a2, a3⟩ := h.box k cs' b bo cap h3 (Map.upto_some h2).2
      refine ⟨a0, c, e, a1, by simpa using a2, fun j f x e1 e2 => ?_⟩
      simp only [List.getElem?_map, Option.map_eq_some_iff] at e1
      obtain ⟨_, _, rfl⟩ := e1
      exact .u x
    | row ver sz es => simp [AObj.blank] at h4
    | frz ver sz es => simp [AObj.blank] at h4
  · obtain ⟨_, o', h3, h4⟩ := hget k _ h1
    have := hrow _ _ _ _ h4; subst this
    exact h.row _ _ _ _ _ _ _ h3 (Map.upto_some h2).2
  · obtain ⟨_, o', h3, h4⟩ := hget k _ h1
    have := hfrz _ _ _ _ h4; subst this
    exact h.frz _ _ _ _ _ _ _ h3 (Map.upto_some h2).2
  · obtain ⟨_, o1', h5, rfl⟩ := hget k _ h1
    obtain ⟨_, o2', h6, rfl⟩ := hget k' _ h2
    exact h.inj k k' o1' o2' b bo cap bo' cap' h5 h6 (hlive _ _ _ h3) (hlive _ _ _ h4)
end Fi
