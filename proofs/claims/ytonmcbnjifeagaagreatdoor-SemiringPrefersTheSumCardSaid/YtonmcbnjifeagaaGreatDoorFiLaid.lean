/-
  From a row's condition on package-level variables to the interpreter's tables; and what a law's call says.
-/
import Derived.Test.YtonmcbnjifeagaaGreatDoorFiJoin
import Derived.Test.YtonmcbnjifeagaaGreatDoorFiWp
import Derived.Lib.LaidTab
import Derived.Lib.LaidU8
import Derived.LaidHandle
set_option linter.unusedVariables false
set_option linter.unusedSimpArgs false
namespace Fi
open Go Go.Proofs Go.RowKit

theorem tabIs_of_mem {P : Program} {W : World} {name : String} {k : IntKind} {zs : List Int} {l : List (String × DataW Unit)} {g : Nat} {t e : TypeId} {n : Nat}
    (hg : P.globalNamed name = some g) (hty : (P.globals[g]?).map (·.type) = some t) (ht : P.underlying t = some (.array n e)) (he : P.underlying e = some (.int k)) (hce : P.cellsOf e = 1) (hct : P.cellsOf t = n)
    (hm : (name, Lib.tabData k zs) ∈ l) (h : laidMet P l W) : Lib.TabIs P W name k zs := by
  obtain ⟨g', t', cs, fuel, p, hg', hty', hvar, hd⟩ := Lib.laidMet.reads h hm
  obtain rfl := Option.some.inj (hg.symm.trans hg')
  obtain rfl := Option.some.inj (hty.symm.trans hty')
  unfold Lib.TabIs
  rw [hvar, ← Lib.cells_of_tab ht he hce hct hd]

theorem row_of_tab {P : Program} {W : World} {name : String} {k : IntKind} {zs : List Int} {g : Nat} (hg : P.globalNamed name = some g) (h : Lib.TabIs P W name k zs) :
    ∃ e fr, W.heap[g]? = some (.cells (zs.map fun z => Value.int k z).toArray e fr) := by
  unfold Lib.TabIs World.var? at h
  rw [hg] at h
  simp only [Option.bind_some] at h
  split at h
  · rename_i cs e fr hc
    cases h
    exact ⟨e, fr, hc⟩
  · cases h

theorem globs_of_tab {P : Program} {E : Env} {σ : Nat → Option FuncId} {W : World} {name : String} {k : IntKind} {zs : List Int} {g : Nat} (hg : P.globalNamed name = some g) (h : Lib.TabIs P W name k zs)
    (hE : ∀ j y, E.glob j = some y → j = g ∧ y = .a (zs.map fun z => .v (.int k z))) : Globs E σ (fun b => b = g) W ∧ ∀ b, b = g → b < W.heap.size := by
  obtain ⟨e, fr, hr⟩ := row_of_tab hg h
  constructor
  · intro j y hy
    obtain ⟨rfl, rfl⟩ := hE j y hy
    refine ⟨rfl, ?_, ?_, _, e, fr, hr, by simp [D.cells]⟩
    · intro c hc
      simp only [D.cells, List.mem_map] at hc
      obtain ⟨z, _, rfl⟩ := hc
      rfl
    · intro i c hc
      simp only [D.cells, List.getElem?_map, Option.map_eq_some_iff] at hc
      obtain ⟨z, hz, rfl⟩ := hc
      refine ⟨.int k z, ?_, .v _⟩
      simp [World.cell?, hr, hz]
  · rintro b rfl
    exact (Array.getElem?_eq_some_iff.1 hr).1

theorem below_of_grow {I I' : Nat → Prop} {w w' : World} (h : Grow I I' w w') : Below w.heap.size w w' := ⟨h.os, h.tape, h.output, h.size, h.keep⟩

/-- A law's call, with data alone: true, and what was there is there still. -/
theorem law_run {P : Program} {E : Env} {σ : Nat → Option FuncId} (hm : P.follows .mixedOrders = true) (hB : Bodies P E σ) (hF : FnsOK P E σ) (hP : PrimsOK P E σ) {N g : Nat} {ds : List D}
    (h : callN E N g (ds.map .d) [] = some (.d (.v (.bool true)), none)) {f : FuncId} (hσ : σ g = some f) {I : Nat → Prop} {w : World} {vargs : Array Value} (hI : ∀ b, I b → b < w.heap.size)
    (hl : vargs.toList.length = ds.length) (hA : ∀ (i : Nat) (d : D) (x : Value), ds[i]? = some d → vargs.toList[i]? = some x → RepD σ I w d x) (hG : Globs E σ I w) :
    Calls P f vargs w fun e w' => e = .returned (.bool true) ∧ Below w.heap.size w w' := by
  refine (run_sound hm hB hF hP h hσ hI ⟨by simpa using hl, fun i c x hc hx => ?_⟩ hG).mono fun e w' ⟨x, z, I', he, hz, hr, hg⟩ => ?_
  · simp only [List.getElem?_map, Option.map_eq_some_iff] at hc
    obtain ⟨d, hd, rfl⟩ := hc
    exact .d (hA i d x hd hx)
  · cases hz
    cases hr
    exact ⟨he, below_of_grow hg⟩
end Fi
