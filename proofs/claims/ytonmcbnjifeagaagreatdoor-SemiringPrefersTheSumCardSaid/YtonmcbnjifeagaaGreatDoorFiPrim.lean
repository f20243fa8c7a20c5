/-
  Functions of the library that are given by what they answer: their contracts are the kit's.
-/
import Derived.Test.YtonmcbnjifeagaaGreatDoorFiTop
import Derived.Shelf.Strconv.Itoa3
set_option linter.unusedVariables false
set_option linter.unusedSimpArgs false
namespace Fi
open Go Go.Proofs

def digs : Nat → Nat → List UInt8 → List UInt8
  | 0, _, acc => acc
  | fuel + 1, n, acc => bif Nat.blt n 10 then UInt8.ofNat (48 + n) :: acc else digs fuel (n / 10) (UInt8.ofNat (48 + n % 10) :: acc)

theorem digs_eq : ∀ (fuel n : Nat) (acc : List UInt8), n < 10 ^ fuel → 0 < fuel → digs fuel n acc = Lib.decDigits n ++ acc
  | 0, _, _, _, h => by omega
  | fuel + 1, n, acc, h, _ => by
    rw [digs, Lib.decDigits]
    by_cases hn : n < 10
    · have h1 : Nat.blt n 10 = true := Nat.ble_eq_true_of_le hn
      rw [h1, dif_pos hn]
      rfl
    · have h1 : Nat.blt n 10 = false := by
        cases hb : Nat.blt n 10 with
        | false => rfl
        | true => exact absurd (Nat.le_of_ble_eq_true hb) hn
      rw [h1, dif_neg hn]
      have h2 : n / 10 < 10 ^ fuel := by
        rw [Nat.pow_succ] at h
        omega
      have h3 : 0 < fuel := by
        rcases Nat.eq_zero_or_pos fuel with h0 | h0
        · subst h0; simp at h; omega
        · exact h0
      simp only [cond_false]
      rw [digs_eq fuel (n / 10) _ h2 h3, List.append_assoc]
      rfl

def itoaL (n : Int) : List UInt8 := if n < 0 then 45 :: digs 20 n.natAbs [] else digs 20 n.toNat []

theorem itoaL_eq {n : Int} (h0 : -9223372036854775808 ≤ n) (h1 : n ≤ 9223372036854775807) : itoaL n = Lib.itoa n := by
  unfold itoaL Lib.itoa
  rw [digs_eq 20 n.natAbs [] (by omega) (by omega), digs_eq 20 n.toNat [] (by omega) (by omega), List.append_nil, List.append_nil]

/-- strconv.Itoa -/
def itoaP : List D → Option D
  | [.v (.int .i64 n)] => if -9223372036854775808 ≤ n ∧ n ≤ 9223372036854775807 then some (.v (.string ⟨(itoaL n).toArray⟩)) else none
  | _ => none

def pow10D : D := .a (Lib.pow10Tab.map fun z => .v (.int .u64 z))

theorem allD_eq : ∀ {args : List FV} {ds : List D}, allD args = some ds → args = ds.map .d
  | [], ds, h => by simp [allD] at h; subst h; rfl
  | x :: r, ds, h => by
    cases x <;> simp only [allD] at h <;> try (cases h; done)
    split at h <;> simp at h
    subst h
    rename_i hr
    rw [allD_eq hr]; rfl

theorem tab_of_globs {P : Program} {E : Env} {σ : Nat → Option FuncId} {I : Nat → Prop} {w : World} (hG : Globs E σ I w) {name : String} {k0 : Nat} (hg : P.globalNamed name = some k0) {k : IntKind} {zs : List Int} (he : E.glob k0 = some (.a (zs.map fun z => .v (.int k z)))) :
    Lib.TabIs P w name k zs := by
  obtain ⟨_, _, hat, c, e, fr, hc, hl⟩ := hG k0 _ he
  unfold Lib.TabIs World.var?
  simp only [hg, Option.bind_some, hc, Option.some.injEq]
  simp only [D.cells, List.length_map] at hl
  apply Array.ext
  · simpa using hl
  · intro i h1 h2
    have hz : i < zs.length := by omega
    obtain ⟨x, g1, g2⟩ := hat i (.v (.int k zs[i])) (by simp [D.cells, hz])
    have g3 : c[i]? = some x := by
      have : w.cell? ⟨k0, 0 + i, none⟩ = c[i]? := by simp [World.cell?, hc]
      rw [← this]; exact g1
    cases g2
    rw [Array.getElem?_eq_getElem h1] at g3
    simp only [Option.some.injEq] at g3
    simp [g3]

theorem itoa_ok {P : Program} {ρ : Shelf.Ren} (L : LaysM.n171 P ρ) {E : Env} {σ : Nat → Option FuncId} {g k0 : Nat} (hg : P.globalNamed "internal/strconv.uint64pow10" = some k0) (he : E.glob k0 = some pow10D) (hσ : ∀ f, σ g = some f → f = ρ.f 171)
    (args : List FV) (ds : List D) (v : D) (ha : allD args = some ds) (hv : itoaP ds = some v) : CallOK P E σ g args [] (.d v, none) := by
  intro f hf β I w vargs hS hA hG
  have := hσ f hf; subst this
  have hargs := allD_eq ha
  subst hargs
  unfold itoaP at hv
  split at hv
  · rename_i n
    split at hv
    · rename_i hn
      cases hv
      have hl : vargs.toList.length = 1 := hA.1
      have hva : vargs = #[.int .i64 n] := by
        match hvl : vargs.toList, hl with
        | [x], _ =>
          have hr := hA.2 0 _ x rfl (by rw [hvl]; rfl)
          cases hr with
          | d hr =>
            cases hr
            apply Array.ext'
            rw [hvl]
      subst hva
      refine (Any.strconv_Itoa L n hn.1 hn.2 w (tab_of_globs hG hg he)).mono fun e w' ⟨h1, kk, os, h2⟩ => ?_
      subst h2
      refine ⟨_, _, I, h1, rfl, ?_, fun b hb => hb, fun b hb => .inl hb, fun b hb => ?_, ?_, fun b hb => ?_, rfl, rfl, rfl⟩
      · rw [itoaL_eq hn.1 hn.2]; exact .v _
      · have := hS.ilt b hb
        simp only [Sort.grow, World.drewN, Array.size_append]
        omega
      · simp only [Sort.grow, World.drewN, Array.size_append]
        omega
      · simp only [Sort.grow, World.drewN]
        rw [Array.getElem?_append_left hb]
    · cases hv
  · cases hv

/-- What a function has been seen to answer may be given to its callers. -/
theorem prim_of_run {P : Program} {E : Env} {σ : Nat → Option FuncId} (hm : P.follows .mixedOrders = true) (hB : Bodies P E σ) (hF : FnsOK P E σ) (hP : PrimsOK P E σ) {N g : Nat} {ds : List D} {v : D} (h : callN E N g (ds.map .d) [] = some (.d v, none))
    {args : List FV} (ha : allD args = some ds) : CallOK P E σ g args [] (.d v, none) := by
  rw [allD_eq ha]
  exact (recs_sound hm hB hF hP N g (ds.map .d) [] _ h).2
end Fi
