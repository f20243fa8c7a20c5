/- The call of SemiringPrefersTheSum, and its lifting to the row. -/
import Derived.Test.YtonmcbnjifeagaaGreatDoorSChk
import Derived.Test.YtonmcbnjifeagaaGreatDoorRLaw
import Derived.Test.YtonmcbnjifeagaaGreatDoorSAwake
import Derived.Test.YtonmcbnjifeagaaGreatDoorShelf
import Derived.Test.YtonmcbnjifeagaaGreatDoorRows
import Derived.Test.YtonmcbnjifeagaaGreatDoorTie
import Derived.Test.YtonmcbnjifeagaaGreatDoorCards
import Derived.WalkKit
import Derived.ProofKit
import Derived.Handy
import Derived.Lay
import Derived.SevenTiedAt
set_option linter.unusedVariables false
set_option linter.unusedSimpArgs false
namespace Go.Proofs.YtonmcbnjifeagaaGreatDoor
open Go.ChangeShapes Go.WideShapes Go.ChangeAt Go.RowKit Fi Fi.S
set_option maxRecDepth 1000000

theorem own : ownKnob Tryz.prog.godebug = none := by kernel_rfl
theorem tab_at : Tryz.prog.globalNamed "internal/strconv.uint64pow10" = some 3 := by kernel_rfl

theorem prims_ok : PrimsOK Tryz.prog E0 gid := by
  intro g p hp args ds v ha hv
  change prim0 g = some p at hp
  unfold prim0 at hp
  cases h1 : Nat.beq g 76 with
  | true =>
    rw [h1] at hp
    cases hp
    obtain rfl := Nat.eq_of_beq_eq_true h1
    refine join_ok Tryz.lays156 Tryz.Builder_Extra_156 (fun f hf => ?_) args ds v ha hv
    obtain ⟨rfl, _⟩ := sg_some hf
    kernel_rfl
  | false =>
    rw [h1] at hp
    simp only [cond_false] at hp
    cases h2 : Nat.beq g 129 with
    | true =>
      rw [h2] at hp
      cases hp
      obtain rfl := Nat.eq_of_beq_eq_true h2
      refine itoa_ok Tryz.laysM171 tab_at rfl (fun f hf => ?_) args ds v ha hv
      obtain ⟨rfl, _⟩ := sg_some hf
      kernel_rfl
    | false =>
      rw [h2] at hp
      cases hp

theorem env_none : noneGiven E0 no = true := by kernel_rfl

theorem glob_only : ∀ j y, E0.glob j = some y → j = 3 ∧ y = .a (Lib.pow10Tab.map fun z => .v (.int .u64 z)) := by
  intro j y h
  change glob j = some y at h
  unfold glob at h
  cases h1 : Nat.beq j 3 with
  | true => rw [h1] at h; cases h; exact ⟨Nat.eq_of_beq_eq_true h1, rfl⟩
  | false => rw [h1] at h; cases h

theorem law4 (t : Bool) (a b c : Int) (W : World) (hL : laidMet Tryz.prog Rows.semiringPrefersTheSumRow.laid W) :
    Calls Tryz.prog 6 #[.bool t, .int .i64 a, .int .i64 b, .int .i64 c] W fun e w' => e = .returned (.bool true) ∧ Below W.heap.size W w' := by
  have ht : Lib.TabIs Tryz.prog W "internal/strconv.uint64pow10" .u64 Lib.pow10Tab :=
    tabIs_of_mem tab_at (by kernel_rfl) (t := 235) (e := 29) (n := 20) (by kernel_rfl) (by kernel_rfl) (by kernel_rfl) (by kernel_rfl) (List.mem_of_getElem? (i := 2) (by rfl)) hL
  obtain ⟨hG, hI⟩ := globs_of_tab (E := E0) (σ := gid) tab_at ht glob_only
  obtain ⟨N, hN⟩ := run_law4 awake_ca t a b c
  refine law_run (ds := [.v (.bool t), .v (.int .i64 a), .v (.int .i64 b), .v (.int .i64 c)]) mixed (bodies E0 env_none) (fns E0 rfl) prims_ok (hN N (Nat.le_refl _)) (f := 6) rfl hI rfl ?_ hG
  intro i d x hd hx
  match i with
  | 0 => cases hd; cases hx; exact .v _
  | 1 => cases hd; cases hx; exact .v _
  | 2 => cases hd; cases hx; exact .v _
  | 3 => cases hd; cases hx; exact .v _
  | i + 4 => cases hd

theorem lifted4 (os : Os) (started : os.Started) (H : Type) (enc : TypeId × Value → H) :
    ReturnsInHanded {} Tryz.checked os 6 .any (fun w args => (Rows.semiringPrefersTheSumSpec.pre enc Tryz.prog Tryz.f6 [] false w args ∧ laidMetH Tryz.prog Rows.semiringPrefersTheSumRow.laid w) ∧ sizedMet enc Tryz.prog Tryz.f6 (OpenSpec.ofChange Rows.semiringPrefersTheSumSpec) false w args)
      (Rows.semiringPrefersTheSumSpec.post enc Tryz.prog Tryz.f6 false true false false) := by
  have hplain : ∀ w, laidMetH Tryz.prog Rows.semiringPrefersTheSumRow.laid w = laidMet Tryz.prog Rows.semiringPrefersTheSumRow.laid w := fun w => MakeChecks.laidMetH_plain _ _ _ (by kernel_rfl)
  refine returnsInHanded_of_change_and (C := Tryz.checked) (X := fun w _ => laidMetH Tryz.prog Rows.semiringPrefersTheSumRow.laid w) (fun _ _ _ hh h => h.of_heap hh) own started (by kernel_rfl) Tryz.func6
    (ChangeSpec.witness_shaped (enc := enc) (C := Tryz.checked) (os := os) (X := fun w _ => laidMetH Tryz.prog Rows.semiringPrefersTheSumRow.laid w) false (World.laidAll Tryz.prog os Rows.semiringPrefersTheSumRow.laid) #[.bool false, .int .i64 0, .int .i64 0, .int .i64 0] 8 (World.laidAll_os _ _ _)
      (World.shaped_of_ZipB (by kernel_rfl) (by kernel_rfl)) (by kernel_rfl) (by kernel_rfl) (by kernel_rfl)
      (by rw [hplain]; exact laidMet_laidAll _ (by kernel_rfl) (by kernel_rfl))) ?_
  intro W base args ds gs before hval0 hW _ _ hL _
  have hval : ∀ (j : Nat) t v, Tryz.f6.params[j]? = some t → args[j]? = some v → Value.okWide Tryz.prog W .any base t v := hval0
  have hW' := hW
  obtain ⟨p, q, hA0, hV, rfl, _, _⟩ := hW
  have hA : DataW.TrodAll enc Tryz.prog W 0 (fun _ => true) true Tryz.f6.params.toList args.toList ds p := hA0
  rw [Tryz.params6] at hA hval
  obtain ⟨v0, vs0, d0, ds0, p0, q0, hargs, rfl, rfl, h0, r0⟩ := trodAll_cons hA
  obtain ⟨v1, vs1, d1, ds1, p1, q1, rfl, rfl, rfl, h1, r1⟩ := trodAll_cons r0
  obtain ⟨v2, vs2, d2, ds2, p2, q2, rfl, rfl, rfl, h2, r2⟩ := trodAll_cons r1
  obtain ⟨v3, vs3, d3, ds3, p3, q3, rfl, rfl, rfl, h3, r3⟩ := trodAll_cons r2
  obtain ⟨rfl, rfl, rfl⟩ := trodAll_nil r3
  obtain rfl : args = #[v0, v1, v2, v3] := by cases args; simp_all
  obtain ⟨rfl, rfl⟩ := trodVars_none hV
  obtain ⟨a0, rfl, rfl, rfl⟩ := open_bool Tryz.underlying4 (hval 0 4 v0 rfl rfl) h0
  obtain ⟨a1, rfl, rfl, rfl, w1⟩ := open_int Tryz.underlying3 (hval 1 3 v1 rfl rfl) h1
  obtain ⟨a2, rfl, rfl, rfl, w2⟩ := open_int Tryz.underlying3 (hval 2 3 v2 rfl rfl) h2
  obtain ⟨a3, rfl, rfl, rfl, w3⟩ := open_int Tryz.underlying3 (hval 3 3 v3 rfl rfl) h3
  clear hA0 hval0
  simp only [List.append_nil] at hW'
  rw [hplain] at hL
  refine (law4 a0 a1 a2 a3 W hL).mono fun e W' ⟨he, hb⟩ => ?_
  subst he
  exact ⟨_, rfl, _, _, _, [], [], [], hW', trodAll_mk1 (shut_bool Tryz.underlying4 _), (trodAll_cons_mk (shut_bool Tryz.underlying4 _) (trodAll_cons_mk (shut_int Tryz.underlying3 w1) (trodAll_cons_mk (shut_int Tryz.underlying3 w2) (trodAll_cons_mk (shut_int Tryz.underlying3 w3) trodAll_mk0)))), rfl, hb.frame _, fun h => by cases h⟩

end Go.Proofs.YtonmcbnjifeagaaGreatDoor
