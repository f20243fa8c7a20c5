/- SemiringPrefersTheSum: its body. -/
import Derived.Test.YtonmcbnjifeagaaGreatDoorRSem
set_option linter.unusedVariables false
set_option linter.unusedSimpArgs false
namespace Fi.S
open Go Fi
set_option maxHeartbeats 16000000
set_option maxRecDepth 100000

def rE (a b : List Nat) : D := .a [.v (.bool false), LD a, LD b]
theorem of0 : callN E0 400 38 [.d (.v (.int .i64 0)), .d (.v (.int .i64 6))] [] = some (.d (rE [] []), none) := of_isDa (by kernel_rfl)
theorem of1 : callN E0 400 38 [.d (.v (.int .i64 1)), .d (.v (.int .i64 6))] [] = some (.d (rE [1] [6]), none) := of_isDa (by kernel_rfl)
theorem of2 : callN E0 400 38 [.d (.v (.int .i64 2)), .d (.v (.int .i64 6))] [] = some (.d (rE [1] [3]), none) := of_isDa (by kernel_rfl)
theorem of3 : callN E0 400 38 [.d (.v (.int .i64 3)), .d (.v (.int .i64 6))] [] = some (.d (rE [1] [2]), none) := of_isDa (by kernel_rfl)
theorem of4 : callN E0 400 38 [.d (.v (.int .i64 4)), .d (.v (.int .i64 6))] [] = some (.d (rE [2] [3]), none) := of_isDa (by kernel_rfl)
theorem of5 : callN E0 400 38 [.d (.v (.int .i64 5)), .d (.v (.int .i64 6))] [] = some (.d (rE [5] [6]), none) := of_isDa (by kernel_rfl)
theorem of6 : callN E0 400 38 [.d (.v (.int .i64 6)), .d (.v (.int .i64 6))] [] = some (.d (rE [1] []), none) := of_isDa (by kernel_rfl)

theorem made_run {v : Int} {i : Int} {a b : List Nat} (hi : v % 7 = i) (h : callN E0 400 38 [.d (.v (.int .i64 i)), .d (.v (.int .i64 6))] [] = some (.d (rE a b), none)) :
    Ca E0 16 [.d vr, .d (.v (.int .i64 v))] (.d (.a [.v (.bool false), LD a, LD b, .v (.int .i64 0), .v (.bool false), .v (.int .u64 0), .s 6 [], .s 8 []]), none) := by
  have t1 := fun m => CL_of (run_Mod7 370 v) (400 + m) (by omega)
  have t2 := fun m => CL_of h (400 + m) (by omega)
  rw [hi] at t1
  refine Ca.ofS (n := 400 + 60) ?_
  rw [show (400 : Nat) + 60 = 400 + 60 from rfl]
  generalize (400 : Nat) = N at *
  rw [CL_fn rfl (show E0.fn 16 = some f16 from rfl) rfl]
  simp only [da, vr, rE, LD] at *
  generalize LL a = x1 at *
  generalize LL b = x2 at *
  clear h hi
  generalize i = j at *
  simp -implicitDefEqProofs [EX_skip, EX_ret, EX_exit, EX_kill, EX_seq, EX_cond, EX_block, EX_region, ROps_nil, ROps_cons, RK_mov, RK_pick, RK_bin, RK_conv, RK_beq, RK_aeq, RK_nileq, RK_un, RK_box, RK_new, RK_load, RK_store, RK_faddr, RK_field, RK_iaddr, RK_aaddr, RK_index, RK_build, RK_lit, RK_len, RK_maxi, RK_mini, RK_app, RK_slice, RK_mk, RK_ext, RK_clo, RK_call, RK_callv, guardV, runK, argV, argsV, doCall, callPure, D.cells, FV.cells, FV.one, D.one, oneV, St.push, St.heap, St.setHeap, splice, partF, partD, s_add, s_sub, s_mul, s_quo, s_rem, s_or, s_and, s_xor, s_shl, s_shr, s_eql, s_neq, s_lss, s_leq, s_gtr, s_geq, unV, setVars, killVars, apartOk, finish, ressV, resV, leavesL, leaves, leaveL, leave1, allD, mkA, fillF, finish2, isPure, oneOf, freezeAll, FV.rows, FV.rows1, D.norm, D.norm1, scalar, D.isV, FV.shift, FV.shiftL, AObj.shift, pureElem, fillE, elems, FStmt.l, FStmt.r, FStmt.bl, FStmt.lp, f16, t1, t2]

theorem made3 (v : Int) : ∃ n d, fr n d ∧ d ≤ 6 ∧ Ca E0 16 [.d vr, .d (.v (.int .i64 v))] (.d (wv false n d), none) := by
  have h : v % 7 = 0 ∨ v % 7 = 1 ∨ v % 7 = 2 ∨ v % 7 = 3 ∨ v % 7 = 4 ∨ v % 7 = 5 ∨ v % 7 = 6 := by omega
  rcases h with h | h | h | h | h | h | h
  · exact ⟨0, 1, ⟨⟨by omega, by omega, by omega, by simp, by simp⟩, by omega, by omega⟩, by omega, by have := made_run h of0; simpa [wv, enc_zero] using this⟩
  · exact ⟨1, 6, ⟨⟨by omega, by omega, by omega, by simp, by simp⟩, by omega, by omega⟩, by omega, by have := made_run h of1; simpa [wv, enc_small] using this⟩
  · exact ⟨1, 3, ⟨⟨by omega, by omega, by omega, by simp, by simp⟩, by omega, by omega⟩, by omega, by have := made_run h of2; simpa [wv, enc_small] using this⟩
  · exact ⟨1, 2, ⟨⟨by omega, by omega, by omega, by simp, by simp⟩, by omega, by omega⟩, by omega, by have := made_run h of3; simpa [wv, enc_small] using this⟩
  · exact ⟨2, 3, ⟨⟨by omega, by omega, by omega, by decide, by simp⟩, by omega, by omega⟩, by omega, by have := made_run h of4; simpa [wv, enc_small] using this⟩
  · exact ⟨5, 6, ⟨⟨by omega, by omega, by omega, by decide, by simp⟩, by omega, by omega⟩, by omega, by have := made_run h of5; simpa [wv, enc_small] using this⟩
  · exact ⟨1, 1, ⟨⟨by omega, by omega, by omega, by simp, by simp⟩, by omega, by omega⟩, by omega, by have := made_run h of6; simpa [wv, enc_small] using this⟩

theorem gt_not {n1 d1 n2 d2 : Nat} (h : gt n1 d1 n2 d2 = true) : gt n2 d2 n1 d1 = false := by
  unfold gt at *
  simp at *
  omega

theorem fr_low {n1 d1 n2 d2 : Nat} (f1 : fr n1 d1) (f2 : fr n2 d2) (b1 : d1 ≤ 6) (b2 : d2 ≤ 6) : fr (lowN (n1 * n2) (d1 * d2)) (lowD (n1 * n2) (d1 * d2)) := by
  have hn := Nat.mul_le_mul f1.2.1 f2.2.1
  have hd := Nat.mul_le_mul b1 b2
  have hp : 0 < d1 * d2 := Nat.mul_pos f1.1.2.1 f2.1.2.1
  refine ⟨okQ_low (by omega) (by omega) hp (fun _ => rfl), ?_, ?_⟩
  · exact Nat.div_le_div_right hn
  · exact Nat.lt_of_le_of_lt (Nat.div_le_self _ _) (by omega)

theorem low_mul {n d : Nat} (hd : 0 < d) : lowN n d * Nat.gcd n d = n ∧ lowD n d * Nat.gcd n d = d ∧ 0 < Nat.gcd n d :=
  ⟨Nat.div_mul_cancel (Nat.gcd_dvd_left n d), Nat.div_mul_cancel (Nat.gcd_dvd_right n d), Nat.gcd_pos_of_pos_right n hd⟩

theorem gt_low {n1 d1 n2 d2 : Nat} (h1 : 0 < d1) (h2 : 0 < d2) (h : gt (lowN n1 d1) (lowD n1 d1) (lowN n2 d2) (lowD n2 d2) = true) : gt n1 d1 n2 d2 = true := by
  obtain ⟨a1, a2, a3⟩ := low_mul (n := n1) h1
  obtain ⟨b1, b2, b3⟩ := low_mul (n := n2) h2
  unfold gt at *
  simp only [decide_eq_true_eq] at *
  generalize lowN n1 d1 = x1 at *
  generalize lowD n1 d1 = y1 at *
  generalize lowN n2 d2 = x2 at *
  generalize lowD n2 d2 = y2 at *
  generalize Nat.gcd n1 d1 = g1 at *
  generalize Nat.gcd n2 d2 = g2 at *
  subst a1 a2 b1 b2
  have e1 : x2 * g2 * (y1 * g1) = (x2 * y1) * (g1 * g2) := by grind
  have e2 : x1 * g1 * (y2 * g2) = (x1 * y2) * (g1 * g2) := by grind
  rw [e1, e2]
  exact Nat.mul_lt_mul_of_pos_right h (Nat.mul_pos a3 b3)

theorem gt_times {n1 d1 n2 d2 n3 d3 : Nat} (f1 : fr n1 d1) (f2 : fr n2 d2) (f3 : fr n3 d3) (h : gt n1 d1 n2 d2 = true) :
    gt (lowN (n2 * n3) (d2 * d3)) (lowD (n2 * n3) (d2 * d3)) (lowN (n1 * n3) (d1 * d3)) (lowD (n1 * n3) (d1 * d3)) = false := by
  cases hc : gt (lowN (n2 * n3) (d2 * d3)) (lowD (n2 * n3) (d2 * d3)) (lowN (n1 * n3) (d1 * d3)) (lowD (n1 * n3) (d1 * d3)) with
  | false => rfl
  | true =>
    exfalso
    have h1 := gt_low (Nat.mul_pos f2.1.2.1 f3.1.2.1) (Nat.mul_pos f1.1.2.1 f3.1.2.1) hc
    unfold gt at *
    simp only [decide_eq_true_eq] at *
    have e1 : n1 * n3 * (d2 * d3) = (n1 * d2) * (n3 * d3) := by grind
    have e2 : n2 * n3 * (d1 * d3) = (n2 * d1) * (n3 * d3) := by grind
    rw [e1, e2] at h1
    have := Nat.mul_le_mul_right (n3 * d3) (Nat.le_of_lt h)
    omega

theorem run_viterbi (hA : Ca E0 11 [] (.d (.v (.bool true)), none)) (u v w : Int) : Ca E0 6 [.d (.v (.bool true)), .d (.v (.int .i64 u)), .d (.v (.int .i64 v)), .d (.v (.int .i64 w))] (.d (.v (.bool true)), none) := by
  obtain ⟨n1, d1, f1, b1, m1⟩ := made3 u
  obtain ⟨n2, d2, f2, b2, m2⟩ := made3 v
  obtain ⟨n3, d3, f3, b3, m3⟩ := made3 w
  obtain ⟨k1, t1⟩ := m1.any
  obtain ⟨k2, t2⟩ := m2.any
  obtain ⟨k3, t3⟩ := m3.any
  obtain ⟨k4, t4⟩ := (ca_Plus f1 f2).any
  obtain ⟨k5, t5⟩ := (ca_Better f2 f1).any
  obtain ⟨k6, t6⟩ := (ca_Better f1 f2).any
  obtain ⟨k7, t7⟩ := (ca_Times f2 f3).any
  obtain ⟨k8, t8⟩ := (ca_Times f1 f3).any
  obtain ⟨k9, t9⟩ := (ca_Better (fr_low f2 f3 b2 b3) (fr_low f1 f3 b1 b3)).any
  obtain ⟨k0, t0⟩ := hA.any
  have s1 := fun m => ca_Equal12 m f1.1.1 f1.1.2.2.1
  have s2 := fun m => ca_Equal12 m f2.1.1 f2.1.2.2.1
  have hK : ∃ K, K = k0 + k1 + k2 + k3 + k4 + k5 + k6 + k7 + k8 + k9 + 160 := ⟨_, rfl⟩
  obtain ⟨K, hK⟩ := hK
  replace t0 := t0 K (by omega)
  replace t1 := t1 K (by omega)
  replace t2 := t2 K (by omega)
  replace t3 := t3 K (by omega)
  replace t4 := t4 K (by omega)
  replace t5 := t5 K (by omega)
  replace t6 := t6 K (by omega)
  replace t7 := t7 K (by omega)
  replace t8 := t8 K (by omega)
  replace t9 := t9 K (by omega)
  have s1' : ∀ m, CL E0 (K + m) 12 [.d (wv false n1 d1), .d (wv false n1 d1)] [] = some (.d (.v (.bool true)), none) := fun m => CL_mono (s1 m) (by omega)
  have s2' : ∀ m, CL E0 (K + m) 12 [.d (wv false n2 d2), .d (wv false n2 d2)] [] = some (.d (.v (.bool true)), none) := fun m => CL_mono (s2 m) (by omega)
  have g1 : gt n1 d1 n2 d2 = true → gt n2 d2 n1 d1 = false := gt_not
  have g2 := gt_times f1 f2 f3
  clear s1 s2 hK m1 m2 m3 hA
  refine Ca.ofS (n := K + 80) ?_
  rw [CL_fn rfl (show E0.fn 6 = some f6 from rfl) rfl]
  generalize gt (lowN (n2 * n3) (d2 * d3)) (lowD (n2 * n3) (d2 * d3)) (lowN (n1 * n3) (d1 * d3)) (lowD (n1 * n3) (d1 * d3)) = g3 at *
  generalize gt n1 d1 n2 d2 = g12 at *
  generalize gt n2 d2 n1 d1 = g21 at *
  generalize lowN (n2 * n3) (d2 * d3) = nx at *
  generalize lowD (n2 * n3) (d2 * d3) = dx at *
  generalize lowN (n1 * n3) (d1 * d3) = ny at *
  generalize lowD (n1 * n3) (d1 * d3) = dy at *
  simp only [wv, vr, LD] at *
  generalize LL (enc n1) = x1 at *
  generalize LL (if d1 = 1 then [] else enc d1) = y1 at *
  generalize LL (enc n2) = x2 at *
  generalize LL (if d2 = 1 then [] else enc d2) = y2 at *
  generalize LL (enc n3) = x3 at *
  generalize LL (if d3 = 1 then [] else enc d3) = y3 at *
  generalize LL (enc nx) = x4 at *
  generalize LL (if dx = 1 then [] else enc dx) = y4 at *
  generalize LL (enc ny) = x5 at *
  generalize LL (if dy = 1 then [] else enc dy) = y5 at *
  cases g12
  · cases g21
    · simp only [Bool.false_eq_true, if_false] at t4
      simp -implicitDefEqProofs [EX_skip, EX_ret, EX_exit, EX_kill, EX_seq, EX_cond, EX_block, EX_region, ROps_nil, ROps_cons, RK_mov, RK_pick, RK_bin, RK_conv, RK_beq, RK_aeq, RK_nileq, RK_un, RK_box, RK_new, RK_load, RK_store, RK_faddr, RK_field, RK_iaddr, RK_aaddr, RK_index, RK_build, RK_lit, RK_len, RK_maxi, RK_mini, RK_app, RK_slice, RK_mk, RK_ext, RK_clo, RK_call, RK_callv, guardV, runK, argV, argsV, doCall, callPure, D.cells, FV.cells, FV.one, D.one, oneV, St.push, St.heap, St.setHeap, splice, partF, partD, s_add, s_sub, s_mul, s_quo, s_rem, s_or, s_and, s_xor, s_shl, s_shr, s_eql, s_neq, s_lss, s_leq, s_gtr, s_geq, unV, setVars, killVars, apartOk, finish, ressV, resV, leavesL, leaves, leaveL, leave1, allD, mkA, fillF, finish2, isPure, oneOf, freezeAll, FV.rows, FV.rows1, D.norm, D.norm1, scalar, D.isV, FV.shift, FV.shiftL, AObj.shift, pureElem, fillE, elems, FStmt.l, FStmt.r, FStmt.bl, FStmt.lp, f6, t0, t1, t2, t3, t4, t5, t6, s1']
    · simp only [if_true] at t4
      simp -implicitDefEqProofs [EX_skip, EX_ret, EX_exit, EX_kill, EX_seq, EX_cond, EX_block, EX_region, ROps_nil, ROps_cons, RK_mov, RK_pick, RK_bin, RK_conv, RK_beq, RK_aeq, RK_nileq, RK_un, RK_box, RK_new, RK_load, RK_store, RK_faddr, RK_field, RK_iaddr, RK_aaddr, RK_index, RK_build, RK_lit, RK_len, RK_maxi, RK_mini, RK_app, RK_slice, RK_mk, RK_ext, RK_clo, RK_call, RK_callv, guardV, runK, argV, argsV, doCall, callPure, D.cells, FV.cells, FV.one, D.one, oneV, St.push, St.heap, St.setHeap, splice, partF, partD, s_add, s_sub, s_mul, s_quo, s_rem, s_or, s_and, s_xor, s_shl, s_shr, s_eql, s_neq, s_lss, s_leq, s_gtr, s_geq, unV, setVars, killVars, apartOk, finish, ressV, resV, leavesL, leaves, leaveL, leave1, allD, mkA, fillF, finish2, isPure, oneOf, freezeAll, FV.rows, FV.rows1, D.norm, D.norm1, scalar, D.isV, FV.shift, FV.shiftL, AObj.shift, pureElem, fillE, elems, FStmt.l, FStmt.r, FStmt.bl, FStmt.lp, f6, t0, t1, t2, t3, t4, t5, t6, s2']
  · have h1 := g1 rfl
    have h2 := g2 rfl
    subst h1
    subst h2
    simp only [Bool.false_eq_true, if_false] at t4
    simp -implicitDefEqProofs [EX_skip, EX_ret, EX_exit, EX_kill, EX_seq, EX_cond, EX_block, EX_region, ROps_nil, ROps_cons, RK_mov, RK_pick, RK_bin, RK_conv, RK_beq, RK_aeq, RK_nileq, RK_un, RK_box, RK_new, RK_load, RK_store, RK_faddr, RK_field, RK_iaddr, RK_aaddr, RK_index, RK_build, RK_lit, RK_len, RK_maxi, RK_mini, RK_app, RK_slice, RK_mk, RK_ext, RK_clo, RK_call, RK_callv, guardV, runK, argV, argsV, doCall, callPure, D.cells, FV.cells, FV.one, D.one, oneV, St.push, St.heap, St.setHeap, splice, partF, partD, s_add, s_sub, s_mul, s_quo, s_rem, s_or, s_and, s_xor, s_shl, s_shr, s_eql, s_neq, s_lss, s_leq, s_gtr, s_geq, unV, setVars, killVars, apartOk, finish, ressV, resV, leavesL, leaves, leaveL, leave1, allD, mkA, fillF, finish2, isPure, oneOf, freezeAll, FV.rows, FV.rows1, D.norm, D.norm1, scalar, D.isV, FV.shift, FV.shiftL, AObj.shift, pureElem, fillE, elems, FStmt.l, FStmt.r, FStmt.bl, FStmt.lp, f6, t0, t1, t2, t3, t4, t5, t6, t7, t8, t9, s1']
end Fi.S
namespace Fi.S
open Go Fi
set_option maxHeartbeats 16000000
set_option maxRecDepth 100000

def lt2 (x y : Bool × Int) : Bool := !x.1 && (y.1 || decide (x.2 < y.2))

theorem caT {n g : Nat} {args : List FV} {r : FV × Option (List AObj)} (h : callN E0 n g args [] = some r) : ∀ m, CL E0 (n + m) g args [] = some r := fun m => by
  rw [CL_eq]; exact call_mono h (by omega)

theorem run_Better2 (m : Nat) {x y : Bool × Int} (hx : ok x) (hy : ok y) : CL E0 (400 + m) 24 [.d tr, .d (wp x), .d (wp y)] [] = some (.d (.v (.bool (lt2 x y))), none) := by
  have t1 : ∀ k, CL E0 (k + 260) 41 [.d tr, .d (wp x)] [] = some (da (wp x)) := fun k => by rw [CL_eq]; exact run_value k x.1 x.2 hx.1 hx.2.1 hx.2.2
  have t2 : ∀ k, CL E0 (k + 260) 41 [.d tr, .d (wp y)] [] = some (da (wp y)) := fun k => by rw [CL_eq]; exact run_value k y.1 y.2 hy.1 hy.2.1 hy.2.2
  have t3 : ∀ k, CL E0 (k + 40) 126 [.d (wp x), .d (wp y)] [] = some (bo (lt2 x y)) := fun k => by rw [CL_eq]; exact run_less k x.1 y.1 x.2 y.2
  have t4 : ∀ k, CL E0 (k + 40) 42 [.d (.v (.int .i64 2))] [] = some (kindV, some kindB) := fun k => by rw [CL_eq]; exact call_mono cl_kind (by omega)
  have t5 : ∀ k, CL E0 (k + 40) 31 [.d tr] [] = some (bo true) := fun k => by rw [CL_eq]; exact call_mono cl_valid (by omega)
  rw [show 400 + m = (m + 100) + 300 by omega]
  rw [CL_fn rfl (show E0.fn 24 = some f24 from rfl) rfl]
  generalize lt2 x y = res at *
  unfold kindV kindB at t4
  simp only [wp, wt, tr, bo, da] at *
  generalize x.1 = x1 at *
  generalize x.2 = x2 at *
  generalize y.1 = y1 at *
  generalize y.2 = y2 at *
  simp -implicitDefEqProofs [EX_skip, EX_ret, EX_exit, EX_kill, EX_seq, EX_cond, EX_block, EX_region, ROps_nil, ROps_cons, RK_mov, RK_pick, RK_bin, RK_conv, RK_beq, RK_aeq, RK_nileq, RK_un, RK_box, RK_new, RK_load, RK_store, RK_faddr, RK_field, RK_iaddr, RK_aaddr, RK_index, RK_build, RK_lit, RK_len, RK_maxi, RK_mini, RK_app, RK_slice, RK_mk, RK_ext, RK_clo, RK_call, RK_callv, guardV, runK, argV, argsV, doCall, callPure, D.cells, FV.cells, FV.one, D.one, oneV, St.push, St.heap, St.setHeap, splice, partF, partD, s_add, s_sub, s_mul, s_quo, s_rem, s_or, s_and, s_xor, s_shl, s_shr, s_eql, s_neq, s_lss, s_leq, s_gtr, s_geq, unV, setVars, killVars, apartOk, finish, ressV, resV, leavesL, leaves, leaveL, leave1, allD, mkA, fillF, finish2, isPure, oneOf, freezeAll, FV.rows, FV.rows1, D.norm, D.norm1, scalar, D.isV, FV.shift, FV.shiftL, AObj.shift, pureElem, fillE, elems, FStmt.l, FStmt.r, FStmt.bl, FStmt.lp, f24, t1, t2, t3, t4, t5]

theorem lt2_not {x y : Bool × Int} (h : lt2 x y = true) : lt2 y x = false := by
  obtain ⟨i, a⟩ := x
  obtain ⟨j, b⟩ := y
  unfold lt2 at *
  cases i <;> cases j <;> simp at * <;> omega

theorem lt2_T {x y z : Bool × Int} (hx : ok x) (hy : ok y) (hz : ok z) (h : lt2 x y = true) : lt2 (T y z) (T x z) = false := by
  obtain ⟨i, a⟩ := x
  obtain ⟨j, b⟩ := y
  obtain ⟨k, c⟩ := z
  unfold lt2 T ok at *
  cases i <;> cases j <;> cases k <;> simp at * <;> (repeat' split) <;> simp_all <;> omega

theorem Pl_lt (x y : Bool × Int) : Pl x y = if lt2 y x = true then y else x := rfl

theorem run_costs (hA : Ca E0 11 [] (.d (.v (.bool true)), none)) (u v w : Int) : Ca E0 6 [.d (.v (.bool false)), .d (.v (.int .i64 u)), .d (.v (.int .i64 v)), .d (.v (.int .i64 w))] (.d (.v (.bool true)), none) := by
  have ox := ok_mc u
  have oy := ok_mc v
  have oz := ok_mc w
  obtain ⟨k0, t0⟩ := hA.any
  obtain ⟨K, hK⟩ : ∃ K, K = k0 + 400 := ⟨_, rfl⟩
  replace t0 := t0 K (by omega)
  have t1 := fun m => CL_of (run_made_cost 0 u) (K + m) (by omega)
  have t2 := fun m => CL_of (run_made_cost 0 v) (K + m) (by omega)
  have t3 := fun m => CL_of (run_made_cost 0 w) (K + m) (by omega)
  generalize mc u = x at *
  generalize mc v = y at *
  generalize mc w = z at *
  have t4 := fun m => CL_of (run_Plus 0 x y ox oy) (K + m) (by omega)
  have t5 := fun m => CL_mono (run_Better2 0 oy ox) (show 400 + 0 ≤ K + m by omega)
  have t6 := fun m => CL_mono (run_Better2 0 ox oy) (show 400 + 0 ≤ K + m by omega)
  have t7 := fun m => CL_of (run_Times 0 y z oy oz) (K + m) (by omega)
  have t8 := fun m => CL_of (run_Times 0 x z ox oz) (K + m) (by omega)
  have t9 := fun m => CL_mono (run_Better2 0 (ok_T oy oz) (ok_T ox oz)) (show 400 + 0 ≤ K + m by omega)
  have s1 := fun m => CL_of (run_same 0 x) (K + m) (by omega)
  have s2 := fun m => CL_of (run_same 0 y) (K + m) (by omega)
  have g1 : lt2 x y = true → lt2 y x = false := lt2_not
  have g2 := lt2_T ox oy oz
  rw [Pl_lt] at t4
  clear ox oy oz hK hA
  refine Ca.ofS (n := K + 80) ?_
  rw [CL_fn rfl (show E0.fn 6 = some f6 from rfl) rfl]
  generalize lt2 (T y z) (T x z) = g3 at *
  generalize lt2 x y = g12 at *
  generalize lt2 y x = g21 at *
  generalize T y z = p at *
  generalize T x z = q at *
  simp only [wp, wt, tr, bo, da] at *
  cases g12
  · cases g21
    · simp only [Bool.false_eq_true, if_false] at t4
      generalize x.1 = x1 at *
      generalize x.2 = x2 at *
      generalize y.1 = y1 at *
      generalize y.2 = y2 at *
      simp -implicitDefEqProofs [EX_skip, EX_ret, EX_exit, EX_kill, EX_seq, EX_cond, EX_block, EX_region, ROps_nil, ROps_cons, RK_mov, RK_pick, RK_bin, RK_conv, RK_beq, RK_aeq, RK_nileq, RK_un, RK_box, RK_new, RK_load, RK_store, RK_faddr, RK_field, RK_iaddr, RK_aaddr, RK_index, RK_build, RK_lit, RK_len, RK_maxi, RK_mini, RK_app, RK_slice, RK_mk, RK_ext, RK_clo, RK_call, RK_callv, guardV, runK, argV, argsV, doCall, callPure, D.cells, FV.cells, FV.one, D.one, oneV, St.push, St.heap, St.setHeap, splice, partF, partD, s_add, s_sub, s_mul, s_quo, s_rem, s_or, s_and, s_xor, s_shl, s_shr, s_eql, s_neq, s_lss, s_leq, s_gtr, s_geq, unV, setVars, killVars, apartOk, finish, ressV, resV, leavesL, leaves, leaveL, leave1, allD, mkA, fillF, finish2, isPure, oneOf, freezeAll, FV.rows, FV.rows1, D.norm, D.norm1, scalar, D.isV, FV.shift, FV.shiftL, AObj.shift, pureElem, fillE, elems, FStmt.l, FStmt.r, FStmt.bl, FStmt.lp, f6, t0, t1, t2, t3, t4, t5, t6, s1]
    · simp only [if_true] at t4
      generalize x.1 = x1 at *
      generalize x.2 = x2 at *
      generalize y.1 = y1 at *
      generalize y.2 = y2 at *
      simp -implicitDefEqProofs [EX_skip, EX_ret, EX_exit, EX_kill, EX_seq, EX_cond, EX_block, EX_region, ROps_nil, ROps_cons, RK_mov, RK_pick, RK_bin, RK_conv, RK_beq, RK_aeq, RK_nileq, RK_un, RK_box, RK_new, RK_load, RK_store, RK_faddr, RK_field, RK_iaddr, RK_aaddr, RK_index, RK_build, RK_lit, RK_len, RK_maxi, RK_mini, RK_app, RK_slice, RK_mk, RK_ext, RK_clo, RK_call, RK_callv, guardV, runK, argV, argsV, doCall, callPure, D.cells, FV.cells, FV.one, D.one, oneV, St.push, St.heap, St.setHeap, splice, partF, partD, s_add, s_sub, s_mul, s_quo, s_rem, s_or, s_and, s_xor, s_shl, s_shr, s_eql, s_neq, s_lss, s_leq, s_gtr, s_geq, unV, setVars, killVars, apartOk, finish, ressV, resV, leavesL, leaves, leaveL, leave1, allD, mkA, fillF, finish2, isPure, oneOf, freezeAll, FV.rows, FV.rows1, D.norm, D.norm1, scalar, D.isV, FV.shift, FV.shiftL, AObj.shift, pureElem, fillE, elems, FStmt.l, FStmt.r, FStmt.bl, FStmt.lp, f6, t0, t1, t2, t3, t4, t5, t6, s2]
  · have h1 := g1 rfl
    have h2 := g2 rfl
    subst h1
    subst h2
    simp only [Bool.false_eq_true, if_false] at t4
    generalize x.1 = x1 at *
    generalize x.2 = x2 at *
    generalize y.1 = y1 at *
    generalize y.2 = y2 at *
    generalize z.1 = z1 at *
    generalize z.2 = z2 at *
    generalize p.1 = p1 at *
    generalize p.2 = p2 at *
    generalize q.1 = q1 at *
    generalize q.2 = q2 at *
    simp -implicitDefEqProofs [EX_skip, EX_ret, EX_exit, EX_kill, EX_seq, EX_cond, EX_block, EX_region, ROps_nil, ROps_cons, RK_mov, RK_pick, RK_bin, RK_conv, RK_beq, RK_aeq, RK_nileq, RK_un, RK_box, RK_new, RK_load, RK_store, RK_faddr, RK_field, RK_iaddr, RK_aaddr, RK_index, RK_build, RK_lit, RK_len, RK_maxi, RK_mini, RK_app, RK_slice, RK_mk, RK_ext, RK_clo, RK_call, RK_callv, guardV, runK, argV, argsV, doCall, callPure, D.cells, FV.cells, FV.one, D.one, oneV, St.push, St.heap, St.setHeap, splice, partF, partD, s_add, s_sub, s_mul, s_quo, s_rem, s_or, s_and, s_xor, s_shl, s_shr, s_eql, s_neq, s_lss, s_leq, s_gtr, s_geq, unV, setVars, killVars, apartOk, finish, ressV, resV, leavesL, leaves, leaveL, leave1, allD, mkA, fillF, finish2, isPure, oneOf, freezeAll, FV.rows, FV.rows1, D.norm, D.norm1, scalar, D.isV, FV.shift, FV.shiftL, AObj.shift, pureElem, fillE, elems, FStmt.l, FStmt.r, FStmt.bl, FStmt.lp, f6, t0, t1, t2, t3, t4, t5, t6, t7, t8, t9, s1]

theorem run_law4 (hA : Ca E0 11 [] (.d (.v (.bool true)), none)) (t : Bool) (u v w : Int) : Ca E0 6 [.d (.v (.bool t)), .d (.v (.int .i64 u)), .d (.v (.int .i64 v)), .d (.v (.int .i64 w))] (.d (.v (.bool true)), none) := by
  cases t
  · exact run_costs hA u v w
  · exact run_viterbi hA u v w
end Fi.S
