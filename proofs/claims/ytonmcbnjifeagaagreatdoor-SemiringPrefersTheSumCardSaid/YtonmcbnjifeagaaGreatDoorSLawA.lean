/- Semirings of costs; made weights of costs. -/
import Derived.Test.YtonmcbnjifeagaaGreatDoorSEnv
import Derived.Test.YtonmcbnjifeagaaGreatDoorFiTail
set_option linter.unusedVariables false
set_option linter.unusedSimpArgs false
namespace Fi.S
open Go Fi
set_option maxHeartbeats 8000000

def wt (i : Bool) (c : Int) : D := .a [.v (.bool false), .s 1 [], .s 1 [], .v (.int .i64 c), .v (.bool i), .v (.int .u64 0), .s 6 [], .s 8 []]
def tr : D := .a [.v (.int .i64 2), .s 1 []]
def bo (b : Bool) : FV × Option (List AObj) := (.d (.v (.bool b)), none)
def da (x : D) : FV × Option (List AObj) := (.d x, none)

theorem cl_valid : callN E0 40 31 [.d tr] [] = some (bo true) := by kernel_rfl
theorem cl_eq : callN E0 40 101 [.d (.s 1 []), .d (.s 1 [])] [] = some (bo true) := by kernel_rfl
theorem cl_eq73 : callN E0 40 73 [.d (.s 6 []), .d (.s 6 []), .d (.fn 71)] [] = some (bo true) := by kernel_rfl
theorem cl_eq74 : callN E0 40 74 [.d (.s 8 []), .d (.s 8 []), .d (.fn 34)] [] = some (bo true) := by kernel_rfl
theorem cl_zero : callN E0 60 26 [.d tr] [] = some (da (wt true 0)) := by kernel_rfl
theorem cl_72 : callN E0 60 72 [.d (.a [.v (.bool false), .s 1 [], .s 1 []]), .d (.a [.v (.bool false), .s 1 [], .s 1 []])] [] = some (bo true) := by kernel_rfl
theorem cl_39 : callN E0 60 39 [.d (.a [.v (.bool false), .s 1 [], .s 1 []]), .d (.a [.v (.bool false), .s 1 [], .s 1 []])] [] = some (bo true) := by kernel_rfl
theorem cl_40 : callN E0 60 40 [.d (.s 6 []), .d (.s 6 [])] [] = some (bo true) := by kernel_rfl

def kindV : FV := .a [(.d (.fn 122)), (.d (.fn 123)), (.d (.fn 124)), (.d (.fn 125)), (.d (.fn 127)), (.f 195 [] [(.r (.old 3) 0)]), (.d (.fn 126)), (.d (.fn 128)), (.f 131 [] [(.r (.old 2) 0)])]
def kindB : List AObj := [(.box [(.d (.fn 122)), (.d (.fn 123)), (.d (.fn 124)), (.d (.fn 125)), (.d (.fn 127)), (.f 195 [] [(.r (.old 3) 0)]), (.d (.fn 126)), (.d (.fn 128)), (.f 131 [] [(.r (.old 2) 0)])]), (.box [(.d (.fn 122)), (.d (.fn 123)), (.d (.fn 124)), (.d (.fn 125)), (.d (.fn 127)), (.f 195 [] [(.r (.old 3) 0)]), (.d (.fn 126)), (.d (.fn 128)), (.f 131 [] [(.r (.old 2) 0)])]), (.box [(.d (.fn 122)), (.d (.fn 123)), (.d (.fn 124)), (.d (.fn 125)), (.d (.fn 127)), (.f 195 [] [(.r (.old 3) 0)]), (.d (.fn 126)), (.d (.fn 128)), (.f 131 [] [(.r (.old 2) 0)])]), (.box [(.d (.fn 124))])]
theorem cl_kind : callN E0 40 42 [.d (.v (.int .i64 2))] [] = some (kindV, some kindB) := by kernel_rfl

theorem run_less (n : Nat) (i j : Bool) (a b : Int) : callN E0 (n + 40) 126 [.d (wt i a), .d (wt j b)] [] = some (bo (!i && (j || decide (a < b)))) := by
  rw [call_fn rfl (show E0.fn 126 = some f126 from rfl) rfl]
  cases i <;> cases j <;> simp -implicitDefEqProofs [exec_skip, exec_ret, exec_exit, exec_kill, exec_seq, exec_cond, exec_block, exec_region, runOps, guardV, runK, argV, argsV, doCall, callPure, D.cells, FV.cells, FV.one, D.one, oneV, St.push, St.heap, St.setHeap, splice, partF, partD, b_add, b_sub, b_mul, b_quo, b_rem, b_or, b_and, b_xor, b_shl, b_shr, b_eql, b_neq, b_lss, b_leq, b_gtr, b_geq, unV, setVars, killVars, apartOk, finish, ressV, resV, leavesL, leaves, leaveL, leave1, allD, mkA, fillF, finish2, isPure, oneOf, freezeAll, FV.rows, FV.rows1, D.norm, D.norm1, scalar, D.isV, FV.shift, FV.shiftL, AObj.shift, pureElem, fillE, elems, f126, wt, bo]

theorem run_equal (n : Nat) (i j : Bool) (a b : Int) : callN E0 (n + 100) 34 [.d (wt i a), .d (wt j b)] [] = some (bo (decide (a = b) && (i == j))) := by
  rw [call_fn rfl (show E0.fn 34 = some f34 from rfl) rfl]
  have h72 : ∀ m, callN E0 (m + 60) 72 [.d (.a [.v (.bool false), .s 1 [], .s 1 []]), .d (.a [.v (.bool false), .s 1 [], .s 1 []])] [] = some (bo true) := fun m => call_mono cl_72 (by omega)
  have h73 : ∀ m, callN E0 (m + 40) 73 [.d (.s 6 []), .d (.s 6 []), .d (.fn 71)] [] = some (bo true) := fun m => call_mono cl_eq73 (by omega)
  have h74 : ∀ m, callN E0 (m + 40) 74 [.d (.s 8 []), .d (.s 8 []), .d (.fn 34)] [] = some (bo true) := fun m => call_mono cl_eq74 (by omega)
  by_cases hab : a = b
  · subst hab
    cases i <;> cases j <;> simp -implicitDefEqProofs [exec_skip, exec_ret, exec_exit, exec_kill, exec_seq, exec_cond, exec_block, exec_region, runOps, guardV, runK, argV, argsV, doCall, callPure, D.cells, FV.cells, FV.one, D.one, oneV, St.push, St.heap, St.setHeap, splice, partF, partD, b_add, b_sub, b_mul, b_quo, b_rem, b_or, b_and, b_xor, b_shl, b_shr, b_eql, b_neq, b_lss, b_leq, b_gtr, b_geq, unV, setVars, killVars, apartOk, finish, ressV, resV, leavesL, leaves, leaveL, leave1, allD, mkA, fillF, finish2, isPure, oneOf, freezeAll, FV.rows, FV.rows1, D.norm, D.norm1, scalar, D.isV, FV.shift, FV.shiftL, AObj.shift, pureElem, fillE, elems, f34, wt, bo, h72, h73, h74]
  · have hb : (a == b) = false := by simpa using hab
    simp -implicitDefEqProofs [exec_skip, exec_ret, exec_exit, exec_kill, exec_seq, exec_cond, exec_block, exec_region, runOps, guardV, runK, argV, argsV, doCall, callPure, D.cells, FV.cells, FV.one, D.one, oneV, St.push, St.heap, St.setHeap, splice, partF, partD, b_add, b_sub, b_mul, b_quo, b_rem, b_or, b_and, b_xor, b_shl, b_shr, b_eql, b_neq, b_lss, b_leq, b_gtr, b_geq, unV, setVars, killVars, apartOk, finish, ressV, resV, leavesL, leaves, leaveL, leave1, allD, mkA, fillF, finish2, isPure, oneOf, freezeAll, FV.rows, FV.rows1, D.norm, D.norm1, scalar, D.isV, FV.shift, FV.shiftL, AObj.shift, pureElem, fillE, elems, f34, wt, bo, h72, h73, h74, hb, hab]

theorem run_check1 (n : Nat) (i : Bool) (a : Int) (h0 : 0 ≤ a) (h1 : a ≤ 1099511627776) (hi : i = true → a = 0) : callN E0 (n + 160) 122 [.d (wt i a)] [] = some (bo true) := by
  rw [call_fn rfl (show E0.fn 122 = some f122 from rfl) rfl]
  have he : ∀ m, callN E0 (m + 100) 34 [.d (wt i a), .d (wt i a)] [] = some (bo true) := fun m => by rw [run_equal]; simp
  unfold wt at he
  have h2 : ((!i) || decide (a = 0)) = true := by cases i <;> simp_all
  cases i
  · simp -implicitDefEqProofs [exec_skip, exec_ret, exec_exit, exec_kill, exec_seq, exec_cond, exec_block, exec_region, runOps, guardV, runK, argV, argsV, doCall, callPure, D.cells, FV.cells, FV.one, D.one, oneV, St.push, St.heap, St.setHeap, splice, partF, partD, b_add, b_sub, b_mul, b_quo, b_rem, b_or, b_and, b_xor, b_shl, b_shr, b_eql, b_neq, b_lss, b_leq, b_gtr, b_geq, unV, setVars, killVars, apartOk, finish, ressV, resV, leavesL, leaves, leaveL, leave1, allD, mkA, fillF, finish2, isPure, oneOf, freezeAll, FV.rows, FV.rows1, D.norm, D.norm1, scalar, D.isV, FV.shift, FV.shiftL, AObj.shift, pureElem, fillE, elems, f122, wt, bo, he, h0, h1]
  · have := hi rfl
    subst this
    simp -implicitDefEqProofs [exec_skip, exec_ret, exec_exit, exec_kill, exec_seq, exec_cond, exec_block, exec_region, runOps, guardV, runK, argV, argsV, doCall, callPure, D.cells, FV.cells, FV.one, D.one, oneV, St.push, St.heap, St.setHeap, splice, partF, partD, b_add, b_sub, b_mul, b_quo, b_rem, b_or, b_and, b_xor, b_shl, b_shr, b_eql, b_neq, b_lss, b_leq, b_gtr, b_geq, unV, setVars, killVars, apartOk, finish, ressV, resV, leavesL, leaves, leaveL, leave1, allD, mkA, fillF, finish2, isPure, oneOf, freezeAll, FV.rows, FV.rows1, D.norm, D.norm1, scalar, D.isV, FV.shift, FV.shiftL, AObj.shift, pureElem, fillE, elems, f122, wt, bo, he]

theorem run_Check (n : Nat) (i : Bool) (a : Int) (h0 : 0 ≤ a) (h1 : a ≤ 1099511627776) (hi : i = true → a = 0) : callN E0 (n + 220) 18 [.d tr, .d (wt i a)] [] = some (bo true) := by
  rw [call_fn rfl (show E0.fn 18 = some f18 from rfl) rfl]
  have hc : ∀ m, callN E0 (m + 160) 122 [.d (wt i a)] [] = some (bo true) := fun m => run_check1 m i a h0 h1 hi
  have hk : ∀ m, callN E0 (m + 40) 42 [.d (.v (.int .i64 2))] [] = some (kindV, some kindB) := fun m => call_mono cl_kind (by omega)
  have hv : ∀ m, callN E0 (m + 40) 31 [.d tr] [] = some (bo true) := fun m => call_mono cl_valid (by omega)
  unfold wt tr at *
  unfold kindV kindB at hk
  simp -implicitDefEqProofs [exec_skip, exec_ret, exec_exit, exec_kill, exec_seq, exec_cond, exec_block, exec_region, runOps, guardV, runK, argV, argsV, doCall, callPure, D.cells, FV.cells, FV.one, D.one, oneV, St.push, St.heap, St.setHeap, splice, partF, partD, b_add, b_sub, b_mul, b_quo, b_rem, b_or, b_and, b_xor, b_shl, b_shr, b_eql, b_neq, b_lss, b_leq, b_gtr, b_geq, unV, setVars, killVars, apartOk, finish, ressV, resV, leavesL, leaves, leaveL, leave1, allD, mkA, fillF, finish2, isPure, oneOf, freezeAll, FV.rows, FV.rows1, D.norm, D.norm1, scalar, D.isV, FV.shift, FV.shiftL, AObj.shift, pureElem, fillE, elems, f18, bo, hc, hk, hv]

theorem run_value (n : Nat) (i : Bool) (a : Int) (h0 : 0 ≤ a) (h1 : a ≤ 1099511627776) (hi : i = true → a = 0) : callN E0 (n + 260) 41 [.d tr, .d (wt i a)] [] = some (da (wt i a)) := by
  rw [call_fn rfl (show E0.fn 41 = some f41 from rfl) rfl]
  have hc : ∀ m, callN E0 (m + 220) 18 [.d tr, .d (wt i a)] [] = some (bo true) := fun m => run_Check m i a h0 h1 hi
  unfold wt tr at *
  simp -implicitDefEqProofs [exec_skip, exec_ret, exec_exit, exec_kill, exec_seq, exec_cond, exec_block, exec_region, runOps, guardV, runK, argV, argsV, doCall, callPure, D.cells, FV.cells, FV.one, D.one, oneV, St.push, St.heap, St.setHeap, splice, partF, partD, b_add, b_sub, b_mul, b_quo, b_rem, b_or, b_and, b_xor, b_shl, b_shr, b_eql, b_neq, b_lss, b_leq, b_gtr, b_geq, unV, setVars, killVars, apartOk, finish, ressV, resV, leavesL, leaves, leaveL, leave1, allD, mkA, fillF, finish2, isPure, oneOf, freezeAll, FV.rows, FV.rows1, D.norm, D.norm1, scalar, D.isV, FV.shift, FV.shiftL, AObj.shift, pureElem, fillE, elems, f41, bo, da, hc]

def M : Int := 1099511627776
/-- The product of two costs, and their sum. -/
def T (x y : Bool × Int) : Bool × Int := if (x.1 || y.1 || decide (1099511627776 < x.2 + y.2)) = true then (true, 0) else (false, x.2 + y.2)
def Pl (x y : Bool × Int) : Bool × Int := if (!y.1 && (x.1 || decide (y.2 < x.2))) = true then y else x
def ok (x : Bool × Int) : Prop := 0 ≤ x.2 ∧ x.2 ≤ 1099511627776 ∧ (x.1 = true → x.2 = 0)
def wp (x : Bool × Int) : D := wt x.1 x.2

theorem ok_T {x y : Bool × Int} (hx : ok x) (hy : ok y) : ok (T x y) := by
  unfold T ok at *
  split
  · simp
  · rename_i h
    simp at h
    simp
    omega

theorem ok_Pl {x y : Bool × Int} (hx : ok x) (hy : ok y) : ok (Pl x y) := by
  unfold Pl
  split
  · exact hy
  · exact hx

theorem wrap_small {z : Int} (h0 : 0 ≤ z) (h1 : z ≤ 2199023255552) : IntKind.i64.wrap z = z := by
  simp only [IntKind.wrap, IntKind.bits, IntKind.signed]
  simp
  split <;> omega

theorem run_127 (n : Nat) (x y : Bool × Int) (hx : ok x) (hy : ok y) : callN E0 (n + 40) 127 [.d (wp x), .d (wp y)] [] = some (da (wp (T x y))) := by
  rw [call_fn rfl (show E0.fn 127 = some f127 from rfl) rfl]
  obtain ⟨i, a⟩ := x
  obtain ⟨j, b⟩ := y
  obtain ⟨a0, a1, _⟩ := hx
  obtain ⟨b0, b1, _⟩ := hy
  have hw : IntKind.i64.wrap (a + b) = a + b := wrap_small (by simp at *; omega) (by simp at *; omega)
  unfold T
  cases i
  · cases j
    · by_cases hab : 1099511627776 < a + b
      · simp -implicitDefEqProofs [exec_skip, exec_ret, exec_exit, exec_kill, exec_seq, exec_cond, exec_block, exec_region, runOps, guardV, runK, argV, argsV, doCall, callPure, D.cells, FV.cells, FV.one, D.one, oneV, St.push, St.heap, St.setHeap, splice, partF, partD, b_add, b_sub, b_mul, b_quo, b_rem, b_or, b_and, b_xor, b_shl, b_shr, b_eql, b_neq, b_lss, b_leq, b_gtr, b_geq, unV, setVars, killVars, apartOk, finish, ressV, resV, leavesL, leaves, leaveL, leave1, allD, mkA, fillF, finish2, isPure, oneOf, freezeAll, FV.rows, FV.rows1, D.norm, D.norm1, scalar, D.isV, FV.shift, FV.shiftL, AObj.shift, pureElem, fillE, elems, f127, wp, wt, da, hw, hab]
      · simp -implicitDefEqProofs [exec_skip, exec_ret, exec_exit, exec_kill, exec_seq, exec_cond, exec_block, exec_region, runOps, guardV, runK, argV, argsV, doCall, callPure, D.cells, FV.cells, FV.one, D.one, oneV, St.push, St.heap, St.setHeap, splice, partF, partD, b_add, b_sub, b_mul, b_quo, b_rem, b_or, b_and, b_xor, b_shl, b_shr, b_eql, b_neq, b_lss, b_leq, b_gtr, b_geq, unV, setVars, killVars, apartOk, finish, ressV, resV, leavesL, leaves, leaveL, leave1, allD, mkA, fillF, finish2, isPure, oneOf, freezeAll, FV.rows, FV.rows1, D.norm, D.norm1, scalar, D.isV, FV.shift, FV.shiftL, AObj.shift, pureElem, fillE, elems, f127, wp, wt, da, hw, hab]
    · simp -implicitDefEqProofs [exec_skip, exec_ret, exec_exit, exec_kill, exec_seq, exec_cond, exec_block, exec_region, runOps, guardV, runK, argV, argsV, doCall, callPure, D.cells, FV.cells, FV.one, D.one, oneV, St.push, St.heap, St.setHeap, splice, partF, partD, b_add, b_sub, b_mul, b_quo, b_rem, b_or, b_and, b_xor, b_shl, b_shr, b_eql, b_neq, b_lss, b_leq, b_gtr, b_geq, unV, setVars, killVars, apartOk, finish, ressV, resV, leavesL, leaves, leaveL, leave1, allD, mkA, fillF, finish2, isPure, oneOf, freezeAll, FV.rows, FV.rows1, D.norm, D.norm1, scalar, D.isV, FV.shift, FV.shiftL, AObj.shift, pureElem, fillE, elems, f127, wp, wt, da]
  · simp -implicitDefEqProofs [exec_skip, exec_ret, exec_exit, exec_kill, exec_seq, exec_cond, exec_block, exec_region, runOps, guardV, runK, argV, argsV, doCall, callPure, D.cells, FV.cells, FV.one, D.one, oneV, St.push, St.heap, St.setHeap, splice, partF, partD, b_add, b_sub, b_mul, b_quo, b_rem, b_or, b_and, b_xor, b_shl, b_shr, b_eql, b_neq, b_lss, b_leq, b_gtr, b_geq, unV, setVars, killVars, apartOk, finish, ressV, resV, leavesL, leaves, leaveL, leave1, allD, mkA, fillF, finish2, isPure, oneOf, freezeAll, FV.rows, FV.rows1, D.norm, D.norm1, scalar, D.isV, FV.shift, FV.shiftL, AObj.shift, pureElem, fillE, elems, f127, wp, wt, da]

theorem run_125 (n : Nat) (x y : Bool × Int) : callN E0 (n + 80) 125 [.d (wp x), .d (wp y)] [] = some (da (wp (Pl x y))) := by
  rw [call_fn rfl (show E0.fn 125 = some f125 from rfl) rfl]
  obtain ⟨i, a⟩ := x
  obtain ⟨j, b⟩ := y
  have h := fun m => run_less m j i b a
  unfold Pl
  cases hc : (!j && (i || decide (b < a)))
  · rw [hc] at h
    unfold wp wt at *
    simp -implicitDefEqProofs [exec_skip, exec_ret, exec_exit, exec_kill, exec_seq, exec_cond, exec_block, exec_region, runOps, guardV, runK, argV, argsV, doCall, callPure, D.cells, FV.cells, FV.one, D.one, oneV, St.push, St.heap, St.setHeap, splice, partF, partD, b_add, b_sub, b_mul, b_quo, b_rem, b_or, b_and, b_xor, b_shl, b_shr, b_eql, b_neq, b_lss, b_leq, b_gtr, b_geq, unV, setVars, killVars, apartOk, finish, ressV, resV, leavesL, leaves, leaveL, leave1, allD, mkA, fillF, finish2, isPure, oneOf, freezeAll, FV.rows, FV.rows1, D.norm, D.norm1, scalar, D.isV, FV.shift, FV.shiftL, AObj.shift, pureElem, fillE, elems, f125, bo, da, h, hc]
  · rw [hc] at h
    unfold wp wt at *
    simp -implicitDefEqProofs [exec_skip, exec_ret, exec_exit, exec_kill, exec_seq, exec_cond, exec_block, exec_region, runOps, guardV, runK, argV, argsV, doCall, callPure, D.cells, FV.cells, FV.one, D.one, oneV, St.push, St.heap, St.setHeap, splice, partF, partD, b_add, b_sub, b_mul, b_quo, b_rem, b_or, b_and, b_xor, b_shl, b_shr, b_eql, b_neq, b_lss, b_leq, b_gtr, b_geq, unV, setVars, killVars, apartOk, finish, ressV, resV, leavesL, leaves, leaveL, leave1, allD, mkA, fillF, finish2, isPure, oneOf, freezeAll, FV.rows, FV.rows1, D.norm, D.norm1, scalar, D.isV, FV.shift, FV.shiftL, AObj.shift, pureElem, fillE, elems, f125, bo, da, h, hc]

theorem run_Times (n : Nat) (x y : Bool × Int) (hx : ok x) (hy : ok y) : callN E0 (n + 300) 13 [.d tr, .d (wp x), .d (wp y)] [] = some (da (wp (T x y))) := by
  rw [call_fn rfl (show E0.fn 13 = some f13 from rfl) rfl]
  have h1 : ∀ m, callN E0 (m + 260) 41 [.d tr, .d (wp x)] [] = some (da (wp x)) := fun m => run_value m x.1 x.2 hx.1 hx.2.1 hx.2.2
  have h2 : ∀ m, callN E0 (m + 260) 41 [.d tr, .d (wp y)] [] = some (da (wp y)) := fun m => run_value m y.1 y.2 hy.1 hy.2.1 hy.2.2
  have h3 : ∀ m, callN E0 (m + 40) 127 [.d (wp x), .d (wp y)] [] = some (da (wp (T x y))) := fun m => run_127 m x y hx hy
  have hk : ∀ m, callN E0 (m + 40) 42 [.d (.v (.int .i64 2))] [] = some (kindV, some kindB) := fun m => call_mono cl_kind (by omega)
  have hv : ∀ m, callN E0 (m + 40) 31 [.d tr] [] = some (bo true) := fun m => call_mono cl_valid (by omega)
  unfold wp wt tr at *
  unfold kindV kindB at hk
  simp -implicitDefEqProofs [exec_skip, exec_ret, exec_exit, exec_kill, exec_seq, exec_cond, exec_block, exec_region, runOps, guardV, runK, argV, argsV, doCall, callPure, D.cells, FV.cells, FV.one, D.one, oneV, St.push, St.heap, St.setHeap, splice, partF, partD, b_add, b_sub, b_mul, b_quo, b_rem, b_or, b_and, b_xor, b_shl, b_shr, b_eql, b_neq, b_lss, b_leq, b_gtr, b_geq, unV, setVars, killVars, apartOk, finish, ressV, resV, leavesL, leaves, leaveL, leave1, allD, mkA, fillF, finish2, isPure, oneOf, freezeAll, FV.rows, FV.rows1, D.norm, D.norm1, scalar, D.isV, FV.shift, FV.shiftL, AObj.shift, pureElem, fillE, elems, f13, bo, da, h1, h2, h3, hk, hv]

theorem run_Plus (n : Nat) (x y : Bool × Int) (hx : ok x) (hy : ok y) : callN E0 (n + 300) 14 [.d tr, .d (wp x), .d (wp y)] [] = some (da (wp (Pl x y))) := by
  rw [call_fn rfl (show E0.fn 14 = some f14 from rfl) rfl]
  have h1 : ∀ m, callN E0 (m + 260) 41 [.d tr, .d (wp x)] [] = some (da (wp x)) := fun m => run_value m x.1 x.2 hx.1 hx.2.1 hx.2.2
  have h2 : ∀ m, callN E0 (m + 260) 41 [.d tr, .d (wp y)] [] = some (da (wp y)) := fun m => run_value m y.1 y.2 hy.1 hy.2.1 hy.2.2
  have h3 : ∀ m, callN E0 (m + 80) 125 [.d (wp x), .d (wp y)] [] = some (da (wp (Pl x y))) := fun m => run_125 m x y
  have hk : ∀ m, callN E0 (m + 40) 42 [.d (.v (.int .i64 2))] [] = some (kindV, some kindB) := fun m => call_mono cl_kind (by omega)
  have hv : ∀ m, callN E0 (m + 40) 31 [.d tr] [] = some (bo true) := fun m => call_mono cl_valid (by omega)
  unfold wp wt tr at *
  unfold kindV kindB at hk
  simp -implicitDefEqProofs [exec_skip, exec_ret, exec_exit, exec_kill, exec_seq, exec_cond, exec_block, exec_region, runOps, guardV, runK, argV, argsV, doCall, callPure, D.cells, FV.cells, FV.one, D.one, oneV, St.push, St.heap, St.setHeap, splice, partF, partD, b_add, b_sub, b_mul, b_quo, b_rem, b_or, b_and, b_xor, b_shl, b_shr, b_eql, b_neq, b_lss, b_leq, b_gtr, b_geq, unV, setVars, killVars, apartOk, finish, ressV, resV, leavesL, leaves, leaveL, leave1, allD, mkA, fillF, finish2, isPure, oneOf, freezeAll, FV.rows, FV.rows1, D.norm, D.norm1, scalar, D.isV, FV.shift, FV.shiftL, AObj.shift, pureElem, fillE, elems, f14, bo, da, h1, h2, h3, hk, hv]

theorem run_same (n : Nat) (x : Bool × Int) : callN E0 (n + 100) 12 [.d (wp x), .d (wp x)] [] = some (bo true) := by
  rw [call_fn rfl (show E0.fn 12 = some f12 from rfl) rfl]
  have h39 : ∀ m, callN E0 (m + 60) 39 [.d (.a [.v (.bool false), .s 1 [], .s 1 []]), .d (.a [.v (.bool false), .s 1 [], .s 1 []])] [] = some (bo true) := fun m => call_mono cl_39 (by omega)
  have h40 : ∀ m, callN E0 (m + 60) 40 [.d (.s 6 []), .d (.s 6 [])] [] = some (bo true) := fun m => call_mono cl_40 (by omega)
  unfold wp wt
  simp -implicitDefEqProofs [exec_skip, exec_ret, exec_exit, exec_kill, exec_seq, exec_cond, exec_block, exec_region, runOps, guardV, runK, argV, argsV, doCall, callPure, D.cells, FV.cells, FV.one, D.one, oneV, St.push, St.heap, St.setHeap, splice, partF, partD, b_add, b_sub, b_mul, b_quo, b_rem, b_or, b_and, b_xor, b_shl, b_shr, b_eql, b_neq, b_lss, b_leq, b_gtr, b_geq, unV, setVars, killVars, apartOk, finish, ressV, resV, leavesL, leaves, leaveL, leave1, allD, mkA, fillF, finish2, isPure, oneOf, freezeAll, FV.rows, FV.rows1, D.norm, D.norm1, scalar, D.isV, FV.shift, FV.shiftL, AObj.shift, pureElem, fillE, elems, exec_loop, f12, bo, h39, h40]

theorem T_assoc {x y z : Bool × Int} (hx : ok x) (hy : ok y) (hz : ok z) : T (T x y) z = T x (T y z) := by
  obtain ⟨i, a⟩ := x
  obtain ⟨j, b⟩ := y
  obtain ⟨k, c⟩ := z
  unfold T ok at *
  cases i <;> cases j <;> cases k <;> simp at * <;> (repeat' split) <;> simp_all <;> omega

theorem T_Pl {x y z : Bool × Int} (hx : ok x) (hy : ok y) (hz : ok z) : T x (Pl y z) = Pl (T x y) (T x z) := by
  obtain ⟨i, a⟩ := x
  obtain ⟨j, b⟩ := y
  obtain ⟨k, c⟩ := z
  unfold T Pl ok at *
  cases i <;> cases j <;> cases k <;> simp at * <;> (repeat' split) <;> simp_all <;> omega

theorem Pl_self (x : Bool × Int) : Pl x x = x := by
  unfold Pl; split <;> rfl

end Fi.S
namespace Fi.S
open Go Fi
set_option maxHeartbeats 8000000

theorem tmod_fix11 (v : Int) : (v.tmod 11 < 0 → v.tmod 11 + 11 = v % 11) ∧ (¬ v.tmod 11 < 0 → v.tmod 11 = v % 11) := by
  have ht := @Int.tmod_eq_emod v 11
  by_cases h : 0 ≤ v ∨ (11 : Int) ∣ v
  · rw [if_pos h] at ht
    omega
  · rw [if_neg h] at ht
    have : ((Int.natAbs 11 : Nat) : Int) = 11 := by rfl
    rw [this] at ht
    omega

theorem tmod_fix7 (v : Int) : (v.tmod 7 < 0 → v.tmod 7 + 7 = v % 7) ∧ (¬ v.tmod 7 < 0 → v.tmod 7 = v % 7) := by
  have ht := @Int.tmod_eq_emod v 7
  by_cases h : 0 ≤ v ∨ (7 : Int) ∣ v
  · rw [if_pos h] at ht
    omega
  · rw [if_neg h] at ht
    have : ((Int.natAbs 7 : Nat) : Int) = 7 := by rfl
    rw [this] at ht
    omega

theorem run_Mod11 (n : Nat) (v : Int) : callN E0 (n + 30) 46 [.d (.v (.int .i64 v)), .d (.v (.int .i64 11))] [] = some (da (.v (.int .i64 (v % 11)))) := by
  rw [call_fn rfl (show E0.fn 46 = some f46 from rfl) rfl]
  have ht := tmod_fix11 v
  by_cases h0 : v.tmod 11 < 0
  · have hv : v.tmod 11 + 11 = v % 11 := ht.1 h0
    have hw : IntKind.i64.wrap (v.tmod 11 + 11) = v % 11 := by rw [hv]; exact wrap_small (by omega) (by omega)
    simp -implicitDefEqProofs [exec_skip, exec_ret, exec_exit, exec_kill, exec_seq, exec_cond, exec_block, exec_region, runOps, guardV, runK, argV, argsV, doCall, callPure, D.cells, FV.cells, FV.one, D.one, oneV, St.push, St.heap, St.setHeap, splice, partF, partD, b_add, b_sub, b_mul, b_quo, b_rem, b_or, b_and, b_xor, b_shl, b_shr, b_eql, b_neq, b_lss, b_leq, b_gtr, b_geq, unV, setVars, killVars, apartOk, finish, ressV, resV, leavesL, leaves, leaveL, leave1, allD, mkA, fillF, finish2, isPure, oneOf, freezeAll, FV.rows, FV.rows1, D.norm, D.norm1, scalar, D.isV, FV.shift, FV.shiftL, AObj.shift, pureElem, fillE, elems, f46, da, h0, hw]
  · have hv : v.tmod 11 = v % 11 := ht.2 h0
    simp -implicitDefEqProofs [exec_skip, exec_ret, exec_exit, exec_kill, exec_seq, exec_cond, exec_block, exec_region, runOps, guardV, runK, argV, argsV, doCall, callPure, D.cells, FV.cells, FV.one, D.one, oneV, St.push, St.heap, St.setHeap, splice, partF, partD, b_add, b_sub, b_mul, b_quo, b_rem, b_or, b_and, b_xor, b_shl, b_shr, b_eql, b_neq, b_lss, b_leq, b_gtr, b_geq, unV, setVars, killVars, apartOk, finish, ressV, resV, leavesL, leaves, leaveL, leave1, allD, mkA, fillF, finish2, isPure, oneOf, freezeAll, FV.rows, FV.rows1, D.norm, D.norm1, scalar, D.isV, FV.shift, FV.shiftL, AObj.shift, pureElem, fillE, elems, f46, da, h0]
    exact hv

theorem run_Mod7 (n : Nat) (v : Int) : callN E0 (n + 30) 46 [.d (.v (.int .i64 v)), .d (.v (.int .i64 7))] [] = some (da (.v (.int .i64 (v % 7)))) := by
  rw [call_fn rfl (show E0.fn 46 = some f46 from rfl) rfl]
  have ht := tmod_fix7 v
  by_cases h0 : v.tmod 7 < 0
  · have hv : v.tmod 7 + 7 = v % 7 := ht.1 h0
    have hw : IntKind.i64.wrap (v.tmod 7 + 7) = v % 7 := by rw [hv]; exact wrap_small (by omega) (by omega)
    simp -implicitDefEqProofs [exec_skip, exec_ret, exec_exit, exec_kill, exec_seq, exec_cond, exec_block, exec_region, runOps, guardV, runK, argV, argsV, doCall, callPure, D.cells, FV.cells, FV.one, D.one, oneV, St.push, St.heap, St.setHeap, splice, partF, partD, b_add, b_sub, b_mul, b_quo, b_rem, b_or, b_and, b_xor, b_shl, b_shr, b_eql, b_neq, b_lss, b_leq, b_gtr, b_geq, unV, setVars, killVars, apartOk, finish, ressV, resV, leavesL, leaves, leaveL, leave1, allD, mkA, fillF, finish2, isPure, oneOf, freezeAll, FV.rows, FV.rows1, D.norm, D.norm1, scalar, D.isV, FV.shift, FV.shiftL, AObj.shift, pureElem, fillE, elems, f46, da, h0, hw]
  · have hv : v.tmod 7 = v % 7 := ht.2 h0
    simp -implicitDefEqProofs [exec_skip, exec_ret, exec_exit, exec_kill, exec_seq, exec_cond, exec_block, exec_region, runOps, guardV, runK, argV, argsV, doCall, callPure, D.cells, FV.cells, FV.one, D.one, oneV, St.push, St.heap, St.setHeap, splice, partF, partD, b_add, b_sub, b_mul, b_quo, b_rem, b_or, b_and, b_xor, b_shl, b_shr, b_eql, b_neq, b_lss, b_leq, b_gtr, b_geq, unV, setVars, killVars, apartOk, finish, ressV, resV, leavesL, leaves, leaveL, leave1, allD, mkA, fillF, finish2, isPure, oneOf, freezeAll, FV.rows, FV.rows1, D.norm, D.norm1, scalar, D.isV, FV.shift, FV.shiftL, AObj.shift, pureElem, fillE, elems, f46, da, h0]
    exact hv

/-- A made cost. -/
def mc (v : Int) : Bool × Int := if v % 11 = 10 then (true, 0) else (false, v % 11)
theorem ok_mc (v : Int) : ok (mc v) := by
  unfold mc ok
  split <;> simp <;> omega

theorem cl_rzero : callN E0 80 35 [.d tr] [] = some (da (wt true 0)) := by kernel_rfl

theorem run_made_cost (n : Nat) (v : Int) : callN E0 (n + 120) 16 [.d tr, .d (.v (.int .i64 v))] [] = some (da (wp (mc v))) := by
  rw [call_fn rfl (show E0.fn 16 = some f16 from rfl) rfl]
  have hm := fun m => run_Mod11 m v
  have hz : ∀ m, callN E0 (m + 80) 35 [.d tr] [] = some (da (wt true 0)) := fun m => call_mono cl_rzero (by omega)
  unfold mc
  by_cases h : v % 11 = 10
  · have hb : (v % 11 == 10) = true := by simpa using h
    rw [h] at hm
    unfold tr wt at *
    simp -implicitDefEqProofs [exec_skip, exec_ret, exec_exit, exec_kill, exec_seq, exec_cond, exec_block, exec_region, runOps, guardV, runK, argV, argsV, doCall, callPure, D.cells, FV.cells, FV.one, D.one, oneV, St.push, St.heap, St.setHeap, splice, partF, partD, b_add, b_sub, b_mul, b_quo, b_rem, b_or, b_and, b_xor, b_shl, b_shr, b_eql, b_neq, b_lss, b_leq, b_gtr, b_geq, unV, setVars, killVars, apartOk, finish, ressV, resV, leavesL, leaves, leaveL, leave1, allD, mkA, fillF, finish2, isPure, oneOf, freezeAll, FV.rows, FV.rows1, D.norm, D.norm1, scalar, D.isV, FV.shift, FV.shiftL, AObj.shift, pureElem, fillE, elems, f16, da, wp, wt, hm, hz, h]
  · have hb : (v % 11 == 10) = false := by simpa using h
    unfold tr wt at *
    simp -implicitDefEqProofs [exec_skip, exec_ret, exec_exit, exec_kill, exec_seq, exec_cond, exec_block, exec_region, runOps, guardV, runK, argV, argsV, doCall, callPure, D.cells, FV.cells, FV.one, D.one, oneV, St.push, St.heap, St.setHeap, splice, partF, partD, b_add, b_sub, b_mul, b_quo, b_rem, b_or, b_and, b_xor, b_shl, b_shr, b_eql, b_neq, b_lss, b_leq, b_gtr, b_geq, unV, setVars, killVars, apartOk, finish, ressV, resV, leavesL, leaves, leaveL, leave1, allD, mkA, fillF, finish2, isPure, oneOf, freezeAll, FV.rows, FV.rows1, D.norm, D.norm1, scalar, D.isV, FV.shift, FV.shiftL, AObj.shift, pureElem, fillE, elems, f16, da, wp, wt, hm, hz, h, hb]

end Fi.S
