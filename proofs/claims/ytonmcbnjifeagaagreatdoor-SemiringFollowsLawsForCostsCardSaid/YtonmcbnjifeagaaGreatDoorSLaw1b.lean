/-
  The first law: its body.
-/
import Derived.Test.YtonmcbnjifeagaaGreatDoorSLaw1
set_option linter.unusedVariables false
set_option linter.unusedSimpArgs false
namespace Fi.S
open Go Fi
set_option maxHeartbeats 16000000

def ci (a : Int) : Bool × Int := (false, a)

theorem run_law1 (n1 : Nat) (hA : ∀ k, callN E0 (n1 + k) 11 [] [] = some (bo true)) (a b c : Int) :
    callN E0 (n1 + 400) 3 [.d (.v (.int .i64 a)), .d (.v (.int .i64 b)), .d (.v (.int .i64 c))] [] = some (bo true) := by
  rw [call_fn rfl (show E0.fn 3 = some f3 from rfl) rfl]
  by_cases a0 : a < 0
  · simp -implicitDefEqProofs [exec_skip, exec_ret, exec_exit, exec_kill, exec_seq, exec_cond, exec_block, exec_region, runOps, guardV, runK, argV, argsV, doCall, callPure, D.cells, FV.cells, FV.one, D.one, oneV, St.push, St.heap, St.setHeap, splice, partF, partD, binV, unV, setVars, killVars, apartOk, finish, ressV, resV, leavesL, leaves, leaveL, leave1, allD, mkA, fillF, finish2, isPure, oneOf, freezeAll, FV.rows, FV.rows1, D.norm, D.norm1, scalar, D.isV, FV.shift, FV.shiftL, AObj.shift, f3, bo, hA, a0]
  by_cases b0 : b < 0
  · simp -implicitDefEqProofs [exec_skip, exec_ret, exec_exit, exec_kill, exec_seq, exec_cond, exec_block, exec_region, runOps, guardV, runK, argV, argsV, doCall, callPure, D.cells, FV.cells, FV.one, D.one, oneV, St.push, St.heap, St.setHeap, splice, partF, partD, binV, unV, setVars, killVars, apartOk, finish, ressV, resV, leavesL, leaves, leaveL, leave1, allD, mkA, fillF, finish2, isPure, oneOf, freezeAll, FV.rows, FV.rows1, D.norm, D.norm1, scalar, D.isV, FV.shift, FV.shiftL, AObj.shift, f3, bo, hA, a0, b0]
  by_cases c0 : c < 0
  · simp -implicitDefEqProofs [exec_skip, exec_ret, exec_exit, exec_kill, exec_seq, exec_cond, exec_block, exec_region, runOps, guardV, runK, argV, argsV, doCall, callPure, D.cells, FV.cells, FV.one, D.one, oneV, St.push, St.heap, St.setHeap, splice, partF, partD, binV, unV, setVars, killVars, apartOk, finish, ressV, resV, leavesL, leaves, leaveL, leave1, allD, mkA, fillF, finish2, isPure, oneOf, freezeAll, FV.rows, FV.rows1, D.norm, D.norm1, scalar, D.isV, FV.shift, FV.shiftL, AObj.shift, f3, bo, hA, a0, b0, c0]
  by_cases a1 : 1099511627776 < a
  · simp -implicitDefEqProofs [exec_skip, exec_ret, exec_exit, exec_kill, exec_seq, exec_cond, exec_block, exec_region, runOps, guardV, runK, argV, argsV, doCall, callPure, D.cells, FV.cells, FV.one, D.one, oneV, St.push, St.heap, St.setHeap, splice, partF, partD, binV, unV, setVars, killVars, apartOk, finish, ressV, resV, leavesL, leaves, leaveL, leave1, allD, mkA, fillF, finish2, isPure, oneOf, freezeAll, FV.rows, FV.rows1, D.norm, D.norm1, scalar, D.isV, FV.shift, FV.shiftL, AObj.shift, f3, bo, hA, a0, b0, c0, a1]
  by_cases b1 : 1099511627776 < b
  · simp -implicitDefEqProofs [exec_skip, exec_ret, exec_exit, exec_kill, exec_seq, exec_cond, exec_block, exec_region, runOps, guardV, runK, argV, argsV, doCall, callPure, D.cells, FV.cells, FV.one, D.one, oneV, St.push, St.heap, St.setHeap, splice, partF, partD, binV, unV, setVars, killVars, apartOk, finish, ressV, resV, leavesL, leaves, leaveL, leave1, allD, mkA, fillF, finish2, isPure, oneOf, freezeAll, FV.rows, FV.rows1, D.norm, D.norm1, scalar, D.isV, FV.shift, FV.shiftL, AObj.shift, f3, bo, hA, a0, b0, c0, a1, b1]
  by_cases c1 : 1099511627776 < c
  · simp -implicitDefEqProofs [exec_skip, exec_ret, exec_exit, exec_kill, exec_seq, exec_cond, exec_block, exec_region, runOps, guardV, runK, argV, argsV, doCall, callPure, D.cells, FV.cells, FV.one, D.one, oneV, St.push, St.heap, St.setHeap, splice, partF, partD, binV, unV, setVars, killVars, apartOk, finish, ressV, resV, leavesL, leaves, leaveL, leave1, allD, mkA, fillF, finish2, isPure, oneOf, freezeAll, FV.rows, FV.rows1, D.norm, D.norm1, scalar, D.isV, FV.shift, FV.shiftL, AObj.shift, f3, bo, hA, a0, b0, c0, a1, b1, c1]
  have hu : ok (ci a) := ⟨by simp [ci]; omega, by simp [ci]; omega, by simp [ci]⟩
  have hv : ok (ci b) := ⟨by simp [ci]; omega, by simp [ci]; omega, by simp [ci]⟩
  have hw : ok (ci c) := ⟨by simp [ci]; omega, by simp [ci]; omega, by simp [ci]⟩
  have t1 := fun m => run_Times m (ci a) (ci b) hu hv
  have t2 := fun m => run_Times m (T (ci a) (ci b)) (ci c) (ok_T hu hv) hw
  have t3 := fun m => run_Times m (ci b) (ci c) hv hw
  have t4 := fun m => run_Times m (ci a) (T (ci b) (ci c)) hu (ok_T hv hw)
  have t5 := fun m => run_Plus m (ci b) (ci c) hv hw
  have t6 := fun m => run_Times m (ci a) (Pl (ci b) (ci c)) hu (ok_Pl hv hw)
  have t7 := fun m => run_Times m (ci a) (ci c) hu hw
  have t8 := fun m => run_Plus m (T (ci a) (ci b)) (T (ci a) (ci c)) (ok_T hu hv) (ok_T hu hw)
  have t9 := fun m => run_Plus m (ci a) (ci a) hu hu
  have s1 := fun m => run_same m (T (ci a) (T (ci b) (ci c)))
  have s2 := fun m => run_same m (Pl (T (ci a) (ci b)) (T (ci a) (ci c)))
  have s3 := fun m => run_same m (ci a)
  rw [T_assoc hu hv hw] at t2
  rw [T_Pl hu hv hw] at t6
  rw [Pl_self] at t9
  generalize T (ci a) (T (ci b) (ci c)) = p1 at *
  generalize T (ci b) (ci c) = p2 at *
  generalize Pl (T (ci a) (ci b)) (T (ci a) (ci c)) = p3 at *
  generalize T (ci a) (ci b) = p4 at *
  generalize T (ci a) (ci c) = p5 at *
  generalize Pl (ci b) (ci c) = p6 at *
  clear hu hv hw
  simp only [wp, wt, tr, ci] at t1 t2 t3 t4 t5 t6 t7 t8 t9 s1 s2 s3
  simp -implicitDefEqProofs [exec_skip, exec_ret, exec_exit, exec_kill, exec_seq, exec_cond, exec_block, exec_region, runOps, guardV, runK, argV, argsV, doCall, callPure, D.cells, FV.cells, FV.one, D.one, oneV, St.push, St.heap, St.setHeap, splice, partF, partD, binV, unV, setVars, killVars, apartOk, finish, ressV, resV, leavesL, leaves, leaveL, leave1, allD, mkA, fillF, finish2, isPure, oneOf, freezeAll, FV.rows, FV.rows1, D.norm, D.norm1, scalar, D.isV, FV.shift, FV.shiftL, AObj.shift, f3, bo, da, hA, a0, b0, c0, a1, b1, c1, t1, t2, t3, t4, t5, t6, t7, t8, t9, s1, s2, s3]
end Fi.S
