/- Semirings of fractions. -/
import Derived.Test.YtonmcbnjifeagaaGreatDoorRRat
import Derived.Test.YtonmcbnjifeagaaGreatDoorSLawA
set_option linter.unusedVariables false
set_option linter.unusedSimpArgs false
namespace Fi.S
open Go Fi
set_option maxHeartbeats 8000000

abbrev nSlEq : Nat := 101
abbrev fSlEq : FFunc := f101
abbrev nSameRat : Nat := 72
abbrev fSameRat : FFunc := f72

def seB : FStmt := fSlEq.body.r.r.l.r.bl.lp
def seS (a b : List Nat) (k : Nat) (t : FV) : St := { vars := [.d (LD a), .d (LD b), .u, .u, .u, .d (.v (.int .i64 a.length)), .d (.v (.int .i64 k)), t, .u], base := [], loc := [], dirty := false }
def seF : St := { vars := [.u, .u, .d (.v (.bool false)), .u, .u, .u, .u, .u, .u], base := [], loc := [], dirty := false }

theorem sleq_round (a b : List Nat) (k x y : Nat) (la : a.length ≤ 1000000000) (hx : a[k]? = some x) (hy : b[k]? = some y) :
    EX E0 60 seB (seS a b k .u) = if x = y then some (.norm, seS a b (k + 1) .u) else some (.ret, seF) := by
  have hk := (List.getElem?_eq_some_iff.1 hx).1
  have hx' : (LL a)[k]? = some (.v (.int .u32 (x : Int))) := by simp [LL, hx]
  have hy' : (LL b)[k]? = some (.v (.int .u32 (y : Int))) := by simp [LL, hy]
  have hx2 := idx hx'
  have hy2 := idx hy'
  have hinc : wrapS .i64 ((k : Int) + 1) = (k : Int) + 1 := wrap_i64 (by omega)
  have hk1 : ((k + 1 : Nat) : Int) = (k : Int) + 1 := by omega
  have hk0 : (0 : Int) ≤ (k : Int) := by omega
  unfold seS seF
  rw [hk1]
  simp only [LD]
  generalize LL a = as' at *
  generalize LL b = bs' at *
  by_cases h : x = y
  · subst h
    simp -implicitDefEqProofs [EX_skip, EX_ret, EX_exit, EX_kill, EX_seq, EX_cond, EX_block, EX_region, ROps_nil, ROps_cons, RK_mov, RK_pick, RK_bin, RK_conv, RK_beq, RK_aeq, RK_nileq, RK_un, RK_box, RK_new, RK_load, RK_store, RK_faddr, RK_field, RK_iaddr, RK_aaddr, RK_index, RK_build, RK_lit, RK_len, RK_maxi, RK_mini, RK_app, RK_slice, RK_mk, RK_ext, RK_clo, RK_call, RK_callv, guardV, runK, argV, argsV, doCall, callPure, D.cells, FV.cells, FV.one, D.one, oneV, St.push, St.heap, St.setHeap, splice, partF, partD, s_add, s_sub, s_mul, s_quo, s_rem, s_or, s_and, s_xor, s_shl, s_shr, s_eql, s_neq, s_lss, s_leq, s_gtr, s_geq, unV, setVars, killVars, apartOk, finish, ressV, resV, leavesL, leaves, leaveL, leave1, allD, mkA, fillF, finish2, isPure, oneOf, freezeAll, FV.rows, FV.rows1, D.norm, D.norm1, scalar, D.isV, FV.shift, FV.shiftL, AObj.shift, pureElem, fillE, elems, FStmt.l, FStmt.r, FStmt.bl, FStmt.lp, seB, f101, hk, hk0, hx', hx2, hy', hy2, hinc]
  · have hne : ((x : Int) != (y : Int)) = true := by simp; omega
    rw [if_neg h]
    simp -implicitDefEqProofs [EX_skip, EX_ret, EX_exit, EX_kill, EX_seq, EX_cond, EX_block, EX_region, ROps_nil, ROps_cons, RK_mov, RK_pick, RK_bin, RK_conv, RK_beq, RK_aeq, RK_nileq, RK_un, RK_box, RK_new, RK_load, RK_store, RK_faddr, RK_field, RK_iaddr, RK_aaddr, RK_index, RK_build, RK_lit, RK_len, RK_maxi, RK_mini, RK_app, RK_slice, RK_mk, RK_ext, RK_clo, RK_call, RK_callv, guardV, runK, argV, argsV, doCall, callPure, D.cells, FV.cells, FV.one, D.one, oneV, St.push, St.heap, St.setHeap, splice, partF, partD, s_add, s_sub, s_mul, s_quo, s_rem, s_or, s_and, s_xor, s_shl, s_shr, s_eql, s_neq, s_lss, s_leq, s_gtr, s_geq, unV, setVars, killVars, apartOk, finish, ressV, resV, leavesL, leaves, leaveL, leave1, allD, mkA, fillF, finish2, isPure, oneOf, freezeAll, FV.rows, FV.rows1, D.norm, D.norm1, scalar, D.isV, FV.shift, FV.shiftL, AObj.shift, pureElem, fillE, elems, FStmt.l, FStmt.r, FStmt.bl, FStmt.lp, seB, f101, hk, hk0, hx', hx2, hy', hy2, hne]

theorem sleq_loop (a b : List Nat) (la : a.length ≤ 1000000000) (hl : a.length = b.length) :
    ∃ r, Ex E0 (.loop seB) (seS a b 0 .u) r ∧ ((a = b ∧ r = (.exit 0, seS a b a.length (.d (.v (.bool false))))) ∨ (a ≠ b ∧ r = (.ret, seF))) := by
  refine Ex.inv (S := fun k : Nat => seS a b k .u) (fun k => a.length - k) (fun k => k ≤ a.length ∧ a.take k = b.take k) _ ?_ 0 ⟨by omega, by simp⟩
  rintro k ⟨h1, h2⟩
  by_cases hk : k < a.length
  · have hx : a[k]? = some (a[k]'hk) := List.getElem?_eq_getElem hk
    have hy : b[k]? = some (b[k]'(by omega)) := List.getElem?_eq_getElem (by omega)
    have hr := sleq_round a b k _ _ la hx hy
    by_cases h : a[k]'hk = b[k]'(by omega)
    · rw [if_pos h] at hr
      refine .inl ⟨k + 1, Ex.of hr, by omega, by omega, ?_⟩
      rw [List.take_succ_eq_append_getElem hk, List.take_succ_eq_append_getElem (by omega), h2, h]
    · rw [if_neg h] at hr
      refine .inr ⟨_, Ex.of hr, by simp, .inr ⟨?_, rfl⟩⟩
      intro he
      subst he
      exact h rfl
  · have he : k = a.length := by omega
    subst he
    rw [List.take_length, hl, List.take_length] at h2
    refine .inr ⟨_, Ex.of (n := 60) ?_, ?_, .inl ⟨h2, rfl⟩⟩
    · unfold seS; simp -implicitDefEqProofs [EX_skip, EX_ret, EX_exit, EX_kill, EX_seq, EX_cond, EX_block, EX_region, ROps_nil, ROps_cons, RK_mov, RK_pick, RK_bin, RK_conv, RK_beq, RK_aeq, RK_nileq, RK_un, RK_box, RK_new, RK_load, RK_store, RK_faddr, RK_field, RK_iaddr, RK_aaddr, RK_index, RK_build, RK_lit, RK_len, RK_maxi, RK_mini, RK_app, RK_slice, RK_mk, RK_ext, RK_clo, RK_call, RK_callv, guardV, runK, argV, argsV, doCall, callPure, D.cells, FV.cells, FV.one, D.one, oneV, St.push, St.heap, St.setHeap, splice, partF, partD, s_add, s_sub, s_mul, s_quo, s_rem, s_or, s_and, s_xor, s_shl, s_shr, s_eql, s_neq, s_lss, s_leq, s_gtr, s_geq, unV, setVars, killVars, apartOk, finish, ressV, resV, leavesL, leaves, leaveL, leave1, allD, mkA, fillF, finish2, isPure, oneOf, freezeAll, FV.rows, FV.rows1, D.norm, D.norm1, scalar, D.isV, FV.shift, FV.shiftL, AObj.shift, pureElem, fillE, elems, FStmt.l, FStmt.r, FStmt.bl, FStmt.lp, seB, f101]
    · simp

theorem ca_sleq (a b : List Nat) (la : a.length ≤ 1000000000) (lb : b.length ≤ 1000000000) : Ca E0 nSlEq [.d (LD a), .d (LD b)] (.d (.v (.bool (decide (a = b)))), none) := by
  have hla : (LL a).length = a.length := by simp [LL]
  have hlb : (LL b).length = b.length := by simp [LL]
  by_cases hl : a.length = b.length
  · obtain ⟨r, hr, h⟩ := sleq_loop a b la hl
    have hlb' : (LL b).length = a.length := by omega
    have pre1 : Ex E0 fSlEq.body.l { vars := [.d (LD a), .d (LD b), .u, .u, .u, .u, .u, .u, .u], base := [], loc := [], dirty := false } (.norm, { vars := [.d (LD a), .d (LD b), .u, .u, .u, .u, .u, .u, .u], base := [], loc := [], dirty := false }) := by
      refine Ex.of (n := 40) ?_
      simp -implicitDefEqProofs [EX_skip, EX_ret, EX_exit, EX_kill, EX_seq, EX_cond, EX_block, EX_region, ROps_nil, ROps_cons, RK_mov, RK_pick, RK_bin, RK_conv, RK_beq, RK_aeq, RK_nileq, RK_un, RK_box, RK_new, RK_load, RK_store, RK_faddr, RK_field, RK_iaddr, RK_aaddr, RK_index, RK_build, RK_lit, RK_len, RK_maxi, RK_mini, RK_app, RK_slice, RK_mk, RK_ext, RK_clo, RK_call, RK_callv, guardV, runK, argV, argsV, doCall, callPure, D.cells, FV.cells, FV.one, D.one, oneV, St.push, St.heap, St.setHeap, splice, partF, partD, s_add, s_sub, s_mul, s_quo, s_rem, s_or, s_and, s_xor, s_shl, s_shr, s_eql, s_neq, s_lss, s_leq, s_gtr, s_geq, unV, setVars, killVars, apartOk, finish, ressV, resV, leavesL, leaves, leaveL, leave1, allD, mkA, fillF, finish2, isPure, oneOf, freezeAll, FV.rows, FV.rows1, D.norm, D.norm1, scalar, D.isV, FV.shift, FV.shiftL, AObj.shift, pureElem, fillE, elems, FStmt.l, FStmt.r, FStmt.bl, FStmt.lp, f101]
    have pre2 : Ex E0 fSlEq.body.r.l { vars := [.d (LD a), .d (LD b), .u, .u, .u, .u, .u, .u, .u], base := [], loc := [], dirty := false } (.norm, { vars := [.d (LD a), .d (LD b), .u, .u, .d (.v (.bool false)), .u, .u, .u, .u], base := [], loc := [], dirty := false }) := by
      refine Ex.of (n := 40) ?_
      simp -implicitDefEqProofs [EX_skip, EX_ret, EX_exit, EX_kill, EX_seq, EX_cond, EX_block, EX_region, ROps_nil, ROps_cons, RK_mov, RK_pick, RK_bin, RK_conv, RK_beq, RK_aeq, RK_nileq, RK_un, RK_box, RK_new, RK_load, RK_store, RK_faddr, RK_field, RK_iaddr, RK_aaddr, RK_index, RK_build, RK_lit, RK_len, RK_maxi, RK_mini, RK_app, RK_slice, RK_mk, RK_ext, RK_clo, RK_call, RK_callv, guardV, runK, argV, argsV, doCall, callPure, D.cells, FV.cells, FV.one, D.one, oneV, St.push, St.heap, St.setHeap, splice, partF, partD, s_add, s_sub, s_mul, s_quo, s_rem, s_or, s_and, s_xor, s_shl, s_shr, s_eql, s_neq, s_lss, s_leq, s_gtr, s_geq, unV, setVars, killVars, apartOk, finish, ressV, resV, leavesL, leaves, leaveL, leave1, allD, mkA, fillF, finish2, isPure, oneOf, freezeAll, FV.rows, FV.rows1, D.norm, D.norm1, scalar, D.isV, FV.shift, FV.shiftL, AObj.shift, pureElem, fillE, elems, FStmt.l, FStmt.r, FStmt.bl, FStmt.lp, f101, LD, hla, hlb']
    have pre3 : Ex E0 fSlEq.body.r.r.l.l { vars := [.d (LD a), .d (LD b), .u, .u, .d (.v (.bool false)), .u, .u, .u, .u], base := [], loc := [], dirty := false } (.norm, seS a b 0 .u) := by
      refine Ex.of (n := 40) ?_
      unfold seS
      simp -implicitDefEqProofs [EX_skip, EX_ret, EX_exit, EX_kill, EX_seq, EX_cond, EX_block, EX_region, ROps_nil, ROps_cons, RK_mov, RK_pick, RK_bin, RK_conv, RK_beq, RK_aeq, RK_nileq, RK_un, RK_box, RK_new, RK_load, RK_store, RK_faddr, RK_field, RK_iaddr, RK_aaddr, RK_index, RK_build, RK_lit, RK_len, RK_maxi, RK_mini, RK_app, RK_slice, RK_mk, RK_ext, RK_clo, RK_call, RK_callv, guardV, runK, argV, argsV, doCall, callPure, D.cells, FV.cells, FV.one, D.one, oneV, St.push, St.heap, St.setHeap, splice, partF, partD, s_add, s_sub, s_mul, s_quo, s_rem, s_or, s_and, s_xor, s_shl, s_shr, s_eql, s_neq, s_lss, s_leq, s_gtr, s_geq, unV, setVars, killVars, apartOk, finish, ressV, resV, leavesL, leaves, leaveL, leave1, allD, mkA, fillF, finish2, isPure, oneOf, freezeAll, FV.rows, FV.rows1, D.norm, D.norm1, scalar, D.isV, FV.shift, FV.shiftL, AObj.shift, pureElem, fillE, elems, FStmt.l, FStmt.r, FStmt.bl, FStmt.lp, f101, LD, hla]
    rcases h with ⟨he, rfl⟩ | ⟨he, rfl⟩
    · have hd : decide (a = b) = true := by simpa using he
      rw [hd]
      refine Ca.body (o := .ret) (st1 := { vars := [.u, .u, .d (.v (.bool true)), .u, .u, .u, .u, .u, .u], base := [], loc := [], dirty := false }) rfl (show E0.fn nSlEq = some fSlEq from rfl) rfl ?_ (by intro id h; cases h) ?_
      · show Ex E0 (.seq fSlEq.body.l (.seq fSlEq.body.r.l (.seq (.seq fSlEq.body.r.r.l.l (.block 0 (.loop seB))) fSlEq.body.r.r.r))) _ _
        refine pre1.seq (pre2.seq ((pre3.seq hr.block).seq (Ex.of (n := 40) ?_)))
        unfold seS
        simp -implicitDefEqProofs [EX_skip, EX_ret, EX_exit, EX_kill, EX_seq, EX_cond, EX_block, EX_region, ROps_nil, ROps_cons, RK_mov, RK_pick, RK_bin, RK_conv, RK_beq, RK_aeq, RK_nileq, RK_un, RK_box, RK_new, RK_load, RK_store, RK_faddr, RK_field, RK_iaddr, RK_aaddr, RK_index, RK_build, RK_lit, RK_len, RK_maxi, RK_mini, RK_app, RK_slice, RK_mk, RK_ext, RK_clo, RK_call, RK_callv, guardV, runK, argV, argsV, doCall, callPure, D.cells, FV.cells, FV.one, D.one, oneV, St.push, St.heap, St.setHeap, splice, partF, partD, s_add, s_sub, s_mul, s_quo, s_rem, s_or, s_and, s_xor, s_shl, s_shr, s_eql, s_neq, s_lss, s_leq, s_gtr, s_geq, unV, setVars, killVars, apartOk, finish, ressV, resV, leavesL, leaves, leaveL, leave1, allD, mkA, fillF, finish2, isPure, oneOf, freezeAll, FV.rows, FV.rows1, D.norm, D.norm1, scalar, D.isV, FV.shift, FV.shiftL, AObj.shift, pureElem, fillE, elems, FStmt.l, FStmt.r, FStmt.bl, FStmt.lp, f101]
      · simp -implicitDefEqProofs [EX_skip, EX_ret, EX_exit, EX_kill, EX_seq, EX_cond, EX_block, EX_region, ROps_nil, ROps_cons, RK_mov, RK_pick, RK_bin, RK_conv, RK_beq, RK_aeq, RK_nileq, RK_un, RK_box, RK_new, RK_load, RK_store, RK_faddr, RK_field, RK_iaddr, RK_aaddr, RK_index, RK_build, RK_lit, RK_len, RK_maxi, RK_mini, RK_app, RK_slice, RK_mk, RK_ext, RK_clo, RK_call, RK_callv, guardV, runK, argV, argsV, doCall, callPure, D.cells, FV.cells, FV.one, D.one, oneV, St.push, St.heap, St.setHeap, splice, partF, partD, s_add, s_sub, s_mul, s_quo, s_rem, s_or, s_and, s_xor, s_shl, s_shr, s_eql, s_neq, s_lss, s_leq, s_gtr, s_geq, unV, setVars, killVars, apartOk, finish, ressV, resV, leavesL, leaves, leaveL, leave1, allD, mkA, fillF, finish2, isPure, oneOf, freezeAll, FV.rows, FV.rows1, D.norm, D.norm1, scalar, D.isV, FV.shift, FV.shiftL, AObj.shift, pureElem, fillE, elems, FStmt.l, FStmt.r, FStmt.bl, FStmt.lp, f101]
    · have hd : decide (a = b) = false := by simpa using he
      rw [hd]
      refine Ca.body (o := .ret) (st1 := seF) rfl (show E0.fn nSlEq = some fSlEq from rfl) rfl ?_ (by intro id h; cases h) ?_
      · show Ex E0 (.seq fSlEq.body.l (.seq fSlEq.body.r.l (.seq (.seq fSlEq.body.r.r.l.l (.block 0 (.loop seB))) fSlEq.body.r.r.r))) _ _
        exact pre1.seq (pre2.seq (Ex.seq_ret (pre3.seq hr.block_ret)))
      · simp -implicitDefEqProofs [EX_skip, EX_ret, EX_exit, EX_kill, EX_seq, EX_cond, EX_block, EX_region, ROps_nil, ROps_cons, RK_mov, RK_pick, RK_bin, RK_conv, RK_beq, RK_aeq, RK_nileq, RK_un, RK_box, RK_new, RK_load, RK_store, RK_faddr, RK_field, RK_iaddr, RK_aaddr, RK_index, RK_build, RK_lit, RK_len, RK_maxi, RK_mini, RK_app, RK_slice, RK_mk, RK_ext, RK_clo, RK_call, RK_callv, guardV, runK, argV, argsV, doCall, callPure, D.cells, FV.cells, FV.one, D.one, oneV, St.push, St.heap, St.setHeap, splice, partF, partD, s_add, s_sub, s_mul, s_quo, s_rem, s_or, s_and, s_xor, s_shl, s_shr, s_eql, s_neq, s_lss, s_leq, s_gtr, s_geq, unV, setVars, killVars, apartOk, finish, ressV, resV, leavesL, leaves, leaveL, leave1, allD, mkA, fillF, finish2, isPure, oneOf, freezeAll, FV.rows, FV.rows1, D.norm, D.norm1, scalar, D.isV, FV.shift, FV.shiftL, AObj.shift, pureElem, fillE, elems, FStmt.l, FStmt.r, FStmt.bl, FStmt.lp, f101, seF]
  · have hd : decide (a = b) = false := by
      simp only [decide_eq_false_iff_not]
      intro he; subst he; exact hl rfl
    have hne : ((a.length : Int) != (b.length : Int)) = true := by simp; omega
    rw [hd]
    refine Ca.ofS (n := 60) ?_
    rw [CL_fn rfl (show E0.fn nSlEq = some fSlEq from rfl) rfl]
    simp only [LD]
    generalize LL a = as' at *
    generalize LL b = bs' at *
    simp -implicitDefEqProofs [EX_skip, EX_ret, EX_exit, EX_kill, EX_seq, EX_cond, EX_block, EX_region, ROps_nil, ROps_cons, RK_mov, RK_pick, RK_bin, RK_conv, RK_beq, RK_aeq, RK_nileq, RK_un, RK_box, RK_new, RK_load, RK_store, RK_faddr, RK_field, RK_iaddr, RK_aaddr, RK_index, RK_build, RK_lit, RK_len, RK_maxi, RK_mini, RK_app, RK_slice, RK_mk, RK_ext, RK_clo, RK_call, RK_callv, guardV, runK, argV, argsV, doCall, callPure, D.cells, FV.cells, FV.one, D.one, oneV, St.push, St.heap, St.setHeap, splice, partF, partD, s_add, s_sub, s_mul, s_quo, s_rem, s_or, s_and, s_xor, s_shl, s_shr, s_eql, s_neq, s_lss, s_leq, s_gtr, s_geq, unV, setVars, killVars, apartOk, finish, ressV, resV, leavesL, leaves, leaveL, leave1, allD, mkA, fillF, finish2, isPure, oneOf, freezeAll, FV.rows, FV.rows1, D.norm, D.norm1, scalar, D.isV, FV.shift, FV.shiftL, AObj.shift, pureElem, fillE, elems, FStmt.l, FStmt.r, FStmt.bl, FStmt.lp, f101, hla, hlb, hne]

theorem ca_sameRat (s1 s2 : Bool) (a1 b1 a2 b2 : List Nat) (h1 : a1.length ≤ 1000000000) (h2 : b1.length ≤ 1000000000) (h3 : a2.length ≤ 1000000000) (h4 : b2.length ≤ 1000000000) :
    Ca E0 nSameRat [.d (.a [.v (.bool s1), LD a1, LD b1]), .d (.a [.v (.bool s2), LD a2, LD b2])] (.d (.v (.bool (s1 == s2 && decide (a1 = a2) && decide (b1 = b2)))), none) := by
  obtain ⟨k1, t1⟩ := (ca_sleq a1 a2 h1 h3).any
  obtain ⟨k2, t2⟩ := (ca_sleq b1 b2 h2 h4).any
  replace t1 := t1 (k1 + k2) (by omega)
  replace t2 := t2 (k1 + k2) (by omega)
  generalize k1 + k2 = N at *
  refine Ca.ofS (n := N + 60) ?_
  rw [CL_fn rfl (show E0.fn nSameRat = some fSameRat from rfl) rfl]
  generalize decide (a1 = a2) = p at *
  generalize decide (b1 = b2) = q at *
  simp only [LD] at *
  generalize LL a1 = x1 at *
  generalize LL a2 = x2 at *
  generalize LL b1 = y1 at *
  generalize LL b2 = y2 at *
  cases s1 <;> cases s2 <;> cases p <;> simp -implicitDefEqProofs [EX_skip, EX_ret, EX_exit, EX_kill, EX_seq, EX_cond, EX_block, EX_region, ROps_nil, ROps_cons, RK_mov, RK_pick, RK_bin, RK_conv, RK_beq, RK_aeq, RK_nileq, RK_un, RK_box, RK_new, RK_load, RK_store, RK_faddr, RK_field, RK_iaddr, RK_aaddr, RK_index, RK_build, RK_lit, RK_len, RK_maxi, RK_mini, RK_app, RK_slice, RK_mk, RK_ext, RK_clo, RK_call, RK_callv, guardV, runK, argV, argsV, doCall, callPure, D.cells, FV.cells, FV.one, D.one, oneV, St.push, St.heap, St.setHeap, splice, partF, partD, s_add, s_sub, s_mul, s_quo, s_rem, s_or, s_and, s_xor, s_shl, s_shr, s_eql, s_neq, s_lss, s_leq, s_gtr, s_geq, unV, setVars, killVars, apartOk, finish, ressV, resV, leavesL, leaves, leaveL, leave1, allD, mkA, fillF, finish2, isPure, oneOf, freezeAll, FV.rows, FV.rows1, D.norm, D.norm1, scalar, D.isV, FV.shift, FV.shiftL, AObj.shift, pureElem, fillE, elems, FStmt.l, FStmt.r, FStmt.bl, FStmt.lp, f72, t1, t2]
end Fi.S
namespace Fi.S
open Go Fi
set_option maxHeartbeats 8000000
set_option maxRecDepth 100000

/-- A weight with a number. -/
def wv (s : Bool) (n d : Nat) : D := .a [.v (.bool s), LD (enc n), LD (if d = 1 then [] else enc d), .v (.int .i64 0), .v (.bool false), .v (.int .u64 0), .s 6 [], .s 8 []]
def vr : D := .a [.v (.int .i64 3), .s 1 []]

theorem CL_of {n g : Nat} {args : List FV} {r : FV × Option (List AObj)} (h : callN E0 n g args [] = some r) : ∀ m, n ≤ m → CL E0 m g args [] = some r := fun m hm => by
  rw [CL_eq]; exact call_mono h hm

theorem den_len {d : Nat} (h : d < 4294967296) : (if d = 1 then [] else enc d).length ≤ 1 := by
  split
  · simp
  · exact enc_len1 h

theorem ca_equal {s : Bool} {n d : Nat} (hn : n < 4294967296) (hd : d < 4294967296) : Ca E0 34 [.d (wv s n d), .d (wv s n d)] (.d (.v (.bool true)), none) := by
  obtain ⟨N, t⟩ := (ca_sameRat s s (enc n) (if d = 1 then [] else enc d) (enc n) (if d = 1 then [] else enc d) (by have := enc_len1 hn; omega) (by have := den_len hd; omega) (by have := enc_len1 hn; omega) (by have := den_len hd; omega)).get
  have h73 := fun m => CL_of cl_eq73 (N + 40 + m) (by omega)
  have h74 := fun m => CL_of cl_eq74 (N + 40 + m) (by omega)
  have e : (s == s && decide (enc n = enc n) && decide ((if d = 1 then [] else enc d) = (if d = 1 then [] else enc d))) = true := by simp
  rw [e] at t
  replace t := fun m => t (40 + m)
  simp only [← Nat.add_assoc] at t
  generalize N + 40 = M at *
  refine Ca.ofS (n := M + 60) ?_
  rw [CL_fn rfl (show E0.fn 34 = some f34 from rfl) rfl]
  simp only [wv, LD, bo] at *
  generalize LL (enc n) = x1 at *
  generalize LL (if d = 1 then [] else enc d) = x2 at *
  simp -implicitDefEqProofs [EX_skip, EX_ret, EX_exit, EX_kill, EX_seq, EX_cond, EX_block, EX_region, ROps_nil, ROps_cons, RK_mov, RK_pick, RK_bin, RK_conv, RK_beq, RK_aeq, RK_nileq, RK_un, RK_box, RK_new, RK_load, RK_store, RK_faddr, RK_field, RK_iaddr, RK_aaddr, RK_index, RK_build, RK_lit, RK_len, RK_maxi, RK_mini, RK_app, RK_slice, RK_mk, RK_ext, RK_clo, RK_call, RK_callv, guardV, runK, argV, argsV, doCall, callPure, D.cells, FV.cells, FV.one, D.one, oneV, St.push, St.heap, St.setHeap, splice, partF, partD, s_add, s_sub, s_mul, s_quo, s_rem, s_or, s_and, s_xor, s_shl, s_shr, s_eql, s_neq, s_lss, s_leq, s_gtr, s_geq, unV, setVars, killVars, apartOk, finish, ressV, resV, leavesL, leaves, leaveL, leave1, allD, mkA, fillF, finish2, isPure, oneOf, freezeAll, FV.rows, FV.rows1, D.norm, D.norm1, scalar, D.isV, FV.shift, FV.shiftL, AObj.shift, pureElem, fillE, elems, FStmt.l, FStmt.r, FStmt.bl, FStmt.lp, f34, t, h73, h74]

theorem ca_check1 {s : Bool} {n d : Nat} (o : okQ s n d) : Ca E0 108 [.d (wv s n d)] (.d (.v (.bool true)), none) := by
  obtain ⟨k1, t1⟩ := (ca_valid o).any
  obtain ⟨k2, t2⟩ := (ca_equal (s := s) o.1 o.2.2.1).any
  replace t1 := t1 (k1 + k2) (by omega)
  replace t2 := t2 (k1 + k2) (by omega)
  generalize k1 + k2 = N at *
  refine Ca.ofS (n := N + 60) ?_
  rw [CL_fn rfl (show E0.fn 108 = some f108 from rfl) rfl]
  simp only [wv, rq, LD] at *
  generalize LL (enc n) = x1 at *
  generalize LL (if d = 1 then [] else enc d) = x2 at *
  simp -implicitDefEqProofs [EX_skip, EX_ret, EX_exit, EX_kill, EX_seq, EX_cond, EX_block, EX_region, ROps_nil, ROps_cons, RK_mov, RK_pick, RK_bin, RK_conv, RK_beq, RK_aeq, RK_nileq, RK_un, RK_box, RK_new, RK_load, RK_store, RK_faddr, RK_field, RK_iaddr, RK_aaddr, RK_index, RK_build, RK_lit, RK_len, RK_maxi, RK_mini, RK_app, RK_slice, RK_mk, RK_ext, RK_clo, RK_call, RK_callv, guardV, runK, argV, argsV, doCall, callPure, D.cells, FV.cells, FV.one, D.one, oneV, St.push, St.heap, St.setHeap, splice, partF, partD, s_add, s_sub, s_mul, s_quo, s_rem, s_or, s_and, s_xor, s_shl, s_shr, s_eql, s_neq, s_lss, s_leq, s_gtr, s_geq, unV, setVars, killVars, apartOk, finish, ressV, resV, leavesL, leaves, leaveL, leave1, allD, mkA, fillF, finish2, isPure, oneOf, freezeAll, FV.rows, FV.rows1, D.norm, D.norm1, scalar, D.isV, FV.shift, FV.shiftL, AObj.shift, pureElem, fillE, elems, FStmt.l, FStmt.r, FStmt.bl, FStmt.lp, f108, t1, t2]

def one8 : D := .a [.v (.bool false), .s 1 [.v (.int .u32 1)], .s 1 [], .v (.int .i64 0), .v (.bool false), .v (.int .u64 0), .s 6 [], .s 8 []]
theorem cl_number : callN E0 200 112 [.d (.v (.int .i64 1))] [] = some (.d one8, none) := of_isDa (by kernel_rfl)
def alg : D := .a [(.fn 108), (.fn 110), (.fn 111), (.fn 113), (.fn 115), (.fn 117), (.fn 118), (.fn 119), (.fn 121)]
theorem cl_alg : callN E0 60 79 [] [] = some (.d alg, none) := of_isDa (by kernel_rfl)
theorem rq_one : rq false 1 1 = .a [.v (.bool false), .s 1 [.v (.int .u32 1)], .s 1 []] := by
  unfold rq; rw [LD_one]; rfl

theorem cmp_one {n d : Nat} (h : n ≤ d) : cmpQ false n d false 1 1 ≤ 0 := by
  unfold cmpQ sumS sumN sgn
  simp only [Bool.not_false, Nat.mul_one, Nat.one_mul]
  have : ¬ (false = true) := by simp
  rw [if_neg this, if_neg this]
  by_cases h1 : d ≤ n
  · rw [if_pos h1, if_pos h1, if_pos (by omega)]; omega
  · rw [if_neg h1, if_neg h1, if_neg (by omega), if_pos rfl]; omega

/-- A small fraction from 0 to 1. -/
def fr (n d : Nat) : Prop := okQ false n d ∧ n ≤ d ∧ d < 32768

theorem ca_check3 {n d : Nat} (f : fr n d) : Ca E0 133 [.d (wv false n d)] (.d (.v (.bool true)), none) := by
  obtain ⟨o, hle, hd⟩ := f
  have ok1 : okQ false 1 1 := ⟨by omega, by omega, by omega, by simp, by omega⟩
  obtain ⟨k1, t1⟩ := (ca_check1 o).any
  obtain ⟨k2, t2⟩ := (ca_sign o).any
  obtain ⟨k3, t3⟩ := (ca_compare o ok1 (by omega) hd (by omega) (by omega)).any
  have hc := cmp_one hle
  rw [rq_one] at t3
  replace t1 := t1 (k1 + k2 + k3 + 200) (by omega)
  replace t2 := t2 (k1 + k2 + k3 + 200) (by omega)
  replace t3 := t3 (k1 + k2 + k3 + 200) (by omega)
  have t4 := fun m => CL_of cl_number (k1 + k2 + k3 + 200 + m) (by omega)
  have t5 := fun m => CL_of cl_alg (k1 + k2 + k3 + 200 + m) (by omega)
  generalize k1 + k2 + k3 + 200 = N at *
  have hs : (0 : Int) ≤ sgn false n := by unfold sgn; split <;> simp
  generalize sgn false n = sg at *
  generalize cmpQ false n d false 1 1 = cc at *
  refine Ca.ofS (n := N + 60) ?_
  rw [CL_fn rfl (show E0.fn 133 = some f133 from rfl) rfl]
  simp only [wv, rq, LD, one8, alg] at *
  generalize LL (enc n) = x1 at *
  generalize LL (if d = 1 then [] else enc d) = x2 at *
  simp -implicitDefEqProofs [EX_skip, EX_ret, EX_exit, EX_kill, EX_seq, EX_cond, EX_block, EX_region, ROps_nil, ROps_cons, RK_mov, RK_pick, RK_bin, RK_conv, RK_beq, RK_aeq, RK_nileq, RK_un, RK_box, RK_new, RK_load, RK_store, RK_faddr, RK_field, RK_iaddr, RK_aaddr, RK_index, RK_build, RK_lit, RK_len, RK_maxi, RK_mini, RK_app, RK_slice, RK_mk, RK_ext, RK_clo, RK_call, RK_callv, guardV, runK, argV, argsV, doCall, callPure, D.cells, FV.cells, FV.one, D.one, oneV, St.push, St.heap, St.setHeap, splice, partF, partD, s_add, s_sub, s_mul, s_quo, s_rem, s_or, s_and, s_xor, s_shl, s_shr, s_eql, s_neq, s_lss, s_leq, s_gtr, s_geq, unV, setVars, killVars, apartOk, finish, ressV, resV, leavesL, leaves, leaveL, leave1, allD, mkA, fillF, finish2, isPure, oneOf, freezeAll, FV.rows, FV.rows1, D.norm, D.norm1, scalar, D.isV, FV.shift, FV.shiftL, AObj.shift, pureElem, fillE, elems, FStmt.l, FStmt.r, FStmt.bl, FStmt.lp, f133, t1, t2, t3, t4, t5, hc, hs]

def kindV3 : FV := (.a [(.d (.fn 133)), (.d (.fn 110)), (.d (.fn 111)), (.f 137 [] [(.r (.old 2) 0)]), (.d (.fn 115)), (.f 195 [] [(.r (.old 3) 0)]), (.d (.fn 136)), (.d (.fn 119)), (.f 138 [] [(.r (.old 2) 0)])])
def kindB3 : List AObj := [(.box [(.d (.fn 133)), (.d (.fn 110)), (.d (.fn 111)), (.f 137 [] [(.r (.old 2) 0)]), (.d (.fn 115)), (.f 195 [] [(.r (.old 3) 0)]), (.d (.fn 136)), (.d (.fn 119)), (.f 138 [] [(.r (.old 2) 0)])]), (.box [(.d (.fn 133)), (.d (.fn 110)), (.d (.fn 111)), (.f 137 [] [(.r (.old 2) 0)]), (.d (.fn 115)), (.f 195 [] [(.r (.old 3) 0)]), (.d (.fn 136)), (.d (.fn 119)), (.f 138 [] [(.r (.old 2) 0)])]), (.box [(.d (.fn 133)), (.d (.fn 110)), (.d (.fn 111)), (.f 137 [] [(.r (.old 2) 0)]), (.d (.fn 115)), (.f 195 [] [(.r (.old 3) 0)]), (.d (.fn 136)), (.d (.fn 119)), (.f 138 [] [(.r (.old 2) 0)])]), (.box [(.d (.fn 111))])]
theorem cl_kind3 : callN E0 60 42 [.d (.v (.int .i64 3))] [] = some (kindV3, some kindB3) := by kernel_rfl
theorem cl_valid3 : callN E0 60 31 [.d vr] [] = some (.d (.v (.bool true)), none) := by kernel_rfl

theorem ca_Check {n d : Nat} (f : fr n d) : Ca E0 18 [.d vr, .d (wv false n d)] (.d (.v (.bool true)), none) := by
  obtain ⟨k1, t1⟩ := (ca_check3 f).any
  replace t1 := t1 (k1 + 60) (by omega)
  have t2 := fun m => CL_of cl_kind3 (k1 + 60 + m) (by omega)
  have t3 := fun m => CL_of cl_valid3 (k1 + 60 + m) (by omega)
  generalize k1 + 60 = N at *
  refine Ca.ofS (n := N + 60) ?_
  rw [CL_fn rfl (show E0.fn 18 = some f18 from rfl) rfl]
  unfold kindV3 kindB3 at t2
  simp only [wv, vr, LD] at *
  generalize LL (enc n) = x1 at *
  generalize LL (if d = 1 then [] else enc d) = x2 at *
  simp -implicitDefEqProofs [EX_skip, EX_ret, EX_exit, EX_kill, EX_seq, EX_cond, EX_block, EX_region, ROps_nil, ROps_cons, RK_mov, RK_pick, RK_bin, RK_conv, RK_beq, RK_aeq, RK_nileq, RK_un, RK_box, RK_new, RK_load, RK_store, RK_faddr, RK_field, RK_iaddr, RK_aaddr, RK_index, RK_build, RK_lit, RK_len, RK_maxi, RK_mini, RK_app, RK_slice, RK_mk, RK_ext, RK_clo, RK_call, RK_callv, guardV, runK, argV, argsV, doCall, callPure, D.cells, FV.cells, FV.one, D.one, oneV, St.push, St.heap, St.setHeap, splice, partF, partD, s_add, s_sub, s_mul, s_quo, s_rem, s_or, s_and, s_xor, s_shl, s_shr, s_eql, s_neq, s_lss, s_leq, s_gtr, s_geq, unV, setVars, killVars, apartOk, finish, ressV, resV, leavesL, leaves, leaveL, leave1, allD, mkA, fillF, finish2, isPure, oneOf, freezeAll, FV.rows, FV.rows1, D.norm, D.norm1, scalar, D.isV, FV.shift, FV.shiftL, AObj.shift, pureElem, fillE, elems, FStmt.l, FStmt.r, FStmt.bl, FStmt.lp, f18, t1, t2, t3]

theorem ca_value {n d : Nat} (f : fr n d) : Ca E0 41 [.d vr, .d (wv false n d)] (.d (wv false n d), none) := by
  obtain ⟨N, t1⟩ := (ca_Check f).get
  refine Ca.ofS (n := N + 60) ?_
  rw [CL_fn rfl (show E0.fn 41 = some f41 from rfl) rfl]
  simp only [wv, vr, LD] at *
  generalize LL (enc n) = x1 at *
  generalize LL (if d = 1 then [] else enc d) = x2 at *
  simp -implicitDefEqProofs [EX_skip, EX_ret, EX_exit, EX_kill, EX_seq, EX_cond, EX_block, EX_region, ROps_nil, ROps_cons, RK_mov, RK_pick, RK_bin, RK_conv, RK_beq, RK_aeq, RK_nileq, RK_un, RK_box, RK_new, RK_load, RK_store, RK_faddr, RK_field, RK_iaddr, RK_aaddr, RK_index, RK_build, RK_lit, RK_len, RK_maxi, RK_mini, RK_app, RK_slice, RK_mk, RK_ext, RK_clo, RK_call, RK_callv, guardV, runK, argV, argsV, doCall, callPure, D.cells, FV.cells, FV.one, D.one, oneV, St.push, St.heap, St.setHeap, splice, partF, partD, s_add, s_sub, s_mul, s_quo, s_rem, s_or, s_and, s_xor, s_shl, s_shr, s_eql, s_neq, s_lss, s_leq, s_gtr, s_geq, unV, setVars, killVars, apartOk, finish, ressV, resV, leavesL, leaves, leaveL, leave1, allD, mkA, fillF, finish2, isPure, oneOf, freezeAll, FV.rows, FV.rows1, D.norm, D.norm1, scalar, D.isV, FV.shift, FV.shiftL, AObj.shift, pureElem, fillE, elems, FStmt.l, FStmt.r, FStmt.bl, FStmt.lp, f41, t1]

theorem ca_better {n1 d1 n2 d2 : Nat} (f1 : fr n1 d1) (f2 : fr n2 d2) : Ca E0 136 [.d (wv false n1 d1), .d (wv false n2 d2)] (.d (.v (.bool (decide (0 < cmpQ false n1 d1 false n2 d2)))), none) := by
  obtain ⟨N, t1⟩ := (ca_compare f1.1 f2.1 (by have := f1.2; omega) f1.2.2 (by have := f2.2; omega) f2.2.2).get
  refine Ca.ofS (n := N + 60) ?_
  rw [CL_fn rfl (show E0.fn 136 = some f136 from rfl) rfl]
  generalize cmpQ false n1 d1 false n2 d2 = cc at *
  simp only [wv, rq, LD] at *
  generalize LL (enc n1) = x1 at *
  generalize LL (if d1 = 1 then [] else enc d1) = x2 at *
  generalize LL (enc n2) = x3 at *
  generalize LL (if d2 = 1 then [] else enc d2) = x4 at *
  simp -implicitDefEqProofs [EX_skip, EX_ret, EX_exit, EX_kill, EX_seq, EX_cond, EX_block, EX_region, ROps_nil, ROps_cons, RK_mov, RK_pick, RK_bin, RK_conv, RK_beq, RK_aeq, RK_nileq, RK_un, RK_box, RK_new, RK_load, RK_store, RK_faddr, RK_field, RK_iaddr, RK_aaddr, RK_index, RK_build, RK_lit, RK_len, RK_maxi, RK_mini, RK_app, RK_slice, RK_mk, RK_ext, RK_clo, RK_call, RK_callv, guardV, runK, argV, argsV, doCall, callPure, D.cells, FV.cells, FV.one, D.one, oneV, St.push, St.heap, St.setHeap, splice, partF, partD, s_add, s_sub, s_mul, s_quo, s_rem, s_or, s_and, s_xor, s_shl, s_shr, s_eql, s_neq, s_lss, s_leq, s_gtr, s_geq, unV, setVars, killVars, apartOk, finish, ressV, resV, leavesL, leaves, leaveL, leave1, allD, mkA, fillF, finish2, isPure, oneOf, freezeAll, FV.rows, FV.rows1, D.norm, D.norm1, scalar, D.isV, FV.shift, FV.shiftL, AObj.shift, pureElem, fillE, elems, FStmt.l, FStmt.r, FStmt.bl, FStmt.lp, f136, t1]
end Fi.S
namespace Fi.S
open Go Fi
set_option maxHeartbeats 8000000
set_option maxRecDepth 100000

/-- Is the first one greater? -/
def gt (n1 d1 n2 d2 : Nat) : Bool := decide (n2 * d1 < n1 * d2)

theorem gt_eq (n1 d1 n2 d2 : Nat) : decide (0 < cmpQ false n1 d1 false n2 d2) = gt n1 d1 n2 d2 := by
  unfold gt cmpQ sumS sumN sgn
  have hft : ¬ (false = (!false)) := by simp
  rw [if_neg hft, if_neg hft]
  generalize n1 * d2 = a
  generalize n2 * d1 = b
  by_cases h : b ≤ a
  · rw [if_pos h, if_pos h]
    by_cases h2 : a - b = 0
    · rw [if_pos h2]
      have : ¬ b < a := by omega
      simp [this]
    · rw [if_neg h2]
      have : b < a := by omega
      simp [this]
  · rw [if_neg h, if_neg h, if_neg (by omega)]
    have : ¬ b < a := by omega
    simp [this]

theorem ca_Better {n1 d1 n2 d2 : Nat} (f1 : fr n1 d1) (f2 : fr n2 d2) : Ca E0 24 [.d vr, .d (wv false n1 d1), .d (wv false n2 d2)] (.d (.v (.bool (gt n1 d1 n2 d2))), none) := by
  obtain ⟨k1, t1⟩ := (ca_value f1).any
  obtain ⟨k2, t2⟩ := (ca_value f2).any
  obtain ⟨k3, t3⟩ := (ca_better f1 f2).any
  rw [gt_eq] at t3
  replace t1 := t1 (k1 + k2 + k3 + 60) (by omega)
  replace t2 := t2 (k1 + k2 + k3 + 60) (by omega)
  replace t3 := t3 (k1 + k2 + k3 + 60) (by omega)
  have t4 := fun m => CL_of cl_kind3 (k1 + k2 + k3 + 60 + m) (by omega)
  have t5 := fun m => CL_of cl_valid3 (k1 + k2 + k3 + 60 + m) (by omega)
  generalize k1 + k2 + k3 + 60 = N at *
  refine Ca.ofS (n := N + 60) ?_
  rw [CL_fn rfl (show E0.fn 24 = some f24 from rfl) rfl]
  unfold kindV3 kindB3 at t4
  generalize gt n1 d1 n2 d2 = res at *
  simp only [wv, vr, LD] at *
  generalize LL (enc n1) = x1 at *
  generalize LL (if d1 = 1 then [] else enc d1) = x2 at *
  generalize LL (enc n2) = x3 at *
  generalize LL (if d2 = 1 then [] else enc d2) = x4 at *
  simp -implicitDefEqProofs [EX_skip, EX_ret, EX_exit, EX_kill, EX_seq, EX_cond, EX_block, EX_region, ROps_nil, ROps_cons, RK_mov, RK_pick, RK_bin, RK_conv, RK_beq, RK_aeq, RK_nileq, RK_un, RK_box, RK_new, RK_load, RK_store, RK_faddr, RK_field, RK_iaddr, RK_aaddr, RK_index, RK_build, RK_lit, RK_len, RK_maxi, RK_mini, RK_app, RK_slice, RK_mk, RK_ext, RK_clo, RK_call, RK_callv, guardV, runK, argV, argsV, doCall, callPure, D.cells, FV.cells, FV.one, D.one, oneV, St.push, St.heap, St.setHeap, splice, partF, partD, s_add, s_sub, s_mul, s_quo, s_rem, s_or, s_and, s_xor, s_shl, s_shr, s_eql, s_neq, s_lss, s_leq, s_gtr, s_geq, unV, setVars, killVars, apartOk, finish, ressV, resV, leavesL, leaves, leaveL, leave1, allD, mkA, fillF, finish2, isPure, oneOf, freezeAll, FV.rows, FV.rows1, D.norm, D.norm1, scalar, D.isV, FV.shift, FV.shiftL, AObj.shift, pureElem, fillE, elems, FStmt.l, FStmt.r, FStmt.bl, FStmt.lp, f24, t1, t2, t3, t4, t5]

theorem ca_times3 {n1 d1 n2 d2 : Nat} (f1 : fr n1 d1) (f2 : fr n2 d2) : Ca E0 115 [.d (wv false n1 d1), .d (wv false n2 d2)] (.d (wv false (lowN (n1 * n2) (d1 * d2)) (lowD (n1 * n2) (d1 * d2))), none) := by
  obtain ⟨N, t1⟩ := (ca_mul f1.1 f2.1 (by have := f1.2; omega) f1.2.2 (by have := f2.2; omega) f2.2.2).get
  refine Ca.ofS (n := N + 60) ?_
  rw [CL_fn rfl (show E0.fn 115 = some f115 from rfl) rfl]
  have hb : (if n1 * n2 = 0 then false else (false != false)) = false := by split <;> rfl
  unfold lowQ at t1
  rw [hb] at t1
  generalize lowN (n1 * n2) (d1 * d2) = n at *
  generalize lowD (n1 * n2) (d1 * d2) = d at *
  simp only [wv, rq, LD] at *
  generalize LL (enc n1) = x1 at *
  generalize LL (if d1 = 1 then [] else enc d1) = x2 at *
  generalize LL (enc n2) = x3 at *
  generalize LL (if d2 = 1 then [] else enc d2) = x4 at *
  generalize LL (enc n) = x5 at *
  generalize LL (if d = 1 then [] else enc d) = x6 at *
  simp -implicitDefEqProofs [EX_skip, EX_ret, EX_exit, EX_kill, EX_seq, EX_cond, EX_block, EX_region, ROps_nil, ROps_cons, RK_mov, RK_pick, RK_bin, RK_conv, RK_beq, RK_aeq, RK_nileq, RK_un, RK_box, RK_new, RK_load, RK_store, RK_faddr, RK_field, RK_iaddr, RK_aaddr, RK_index, RK_build, RK_lit, RK_len, RK_maxi, RK_mini, RK_app, RK_slice, RK_mk, RK_ext, RK_clo, RK_call, RK_callv, guardV, runK, argV, argsV, doCall, callPure, D.cells, FV.cells, FV.one, D.one, oneV, St.push, St.heap, St.setHeap, splice, partF, partD, s_add, s_sub, s_mul, s_quo, s_rem, s_or, s_and, s_xor, s_shl, s_shr, s_eql, s_neq, s_lss, s_leq, s_gtr, s_geq, unV, setVars, killVars, apartOk, finish, ressV, resV, leavesL, leaves, leaveL, leave1, allD, mkA, fillF, finish2, isPure, oneOf, freezeAll, FV.rows, FV.rows1, D.norm, D.norm1, scalar, D.isV, FV.shift, FV.shiftL, AObj.shift, pureElem, fillE, elems, FStmt.l, FStmt.r, FStmt.bl, FStmt.lp, f115, t1]

theorem ca_Times {n1 d1 n2 d2 : Nat} (f1 : fr n1 d1) (f2 : fr n2 d2) : Ca E0 13 [.d vr, .d (wv false n1 d1), .d (wv false n2 d2)] (.d (wv false (lowN (n1 * n2) (d1 * d2)) (lowD (n1 * n2) (d1 * d2))), none) := by
  obtain ⟨k1, t1⟩ := (ca_value f1).any
  obtain ⟨k2, t2⟩ := (ca_value f2).any
  obtain ⟨k3, t3⟩ := (ca_times3 f1 f2).any
  replace t1 := t1 (k1 + k2 + k3 + 60) (by omega)
  replace t2 := t2 (k1 + k2 + k3 + 60) (by omega)
  replace t3 := t3 (k1 + k2 + k3 + 60) (by omega)
  have t4 := fun m => CL_of cl_kind3 (k1 + k2 + k3 + 60 + m) (by omega)
  have t5 := fun m => CL_of cl_valid3 (k1 + k2 + k3 + 60 + m) (by omega)
  generalize k1 + k2 + k3 + 60 = N at *
  refine Ca.ofS (n := N + 60) ?_
  rw [CL_fn rfl (show E0.fn 13 = some f13 from rfl) rfl]
  unfold kindV3 kindB3 at t4
  generalize lowN (n1 * n2) (d1 * d2) = n at *
  generalize lowD (n1 * n2) (d1 * d2) = d at *
  simp only [wv, vr, LD] at *
  generalize LL (enc n1) = x1 at *
  generalize LL (if d1 = 1 then [] else enc d1) = x2 at *
  generalize LL (enc n2) = x3 at *
  generalize LL (if d2 = 1 then [] else enc d2) = x4 at *
  generalize LL (enc n) = x5 at *
  generalize LL (if d = 1 then [] else enc d) = x6 at *
  simp -implicitDefEqProofs [EX_skip, EX_ret, EX_exit, EX_kill, EX_seq, EX_cond, EX_block, EX_region, ROps_nil, ROps_cons, RK_mov, RK_pick, RK_bin, RK_conv, RK_beq, RK_aeq, RK_nileq, RK_un, RK_box, RK_new, RK_load, RK_store, RK_faddr, RK_field, RK_iaddr, RK_aaddr, RK_index, RK_build, RK_lit, RK_len, RK_maxi, RK_mini, RK_app, RK_slice, RK_mk, RK_ext, RK_clo, RK_call, RK_callv, guardV, runK, argV, argsV, doCall, callPure, D.cells, FV.cells, FV.one, D.one, oneV, St.push, St.heap, St.setHeap, splice, partF, partD, s_add, s_sub, s_mul, s_quo, s_rem, s_or, s_and, s_xor, s_shl, s_shr, s_eql, s_neq, s_lss, s_leq, s_gtr, s_geq, unV, setVars, killVars, apartOk, finish, ressV, resV, leavesL, leaves, leaveL, leave1, allD, mkA, fillF, finish2, isPure, oneOf, freezeAll, FV.rows, FV.rows1, D.norm, D.norm1, scalar, D.isV, FV.shift, FV.shiftL, AObj.shift, pureElem, fillE, elems, FStmt.l, FStmt.r, FStmt.bl, FStmt.lp, f13, t1, t2, t3, t4, t5]

theorem low_self {n d : Nat} (o : okQ false n d) : lowQ false n d = rq false n d := by
  unfold lowQ lowN lowD
  rw [o.2.2.2.1, Nat.div_one, Nat.div_one]
  split <;> rfl

theorem ca_add0 {n d : Nat} (f : fr n d) : Ca E0 nAdd [.d (rq false n d), .d (.a [.v (.bool false), .s 1 [], .s 1 []])] (.d (rq false n d), none) := by
  have ok0 : okQ false 0 1 := ⟨by omega, by omega, by omega, by simp, by simp⟩
  have h := ca_add f.1 ok0 (by have := f.2; omega) f.2.2 (by omega) (by omega)
  have e0 : rq false 0 1 = .a [.v (.bool false), .s 1 [], .s 1 []] := by simp [rq, enc_zero, LD, LL]
  have e1 : sumS false (n * 1) false (0 * d) = false := by simp [sumS]
  have e2 : sumN false (n * 1) false (0 * d) = n := by simp [sumN]
  rw [e0, e1, e2, Nat.mul_one, low_self f.1] at h
  exact h

theorem plus137 {n1 d1 n2 d2 : Nat} (f1 : fr n1 d1) (f2 : fr n2 d2) : ∃ N, ∀ n, N ≤ n → ∀ m (B : List AObj) (k : Nat) (cs : List FV), B[k]? = some (.box cs) → cs[6]? = some (.d (.fn 136)) →
    CL E0 (n + m) 137 [.d (wv false n1 d1), .d (wv false n2 d2), .r (.old k) 0] B = some (.d (if gt n2 d2 n1 d1 then wv false n2 d2 else wv false n1 d1), none) := by
  obtain ⟨k1, t1⟩ := (ca_better f2 f1).any
  rw [gt_eq] at t1
  obtain ⟨k2, t2⟩ := (ca_add0 f1).any
  obtain ⟨k3, t3⟩ := (ca_add0 f2).any
  refine ⟨k1 + k2 + k3 + 60, fun n hn m B k cs hB hc => ?_⟩
  obtain ⟨N, rfl⟩ : ∃ N, n = N + 60 := ⟨n - 60, by omega⟩
  replace t1 := t1 N (by omega)
  replace t2 := t2 N (by omega)
  replace t3 := t3 N (by omega)
  rw [show N + 60 + m = N + m + 60 by omega]
  replace t1 := fun j => t1 (m + j)
  replace t2 := fun j => t2 (m + j)
  replace t3 := fun j => t3 (m + j)
  simp only [← Nat.add_assoc] at t1 t2 t3
  generalize N + m = M at *
  have hget : ∀ l : List AObj, (B ++ l)[k]? = some (.box cs) := fun l => by
    rw [List.getElem?_append_left (List.getElem?_eq_some_iff.1 hB).1]; exact hB
  rw [CL_fn rfl (show E0.fn 137 = some f137 from rfl) rfl]
  generalize gt n2 d2 n1 d1 = g at *
  simp only [wv, rq, LD] at *
  generalize LL (enc n1) = x1 at *
  generalize LL (if d1 = 1 then [] else enc d1) = x2 at *
  generalize LL (enc n2) = x3 at *
  generalize LL (if d2 = 1 then [] else enc d2) = x4 at *
  cases g
  · simp -implicitDefEqProofs [EX_skip, EX_ret, EX_exit, EX_kill, EX_seq, EX_cond, EX_block, EX_region, ROps_nil, ROps_cons, RK_mov, RK_pick, RK_bin, RK_conv, RK_beq, RK_aeq, RK_nileq, RK_un, RK_box, RK_new, RK_load, RK_store, RK_faddr, RK_field, RK_iaddr, RK_aaddr, RK_index, RK_build, RK_lit, RK_len, RK_maxi, RK_mini, RK_app, RK_slice, RK_mk, RK_ext, RK_clo, RK_call, RK_callv, guardV, runK, argV, argsV, doCall, callPure, D.cells, FV.cells, FV.one, D.one, oneV, St.push, St.heap, St.setHeap, splice, partF, partD, s_add, s_sub, s_mul, s_quo, s_rem, s_or, s_and, s_xor, s_shl, s_shr, s_eql, s_neq, s_lss, s_leq, s_gtr, s_geq, unV, setVars, killVars, apartOk, finish, ressV, resV, leavesL, leaves, leaveL, leave1, allD, mkA, fillF, finish2, isPure, oneOf, freezeAll, FV.rows, FV.rows1, D.norm, D.norm1, scalar, D.isV, FV.shift, FV.shiftL, AObj.shift, pureElem, fillE, elems, FStmt.l, FStmt.r, FStmt.bl, FStmt.lp, f137, hget, hc, t1, t2]
  · simp -implicitDefEqProofs [EX_skip, EX_ret, EX_exit, EX_kill, EX_seq, EX_cond, EX_block, EX_region, ROps_nil, ROps_cons, RK_mov, RK_pick, RK_bin, RK_conv, RK_beq, RK_aeq, RK_nileq, RK_un, RK_box, RK_new, RK_load, RK_store, RK_faddr, RK_field, RK_iaddr, RK_aaddr, RK_index, RK_build, RK_lit, RK_len, RK_maxi, RK_mini, RK_app, RK_slice, RK_mk, RK_ext, RK_clo, RK_call, RK_callv, guardV, runK, argV, argsV, doCall, callPure, D.cells, FV.cells, FV.one, D.one, oneV, St.push, St.heap, St.setHeap, splice, partF, partD, s_add, s_sub, s_mul, s_quo, s_rem, s_or, s_and, s_xor, s_shl, s_shr, s_eql, s_neq, s_lss, s_leq, s_gtr, s_geq, unV, setVars, killVars, apartOk, finish, ressV, resV, leavesL, leaves, leaveL, leave1, allD, mkA, fillF, finish2, isPure, oneOf, freezeAll, FV.rows, FV.rows1, D.norm, D.norm1, scalar, D.isV, FV.shift, FV.shiftL, AObj.shift, pureElem, fillE, elems, FStmt.l, FStmt.r, FStmt.bl, FStmt.lp, f137, hget, hc, t1, t3]
end Fi.S
namespace Fi.S
open Go Fi
set_option maxHeartbeats 8000000
set_option maxRecDepth 100000

theorem ca_Plus {n1 d1 n2 d2 : Nat} (f1 : fr n1 d1) (f2 : fr n2 d2) : Ca E0 14 [.d vr, .d (wv false n1 d1), .d (wv false n2 d2)] (.d (if gt n2 d2 n1 d1 then wv false n2 d2 else wv false n1 d1), none) := by
  obtain ⟨k1, t1⟩ := (ca_value f1).any
  obtain ⟨k2, t2⟩ := (ca_value f2).any
  obtain ⟨k3, t3⟩ := plus137 f1 f2
  replace t1 := t1 (k1 + k2 + k3 + 60) (by omega)
  replace t2 := t2 (k1 + k2 + k3 + 60) (by omega)
  replace t3 := t3 (k1 + k2 + k3 + 60) (by omega)
  have t4 := fun m => CL_of cl_kind3 (k1 + k2 + k3 + 60 + m) (by omega)
  have t5 := fun m => CL_of cl_valid3 (k1 + k2 + k3 + 60 + m) (by omega)
  generalize k1 + k2 + k3 + 60 = N at *
  replace t3 := fun m b0 b1 b2 b3 b4 b5 b7 => t3 m [b0, b1, b2, b3, b4, b5, .box [(.d (.fn 133)), (.d (.fn 110)), (.d (.fn 111)), (.f 137 [] [(.r (.old 6) 0)]), (.d (.fn 115)), (.f 195 [] [(.r (.old 7) 0)]), (.d (.fn 136)), (.d (.fn 119)), (.f 138 [] [(.r (.old 6) 0)])], b7] 6 _ rfl rfl
  refine Ca.ofS (n := N + 60) ?_
  rw [CL_fn rfl (show E0.fn 14 = some f14 from rfl) rfl]
  unfold kindV3 kindB3 at t4
  generalize gt n2 d2 n1 d1 = g at *
  simp only [wv, vr, LD] at *
  generalize LL (enc n1) = x1 at *
  generalize LL (if d1 = 1 then [] else enc d1) = x2 at *
  generalize LL (enc n2) = x3 at *
  generalize LL (if d2 = 1 then [] else enc d2) = x4 at *
  cases g
  · simp -implicitDefEqProofs [EX_skip, EX_ret, EX_exit, EX_kill, EX_seq, EX_cond, EX_block, EX_region, ROps_nil, ROps_cons, RK_mov, RK_pick, RK_bin, RK_conv, RK_beq, RK_aeq, RK_nileq, RK_un, RK_box, RK_new, RK_load, RK_store, RK_faddr, RK_field, RK_iaddr, RK_aaddr, RK_index, RK_build, RK_lit, RK_len, RK_maxi, RK_mini, RK_app, RK_slice, RK_mk, RK_ext, RK_clo, RK_call, RK_callv, guardV, runK, argV, argsV, doCall, callPure, D.cells, FV.cells, FV.one, D.one, oneV, St.push, St.heap, St.setHeap, splice, partF, partD, s_add, s_sub, s_mul, s_quo, s_rem, s_or, s_and, s_xor, s_shl, s_shr, s_eql, s_neq, s_lss, s_leq, s_gtr, s_geq, unV, setVars, killVars, apartOk, finish, ressV, resV, leavesL, leaves, leaveL, leave1, allD, mkA, fillF, finish2, isPure, oneOf, freezeAll, FV.rows, FV.rows1, D.norm, D.norm1, scalar, D.isV, FV.shift, FV.shiftL, AObj.shift, pureElem, fillE, elems, FStmt.l, FStmt.r, FStmt.bl, FStmt.lp, callFull, FV.toOld, FV.toOldL, AObj.toOld, f14, t1, t2, t3, t4, t5]
  · simp -implicitDefEqProofs [EX_skip, EX_ret, EX_exit, EX_kill, EX_seq, EX_cond, EX_block, EX_region, ROps_nil, ROps_cons, RK_mov, RK_pick, RK_bin, RK_conv, RK_beq, RK_aeq, RK_nileq, RK_un, RK_box, RK_new, RK_load, RK_store, RK_faddr, RK_field, RK_iaddr, RK_aaddr, RK_index, RK_build, RK_lit, RK_len, RK_maxi, RK_mini, RK_app, RK_slice, RK_mk, RK_ext, RK_clo, RK_call, RK_callv, guardV, runK, argV, argsV, doCall, callPure, D.cells, FV.cells, FV.one, D.one, oneV, St.push, St.heap, St.setHeap, splice, partF, partD, s_add, s_sub, s_mul, s_quo, s_rem, s_or, s_and, s_xor, s_shl, s_shr, s_eql, s_neq, s_lss, s_leq, s_gtr, s_geq, unV, setVars, killVars, apartOk, finish, ressV, resV, leavesL, leaves, leaveL, leave1, allD, mkA, fillF, finish2, isPure, oneOf, freezeAll, FV.rows, FV.rows1, D.norm, D.norm1, scalar, D.isV, FV.shift, FV.shiftL, AObj.shift, pureElem, fillE, elems, FStmt.l, FStmt.r, FStmt.bl, FStmt.lp, callFull, FV.toOld, FV.toOldL, AObj.toOld, f14, t1, t2, t3, t4, t5]

theorem same78 (n : Nat) (l : List Nat) (h : l.length ≤ 1) : CL E0 (n + 60) 78 [.d (LD l), .d (LD l)] [] = some (.d (.v (.bool true)), none) := by
  rw [CL_fn rfl (show E0.fn 78 = some f78 from rfl) rfl]
  match l, h with
  | [], _ => simp -implicitDefEqProofs [EX_skip, EX_ret, EX_exit, EX_kill, EX_seq, EX_cond, EX_block, EX_region, ROps_nil, ROps_cons, RK_mov, RK_pick, RK_bin, RK_conv, RK_beq, RK_aeq, RK_nileq, RK_un, RK_box, RK_new, RK_load, RK_store, RK_faddr, RK_field, RK_iaddr, RK_aaddr, RK_index, RK_build, RK_lit, RK_len, RK_maxi, RK_mini, RK_app, RK_slice, RK_mk, RK_ext, RK_clo, RK_call, RK_callv, guardV, runK, argV, argsV, doCall, callPure, D.cells, FV.cells, FV.one, D.one, oneV, St.push, St.heap, St.setHeap, splice, partF, partD, s_add, s_sub, s_mul, s_quo, s_rem, s_or, s_and, s_xor, s_shl, s_shr, s_eql, s_neq, s_lss, s_leq, s_gtr, s_geq, unV, setVars, killVars, apartOk, finish, ressV, resV, leavesL, leaves, leaveL, leave1, allD, mkA, fillF, finish2, isPure, oneOf, freezeAll, FV.rows, FV.rows1, D.norm, D.norm1, scalar, D.isV, FV.shift, FV.shiftL, AObj.shift, pureElem, fillE, elems, FStmt.l, FStmt.r, FStmt.bl, FStmt.lp, EX_loop, f78, LD, LL]
  | [x], _ =>
    have w1 : wrapS .i64 1 = 1 := wrap_i64 (by omega)
    simp -implicitDefEqProofs [EX_skip, EX_ret, EX_exit, EX_kill, EX_seq, EX_cond, EX_block, EX_region, ROps_nil, ROps_cons, RK_mov, RK_pick, RK_bin, RK_conv, RK_beq, RK_aeq, RK_nileq, RK_un, RK_box, RK_new, RK_load, RK_store, RK_faddr, RK_field, RK_iaddr, RK_aaddr, RK_index, RK_build, RK_lit, RK_len, RK_maxi, RK_mini, RK_app, RK_slice, RK_mk, RK_ext, RK_clo, RK_call, RK_callv, guardV, runK, argV, argsV, doCall, callPure, D.cells, FV.cells, FV.one, D.one, oneV, St.push, St.heap, St.setHeap, splice, partF, partD, s_add, s_sub, s_mul, s_quo, s_rem, s_or, s_and, s_xor, s_shl, s_shr, s_eql, s_neq, s_lss, s_leq, s_gtr, s_geq, unV, setVars, killVars, apartOk, finish, ressV, resV, leavesL, leaves, leaveL, leave1, allD, mkA, fillF, finish2, isPure, oneOf, freezeAll, FV.rows, FV.rows1, D.norm, D.norm1, scalar, D.isV, FV.shift, FV.shiftL, AObj.shift, pureElem, fillE, elems, FStmt.l, FStmt.r, FStmt.bl, FStmt.lp, EX_loop, f78, LD, LL, w1]

theorem ca_same39 (n : Nat) (s : Bool) (a b : List Nat) (ha : a.length ≤ 1) (hb : b.length ≤ 1) : CL E0 (n + 100) 39 [.d (.a [.v (.bool s), LD a, LD b]), .d (.a [.v (.bool s), LD a, LD b])] [] = some (.d (.v (.bool true)), none) := by
  have t1 := fun m => same78 m a ha
  have t2 := fun m => same78 m b hb
  rw [CL_fn rfl (show E0.fn 39 = some f39 from rfl) rfl]
  simp only [LD] at *
  generalize LL a = x1 at *
  generalize LL b = x2 at *
  cases s <;> simp -implicitDefEqProofs [EX_skip, EX_ret, EX_exit, EX_kill, EX_seq, EX_cond, EX_block, EX_region, ROps_nil, ROps_cons, RK_mov, RK_pick, RK_bin, RK_conv, RK_beq, RK_aeq, RK_nileq, RK_un, RK_box, RK_new, RK_load, RK_store, RK_faddr, RK_field, RK_iaddr, RK_aaddr, RK_index, RK_build, RK_lit, RK_len, RK_maxi, RK_mini, RK_app, RK_slice, RK_mk, RK_ext, RK_clo, RK_call, RK_callv, guardV, runK, argV, argsV, doCall, callPure, D.cells, FV.cells, FV.one, D.one, oneV, St.push, St.heap, St.setHeap, splice, partF, partD, s_add, s_sub, s_mul, s_quo, s_rem, s_or, s_and, s_xor, s_shl, s_shr, s_eql, s_neq, s_lss, s_leq, s_gtr, s_geq, unV, setVars, killVars, apartOk, finish, ressV, resV, leavesL, leaves, leaveL, leave1, allD, mkA, fillF, finish2, isPure, oneOf, freezeAll, FV.rows, FV.rows1, D.norm, D.norm1, scalar, D.isV, FV.shift, FV.shiftL, AObj.shift, pureElem, fillE, elems, FStmt.l, FStmt.r, FStmt.bl, FStmt.lp, f39, t1, t2]

theorem ca_Equal12 (m : Nat) {n d : Nat} (hn : n < 4294967296) (hd : d < 4294967296) : CL E0 (m + 160) 12 [.d (wv false n d), .d (wv false n d)] [] = some (.d (.v (.bool true)), none) := by
  have t1 := fun m => ca_same39 m false (enc n) (if d = 1 then [] else enc d) (enc_len1 hn) (den_len hd)
  have t2 := fun m => CL_of cl_40 (60 + m) (by omega)
  rw [CL_fn rfl (show E0.fn 12 = some f12 from rfl) rfl]
  replace t2 := fun m => t2 m
  have t2' : ∀ m, CL E0 (m + 60) 40 [.d (.s 6 []), .d (.s 6 [])] [] = some (.d (.v (.bool true)), none) := fun m => by rw [Nat.add_comm]; exact t2 m
  clear t2
  simp only [wv, LD] at *
  generalize LL (enc n) = x1 at *
  generalize LL (if d = 1 then [] else enc d) = x2 at *
  simp -implicitDefEqProofs [EX_skip, EX_ret, EX_exit, EX_kill, EX_seq, EX_cond, EX_block, EX_region, ROps_nil, ROps_cons, RK_mov, RK_pick, RK_bin, RK_conv, RK_beq, RK_aeq, RK_nileq, RK_un, RK_box, RK_new, RK_load, RK_store, RK_faddr, RK_field, RK_iaddr, RK_aaddr, RK_index, RK_build, RK_lit, RK_len, RK_maxi, RK_mini, RK_app, RK_slice, RK_mk, RK_ext, RK_clo, RK_call, RK_callv, guardV, runK, argV, argsV, doCall, callPure, D.cells, FV.cells, FV.one, D.one, oneV, St.push, St.heap, St.setHeap, splice, partF, partD, s_add, s_sub, s_mul, s_quo, s_rem, s_or, s_and, s_xor, s_shl, s_shr, s_eql, s_neq, s_lss, s_leq, s_gtr, s_geq, unV, setVars, killVars, apartOk, finish, ressV, resV, leavesL, leaves, leaveL, leave1, allD, mkA, fillF, finish2, isPure, oneOf, freezeAll, FV.rows, FV.rows1, D.norm, D.norm1, scalar, D.isV, FV.shift, FV.shiftL, AObj.shift, pureElem, fillE, elems, FStmt.l, FStmt.r, FStmt.bl, FStmt.lp, EX_loop, f12, t1, t2']
end Fi.S
