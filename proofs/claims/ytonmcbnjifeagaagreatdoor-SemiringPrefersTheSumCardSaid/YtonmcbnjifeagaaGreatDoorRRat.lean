/- Small numbers of package rational: what each function answers. -/
import Derived.Test.YtonmcbnjifeagaaGreatDoorRLimb
set_option linter.unusedVariables false
set_option linter.unusedSimpArgs false
namespace Fi.S
open Go Fi
set_option maxHeartbeats 8000000

abbrev nOne : Nat := 182
abbrev fOne : FFunc := f182
abbrev nValid : Nat := 109
abbrev fValid : FFunc := f109
abbrev nOf : Nat := 185
abbrev fOf : FFunc := f185

/-- A number as the program holds it, and a fraction. -/
def rq (neg : Bool) (n d : Nat) : D := .a [.v (.bool neg), LD (enc n), LD (if d = 1 then [] else enc d)]
def fq (neg : Bool) (n d : Nat) : D := .a [.v (.bool neg), LD (enc n), LD (enc d)]
/-- It is in lowest terms, and of one limb. -/
def okQ (neg : Bool) (n d : Nat) : Prop := n < 4294967296 ∧ 0 < d ∧ d < 4294967296 ∧ Nat.gcd n d = 1 ∧ (n = 0 → neg = false ∧ d = 1)

theorem run_one (n : Nat) : CL E0 (n + 20) nOne [] [] = some (.d (.s 1 [.v (.int .u32 1)]), none) := by
  rw [CL_fn rfl (show E0.fn nOne = some fOne from rfl) rfl]
  simp -implicitDefEqProofs [EX_skip, EX_ret, EX_exit, EX_kill, EX_seq, EX_cond, EX_block, EX_region, ROps_nil, ROps_cons, RK_mov, RK_pick, RK_bin, RK_conv, RK_beq, RK_aeq, RK_nileq, RK_un, RK_box, RK_new, RK_load, RK_store, RK_faddr, RK_field, RK_iaddr, RK_aaddr, RK_index, RK_build, RK_lit, RK_len, RK_maxi, RK_mini, RK_app, RK_slice, RK_mk, RK_ext, RK_clo, RK_call, RK_callv, guardV, runK, argV, argsV, doCall, callPure, D.cells, FV.cells, FV.one, D.one, oneV, St.push, St.heap, St.setHeap, splice, partF, partD, s_add, s_sub, s_mul, s_quo, s_rem, s_or, s_and, s_xor, s_shl, s_shr, s_eql, s_neq, s_lss, s_leq, s_gtr, s_geq, unV, setVars, killVars, apartOk, finish, ressV, resV, leavesL, leaves, leaveL, leave1, allD, mkA, fillF, finish2, isPure, oneOf, freezeAll, FV.rows, FV.rows1, D.norm, D.norm1, scalar, D.isV, FV.shift, FV.shiftL, AObj.shift, pureElem, fillE, elems, FStmt.l, FStmt.r, FStmt.bl, FStmt.lp, f182]

theorem LD_one : LD (enc 1) = .s 1 [.v (.int .u32 1)] := by rw [enc_small (by omega) (by omega)]; rfl

theorem enc_last {n : Nat} {b : List Nat} {x : Nat} (h : enc n = b ++ [x]) : x ≠ 0 := by
  intro h0
  subst h0
  have h1 := trim_enc n
  rw [h, trim_zero] at h1
  have h2 := length_trim b
  rw [h1] at h2
  simp only [List.length_append, List.length_cons, List.length_nil] at h2
  omega

theorem run_proper (m : Nat) (n : Nat) (hl : (enc n).length ≤ 1000000000) : CL E0 (m + 30) nProper [.d (LD (enc n))] [] = some (.d (.v (.bool true)), none) := by
  rw [CL_fn rfl (show E0.fn nProper = some fProper from rfl) rfl]
  rcases List.eq_nil_or_concat (enc n) with h | ⟨b, x, h⟩
  · rw [h]
    simp -implicitDefEqProofs [EX_skip, EX_ret, EX_exit, EX_kill, EX_seq, EX_cond, EX_block, EX_region, ROps_nil, ROps_cons, RK_mov, RK_pick, RK_bin, RK_conv, RK_beq, RK_aeq, RK_nileq, RK_un, RK_box, RK_new, RK_load, RK_store, RK_faddr, RK_field, RK_iaddr, RK_aaddr, RK_index, RK_build, RK_lit, RK_len, RK_maxi, RK_mini, RK_app, RK_slice, RK_mk, RK_ext, RK_clo, RK_call, RK_callv, guardV, runK, argV, argsV, doCall, callPure, D.cells, FV.cells, FV.one, D.one, oneV, St.push, St.heap, St.setHeap, splice, partF, partD, s_add, s_sub, s_mul, s_quo, s_rem, s_or, s_and, s_xor, s_shl, s_shr, s_eql, s_neq, s_lss, s_leq, s_gtr, s_geq, unV, setVars, killVars, apartOk, finish, ressV, resV, leavesL, leaves, leaveL, leave1, allD, mkA, fillF, finish2, isPure, oneOf, freezeAll, FV.rows, FV.rows1, D.norm, D.norm1, scalar, D.isV, FV.shift, FV.shiftL, AObj.shift, pureElem, fillE, elems, FStmt.l, FStmt.r, FStmt.bl, FStmt.lp, f180, LD, LL]
  · rw [List.concat_eq_append] at h
    have hx := enc_last h
    rw [h] at hl ⊢
    have hlen : (LL (b ++ [x])).length = b.length + 1 := by simp [LL]
    have hget : (LL (b ++ [x]))[b.length]? = some (.v (.int .u32 (x : Int))) := by simp [LL]
    have hb : (((b.length : Int) + 1) == 0) = false := by simp; omega
    have hw : wrapS .i64 (b.length : Int) = (b.length : Int) := wrap_i64 (by simp at hl; omega)
    have hxb : ((x : Int) != 0) = true := by simp; omega
    simp only [LD]
    generalize LL (b ++ [x]) = es at *
    have hget2 := idx hget
    simp -implicitDefEqProofs [EX_skip, EX_ret, EX_exit, EX_kill, EX_seq, EX_cond, EX_block, EX_region, ROps_nil, ROps_cons, RK_mov, RK_pick, RK_bin, RK_conv, RK_beq, RK_aeq, RK_nileq, RK_un, RK_box, RK_new, RK_load, RK_store, RK_faddr, RK_field, RK_iaddr, RK_aaddr, RK_index, RK_build, RK_lit, RK_len, RK_maxi, RK_mini, RK_app, RK_slice, RK_mk, RK_ext, RK_clo, RK_call, RK_callv, guardV, runK, argV, argsV, doCall, callPure, D.cells, FV.cells, FV.one, D.one, oneV, St.push, St.heap, St.setHeap, splice, partF, partD, s_add, s_sub, s_mul, s_quo, s_rem, s_or, s_and, s_xor, s_shl, s_shr, s_eql, s_neq, s_lss, s_leq, s_gtr, s_geq, unV, setVars, killVars, apartOk, finish, ressV, resV, leavesL, leaves, leaveL, leave1, allD, mkA, fillF, finish2, isPure, oneOf, freezeAll, FV.rows, FV.rows1, D.norm, D.norm1, scalar, D.isV, FV.shift, FV.shiftL, AObj.shift, pureElem, fillE, elems, FStmt.l, FStmt.r, FStmt.bl, FStmt.lp, f180, hlen, hget, hget2, hb, hw, hxb]

theorem enc_len1 {n : Nat} (h : n < 4294967296) : (enc n).length ≤ 1 := enc_length (k := 1) (by omega)

theorem ca_valid {neg : Bool} {n d : Nat} (h : okQ neg n d) : Ca E0 nValid [.d (rq neg n d)] (.d (.v (.bool true)), none) := by
  obtain ⟨h1, h2, h3, h4, h5⟩ := h
  have ln := enc_len1 h1
  have ld := enc_len1 h3
  have p1 := fun m => run_proper m n (by omega)
  have p2 := fun m => run_proper m d (by omega)
  have p0 := fun m => run_proper m 0 (by simp [enc_zero])
  rw [enc_zero] at p0
  have o1 := run_one
  rcases Nat.eq_zero_or_pos n with rfl | hn
  · obtain ⟨rfl, rfl⟩ := h5 rfl
    refine Ca.ofS (n := 60) ?_
    rw [CL_fn rfl (show E0.fn nValid = some fValid from rfl) rfl]
    simp only [rq, enc_zero, LD, LL, List.map_nil, if_true] at p0 ⊢
    simp -implicitDefEqProofs [EX_skip, EX_ret, EX_exit, EX_kill, EX_seq, EX_cond, EX_block, EX_region, ROps_nil, ROps_cons, RK_mov, RK_pick, RK_bin, RK_conv, RK_beq, RK_aeq, RK_nileq, RK_un, RK_box, RK_new, RK_load, RK_store, RK_faddr, RK_field, RK_iaddr, RK_aaddr, RK_index, RK_build, RK_lit, RK_len, RK_maxi, RK_mini, RK_app, RK_slice, RK_mk, RK_ext, RK_clo, RK_call, RK_callv, guardV, runK, argV, argsV, doCall, callPure, D.cells, FV.cells, FV.one, D.one, oneV, St.push, St.heap, St.setHeap, splice, partF, partD, s_add, s_sub, s_mul, s_quo, s_rem, s_or, s_and, s_xor, s_shl, s_shr, s_eql, s_neq, s_lss, s_leq, s_gtr, s_geq, unV, setVars, killVars, apartOk, finish, ressV, resV, leavesL, leaves, leaveL, leave1, allD, mkA, fillF, finish2, isPure, oneOf, freezeAll, FV.rows, FV.rows1, D.norm, D.norm1, scalar, D.isV, FV.shift, FV.shiftL, AObj.shift, pureElem, fillE, elems, FStmt.l, FStmt.r, FStmt.bl, FStmt.lp, f109, p0]
  · have hlen : (LL (enc n)).length = 1 := by rw [enc_small hn h1]; rfl
    by_cases hd : d = 1
    · subst hd
      refine Ca.ofS (n := 60) ?_
      rw [CL_fn rfl (show E0.fn nValid = some fValid from rfl) rfl]
      simp only [rq, if_true, LD] at p0 p1 ⊢
      generalize LL (enc n) = ns at *
      simp only [LL, List.map_nil] at p0 ⊢
      simp -implicitDefEqProofs [EX_skip, EX_ret, EX_exit, EX_kill, EX_seq, EX_cond, EX_block, EX_region, ROps_nil, ROps_cons, RK_mov, RK_pick, RK_bin, RK_conv, RK_beq, RK_aeq, RK_nileq, RK_un, RK_box, RK_new, RK_load, RK_store, RK_faddr, RK_field, RK_iaddr, RK_aaddr, RK_index, RK_build, RK_lit, RK_len, RK_maxi, RK_mini, RK_app, RK_slice, RK_mk, RK_ext, RK_clo, RK_call, RK_callv, guardV, runK, argV, argsV, doCall, callPure, D.cells, FV.cells, FV.one, D.one, oneV, St.push, St.heap, St.setHeap, splice, partF, partD, s_add, s_sub, s_mul, s_quo, s_rem, s_or, s_and, s_xor, s_shl, s_shr, s_eql, s_neq, s_lss, s_leq, s_gtr, s_geq, unV, setVars, killVars, apartOk, finish, ressV, resV, leavesL, leaves, leaveL, leave1, allD, mkA, fillF, finish2, isPure, oneOf, freezeAll, FV.rows, FV.rows1, D.norm, D.norm1, scalar, D.isV, FV.shift, FV.shiftL, AObj.shift, pureElem, fillE, elems, FStmt.l, FStmt.r, FStmt.bl, FStmt.lp, f109, p0, p1, hlen]
    · have hlen2 : (LL (enc d)).length = 1 := by rw [enc_small h2 h3]; rfl
      obtain ⟨n1, c1⟩ := (ca_cmp (enc d) (enc 1) (by omega) (by have := enc_len1 (n := 1) (by omega); omega) (lim_enc _) (lim_enc _)).any
      obtain ⟨n2, c2⟩ := (ca_cmp (enc 1) (enc 1) (by have := enc_len1 (n := 1) (by omega); omega) (by have := enc_len1 (n := 1) (by omega); omega) (lim_enc _) (lim_enc _)).any
      obtain ⟨n3, c3⟩ := (ca_gcd1 n d (by omega) h3).any
      replace c1 := c1 (n1 + n2 + n3) (by omega)
      replace c2 := c2 (n1 + n2 + n3) (by omega)
      replace c3 := c3 (n1 + n2 + n3) (by omega)
      generalize n1 + n2 + n3 = N at *
      simp only [val_enc] at c1 c2
      rw [h4] at c3
      have e1 : cmpN d 1 = 1 := by unfold cmpN; rw [if_neg (by omega), if_neg (by omega)]
      have e2 : cmpN 1 1 = 0 := by simp [cmpN]
      rw [e1] at c1
      rw [e2] at c2
      refine Ca.ofS (n := N + 60) ?_
      rw [CL_fn rfl (show E0.fn nValid = some fValid from rfl) rfl]
      rw [LD_one] at c1 c2 c3
      simp only [rq, if_neg hd, LD] at p1 p2 c1 c3 ⊢
      generalize LL (enc n) = ns at *
      generalize LL (enc d) = ds at *
      simp -implicitDefEqProofs [EX_skip, EX_ret, EX_exit, EX_kill, EX_seq, EX_cond, EX_block, EX_region, ROps_nil, ROps_cons, RK_mov, RK_pick, RK_bin, RK_conv, RK_beq, RK_aeq, RK_nileq, RK_un, RK_box, RK_new, RK_load, RK_store, RK_faddr, RK_field, RK_iaddr, RK_aaddr, RK_index, RK_build, RK_lit, RK_len, RK_maxi, RK_mini, RK_app, RK_slice, RK_mk, RK_ext, RK_clo, RK_call, RK_callv, guardV, runK, argV, argsV, doCall, callPure, D.cells, FV.cells, FV.one, D.one, oneV, St.push, St.heap, St.setHeap, splice, partF, partD, s_add, s_sub, s_mul, s_quo, s_rem, s_or, s_and, s_xor, s_shl, s_shr, s_eql, s_neq, s_lss, s_leq, s_gtr, s_geq, unV, setVars, killVars, apartOk, finish, ressV, resV, leavesL, leaves, leaveL, leave1, allD, mkA, fillF, finish2, isPure, oneOf, freezeAll, FV.rows, FV.rows1, D.norm, D.norm1, scalar, D.isV, FV.shift, FV.shiftL, AObj.shift, pureElem, fillE, elems, FStmt.l, FStmt.r, FStmt.bl, FStmt.lp, f109, p1, p2, hlen, hlen2, o1, c1, c2, c3]

theorem ca_of {neg : Bool} {n d : Nat} (h : okQ neg n d) : Ca E0 nOf [.d (rq neg n d)] (.d (fq neg n d), none) := by
  obtain ⟨N, hv⟩ := (ca_valid h).get
  obtain ⟨h1, h2, h3, h4, h5⟩ := h
  have o1 := run_one
  refine Ca.ofS (n := N + 60) ?_
  rw [CL_fn rfl (show E0.fn nOf = some fOf from rfl) rfl]
  by_cases hd : d = 1
  · subst hd
    simp only [fq, LD_one]
    simp only [rq, if_true, LD] at hv ⊢
    generalize LL (enc n) = ns at *
    simp only [LL, List.map_nil] at hv ⊢
    simp -implicitDefEqProofs [EX_skip, EX_ret, EX_exit, EX_kill, EX_seq, EX_cond, EX_block, EX_region, ROps_nil, ROps_cons, RK_mov, RK_pick, RK_bin, RK_conv, RK_beq, RK_aeq, RK_nileq, RK_un, RK_box, RK_new, RK_load, RK_store, RK_faddr, RK_field, RK_iaddr, RK_aaddr, RK_index, RK_build, RK_lit, RK_len, RK_maxi, RK_mini, RK_app, RK_slice, RK_mk, RK_ext, RK_clo, RK_call, RK_callv, guardV, runK, argV, argsV, doCall, callPure, D.cells, FV.cells, FV.one, D.one, oneV, St.push, St.heap, St.setHeap, splice, partF, partD, s_add, s_sub, s_mul, s_quo, s_rem, s_or, s_and, s_xor, s_shl, s_shr, s_eql, s_neq, s_lss, s_leq, s_gtr, s_geq, unV, setVars, killVars, apartOk, finish, ressV, resV, leavesL, leaves, leaveL, leave1, allD, mkA, fillF, finish2, isPure, oneOf, freezeAll, FV.rows, FV.rows1, D.norm, D.norm1, scalar, D.isV, FV.shift, FV.shiftL, AObj.shift, pureElem, fillE, elems, FStmt.l, FStmt.r, FStmt.bl, FStmt.lp, f185, hv, o1]
  · have hlen2 : (LL (enc d)).length = 1 := by rw [enc_small h2 h3]; rfl
    simp only [rq, fq, if_neg hd, LD] at hv ⊢
    generalize LL (enc n) = ns at *
    generalize LL (enc d) = ds at *
    simp -implicitDefEqProofs [EX_skip, EX_ret, EX_exit, EX_kill, EX_seq, EX_cond, EX_block, EX_region, ROps_nil, ROps_cons, RK_mov, RK_pick, RK_bin, RK_conv, RK_beq, RK_aeq, RK_nileq, RK_un, RK_box, RK_new, RK_load, RK_store, RK_faddr, RK_field, RK_iaddr, RK_aaddr, RK_index, RK_build, RK_lit, RK_len, RK_maxi, RK_mini, RK_app, RK_slice, RK_mk, RK_ext, RK_clo, RK_call, RK_callv, guardV, runK, argV, argsV, doCall, callPure, D.cells, FV.cells, FV.one, D.one, oneV, St.push, St.heap, St.setHeap, splice, partF, partD, s_add, s_sub, s_mul, s_quo, s_rem, s_or, s_and, s_xor, s_shl, s_shr, s_eql, s_neq, s_lss, s_leq, s_gtr, s_geq, unV, setVars, killVars, apartOk, finish, ressV, resV, leavesL, leaves, leaveL, leave1, allD, mkA, fillF, finish2, isPure, oneOf, freezeAll, FV.rows, FV.rows1, D.norm, D.norm1, scalar, D.isV, FV.shift, FV.shiftL, AObj.shift, pureElem, fillE, elems, FStmt.l, FStmt.r, FStmt.bl, FStmt.lp, f185, hv, hlen2]
end Fi.S
namespace Fi.S
open Go Fi
set_option maxHeartbeats 8000000

abbrev nClone : Nat := 230
abbrev fClone : FFunc := f230
abbrev nRat : Nat := 187
abbrev fRat : FFunc := f187

theorem run_clone1 (m : Nat) (e : D) : CL E0 (m + 30) nClone [.d (.s 1 [e])] [] = some (.d (.s 1 [e]), none) := by
  rw [CL_fn rfl (show E0.fn nClone = some fClone from rfl) rfl]
  simp -implicitDefEqProofs [EX_skip, EX_ret, EX_exit, EX_kill, EX_seq, EX_cond, EX_block, EX_region, ROps_nil, ROps_cons, RK_mov, RK_pick, RK_bin, RK_conv, RK_beq, RK_aeq, RK_nileq, RK_un, RK_box, RK_new, RK_load, RK_store, RK_faddr, RK_field, RK_iaddr, RK_aaddr, RK_index, RK_build, RK_lit, RK_len, RK_maxi, RK_mini, RK_app, RK_slice, RK_mk, RK_ext, RK_clo, RK_call, RK_callv, guardV, runK, argV, argsV, doCall, callPure, D.cells, FV.cells, FV.one, D.one, oneV, St.push, St.heap, St.setHeap, splice, partF, partD, s_add, s_sub, s_mul, s_quo, s_rem, s_or, s_and, s_xor, s_shl, s_shr, s_eql, s_neq, s_lss, s_leq, s_gtr, s_geq, unV, setVars, killVars, apartOk, finish, ressV, resV, leavesL, leaves, leaveL, leave1, allD, mkA, fillF, finish2, isPure, oneOf, freezeAll, FV.rows, FV.rows1, D.norm, D.norm1, scalar, D.isV, FV.shift, FV.shiftL, AObj.shift, pureElem, fillE, elems, FStmt.l, FStmt.r, FStmt.bl, FStmt.lp, f230, AObj.view, most]

/-- In lowest terms. -/
def lowN (n d : Nat) : Nat := n / Nat.gcd n d
def lowD (n d : Nat) : Nat := d / Nat.gcd n d

theorem okQ_low {neg : Bool} {n d : Nat} (hn : n < 4294967296) (hd : d < 4294967296) (hd0 : 0 < d) (h0 : n = 0 → neg = false) : okQ neg (lowN n d) (lowD n d) := by
  have hg : 0 < Nat.gcd n d := Nat.gcd_pos_of_pos_right n hd0
  refine ⟨?_, ?_, ?_, ?_, ?_⟩
  · exact Nat.lt_of_le_of_lt (Nat.div_le_self _ _) hn
  · exact Nat.div_pos (Nat.le_of_dvd hd0 (Nat.gcd_dvd_right n d)) hg
  · exact Nat.lt_of_le_of_lt (Nat.div_le_self _ _) hd
  · exact Nat.gcd_div_gcd_div_gcd_of_pos_right hd0
  · intro h
    unfold lowN at h
    have hn0 : n = 0 := by
      rcases Nat.eq_zero_or_pos n with h1 | h1
      · exact h1
      · have := Nat.div_pos (Nat.le_of_dvd h1 (Nat.gcd_dvd_left n d)) hg
        omega
    subst hn0
    refine ⟨h0 rfl, ?_⟩
    unfold lowD
    rw [Nat.gcd_zero_left]
    exact Nat.div_self hd0

theorem ca_rat {neg : Bool} {n d : Nat} (hn : n < 4294967296) (hd : d < 4294967296) (hd0 : 0 < d) : Ca E0 nRat [.d (fq neg n d)] (.d (rq (if n = 0 then false else neg) (lowN n d) (lowD n d)), none) := by
  have o1 := run_one
  rcases Nat.eq_zero_or_pos n with rfl | hn0
  · have e1 : lowN 0 d = 0 := by simp [lowN]
    have e2 : lowD 0 d = 1 := by unfold lowD; rw [Nat.gcd_zero_left]; exact Nat.div_self hd0
    rw [e1, e2]
    refine Ca.ofS (n := 60) ?_
    rw [CL_fn rfl (show E0.fn nRat = some fRat from rfl) rfl]
    simp only [fq, rq, enc_zero, if_true, LD, LL, List.map_nil]
    generalize List.map (fun (x : Nat) => D.v (Value.int IntKind.u32 (x : Int))) (enc d) = ds at *
    simp -implicitDefEqProofs [EX_skip, EX_ret, EX_exit, EX_kill, EX_seq, EX_cond, EX_block, EX_region, ROps_nil, ROps_cons, RK_mov, RK_pick, RK_bin, RK_conv, RK_beq, RK_aeq, RK_nileq, RK_un, RK_box, RK_new, RK_load, RK_store, RK_faddr, RK_field, RK_iaddr, RK_aaddr, RK_index, RK_build, RK_lit, RK_len, RK_maxi, RK_mini, RK_app, RK_slice, RK_mk, RK_ext, RK_clo, RK_call, RK_callv, guardV, runK, argV, argsV, doCall, callPure, D.cells, FV.cells, FV.one, D.one, oneV, St.push, St.heap, St.setHeap, splice, partF, partD, s_add, s_sub, s_mul, s_quo, s_rem, s_or, s_and, s_xor, s_shl, s_shr, s_eql, s_neq, s_lss, s_leq, s_gtr, s_geq, unV, setVars, killVars, apartOk, finish, ressV, resV, leavesL, leaves, leaveL, leave1, allD, mkA, fillF, finish2, isPure, oneOf, freezeAll, FV.rows, FV.rows1, D.norm, D.norm1, scalar, D.isV, FV.shift, FV.shiftL, AObj.shift, pureElem, fillE, elems, FStmt.l, FStmt.r, FStmt.bl, FStmt.lp, f187]
  · rw [if_neg (by omega)]
    have hg : 0 < Nat.gcd n d := Nat.gcd_pos_of_pos_right n hd0
    have hgl : Nat.gcd n d < 4294967296 := Nat.lt_of_le_of_lt (Nat.le_of_dvd hd0 (Nat.gcd_dvd_right n d)) hd
    obtain ⟨n1, c1⟩ := (ca_gcd1 n d (by have := enc_len1 hn; omega) hd).any
    have l1 := enc_len1 (n := 1) (by omega)
    obtain ⟨n2, c2⟩ := (ca_cmp (enc (Nat.gcd n d)) (enc 1) (by have := enc_len1 hgl; omega) (by omega) (lim_enc _) (lim_enc _)).any
    obtain ⟨n3, c3⟩ := (ca_over1 (enc n) (Nat.gcd n d) (by have := enc_len1 hn; omega) (lim_enc _) hgl hg).any
    obtain ⟨n4, c4⟩ := (ca_over1 (enc d) (Nat.gcd n d) (by have := enc_len1 hd; omega) (lim_enc _) hgl hg).any
    have hdl : lowD n d < 4294967296 := Nat.lt_of_le_of_lt (Nat.div_le_self _ _) hd
    have hdp : 0 < lowD n d := Nat.div_pos (Nat.le_of_dvd hd0 (Nat.gcd_dvd_right n d)) hg
    obtain ⟨n5, c5⟩ := (ca_cmp (enc (lowD n d)) (enc 1) (by have := enc_len1 hdl; omega) (by omega) (lim_enc _) (lim_enc _)).any
    replace c1 := c1 (n1 + n2 + n3 + n4 + n5) (by omega)
    replace c2 := c2 (n1 + n2 + n3 + n4 + n5) (by omega)
    replace c3 := c3 (n1 + n2 + n3 + n4 + n5) (by omega)
    replace c4 := c4 (n1 + n2 + n3 + n4 + n5) (by omega)
    replace c5 := c5 (n1 + n2 + n3 + n4 + n5) (by omega)
    generalize n1 + n2 + n3 + n4 + n5 = N at *
    simp only [val_enc] at c2 c3 c4 c5
    rw [LD_one] at c2 c5
    have en : LD (enc n) = .s 1 [.v (.int .u32 (n : Int))] := by rw [enc_small hn0 hn]; rfl
    have ed : LD (enc d) = .s 1 [.v (.int .u32 (d : Int))] := by rw [enc_small hd0 hd]; rfl
    have k1 := fun m => run_clone1 m (.v (.int .u32 (n : Int)))
    have k2 := fun m => run_clone1 m (.v (.int .u32 (d : Int)))
    refine Ca.ofS (n := N + 80) ?_
    rw [CL_fn rfl (show E0.fn nRat = some fRat from rfl) rfl]
    unfold lowN
    by_cases h1 : Nat.gcd n d = 1
    · have e1 : cmpN (Nat.gcd n d) 1 = 0 := by rw [h1]; simp [cmpN]
      have e3 : lowD n d = d := by unfold lowD; rw [h1, Nat.div_one]
      rw [e1] at c2
      rw [e3] at c5 ⊢
      rw [h1, Nat.div_one]
      rw [h1] at c1 c2
      by_cases hd1 : d = 1
      · have e2 : cmpN d 1 = 0 := by rw [hd1]; simp [cmpN]
        rw [e2] at c5
        simp only [fq, rq, if_pos hd1]
        simp only [en, ed] at c1 c3 c4 c5 ⊢
        rw [LD_one] at c1 c2
        simp only [LD, LL, List.map_nil]
        simp -implicitDefEqProofs [EX_skip, EX_ret, EX_exit, EX_kill, EX_seq, EX_cond, EX_block, EX_region, ROps_nil, ROps_cons, RK_mov, RK_pick, RK_bin, RK_conv, RK_beq, RK_aeq, RK_nileq, RK_un, RK_box, RK_new, RK_load, RK_store, RK_faddr, RK_field, RK_iaddr, RK_aaddr, RK_index, RK_build, RK_lit, RK_len, RK_maxi, RK_mini, RK_app, RK_slice, RK_mk, RK_ext, RK_clo, RK_call, RK_callv, guardV, runK, argV, argsV, doCall, callPure, D.cells, FV.cells, FV.one, D.one, oneV, St.push, St.heap, St.setHeap, splice, partF, partD, s_add, s_sub, s_mul, s_quo, s_rem, s_or, s_and, s_xor, s_shl, s_shr, s_eql, s_neq, s_lss, s_leq, s_gtr, s_geq, unV, setVars, killVars, apartOk, finish, ressV, resV, leavesL, leaves, leaveL, leave1, allD, mkA, fillF, finish2, isPure, oneOf, freezeAll, FV.rows, FV.rows1, D.norm, D.norm1, scalar, D.isV, FV.shift, FV.shiftL, AObj.shift, pureElem, fillE, elems, FStmt.l, FStmt.r, FStmt.bl, FStmt.lp, f187, o1, c1, c2, c5, k1, k2]
      · have e2 : cmpN d 1 = 1 := by unfold cmpN; rw [if_neg (by omega), if_neg (by omega)]
        rw [e2] at c5
        simp only [fq, rq, if_neg hd1]
        simp only [en, ed] at c1 c3 c4 c5 ⊢
        rw [LD_one] at c1 c2
        simp -implicitDefEqProofs [EX_skip, EX_ret, EX_exit, EX_kill, EX_seq, EX_cond, EX_block, EX_region, ROps_nil, ROps_cons, RK_mov, RK_pick, RK_bin, RK_conv, RK_beq, RK_aeq, RK_nileq, RK_un, RK_box, RK_new, RK_load, RK_store, RK_faddr, RK_field, RK_iaddr, RK_aaddr, RK_index, RK_build, RK_lit, RK_len, RK_maxi, RK_mini, RK_app, RK_slice, RK_mk, RK_ext, RK_clo, RK_call, RK_callv, guardV, runK, argV, argsV, doCall, callPure, D.cells, FV.cells, FV.one, D.one, oneV, St.push, St.heap, St.setHeap, splice, partF, partD, s_add, s_sub, s_mul, s_quo, s_rem, s_or, s_and, s_xor, s_shl, s_shr, s_eql, s_neq, s_lss, s_leq, s_gtr, s_geq, unV, setVars, killVars, apartOk, finish, ressV, resV, leavesL, leaves, leaveL, leave1, allD, mkA, fillF, finish2, isPure, oneOf, freezeAll, FV.rows, FV.rows1, D.norm, D.norm1, scalar, D.isV, FV.shift, FV.shiftL, AObj.shift, pureElem, fillE, elems, FStmt.l, FStmt.r, FStmt.bl, FStmt.lp, f187, o1, c1, c2, c5, k1, k2]
    · have e1 : cmpN (Nat.gcd n d) 1 = 1 := by unfold cmpN; rw [if_neg (by omega), if_neg h1]
      rw [e1] at c2
      have e4 : d / Nat.gcd n d = lowD n d := rfl
      rw [e4] at c4
      generalize Nat.gcd n d = g at *
      by_cases hd1 : lowD n d = 1
      · have e2 : cmpN (lowD n d) 1 = 0 := by rw [hd1]; simp [cmpN]
        rw [e2] at c5
        simp only [fq, rq, if_pos hd1]
        simp only [en, ed] at c1 c3 c4 ⊢
        generalize lowD n d = dd at *
        simp only [LD] at c1 c2 c3 c4 c5 ⊢
        generalize LL (enc g) = gs at *
        generalize LL (enc (n / g)) = qs at *
        generalize LL (enc dd) = es at *
        generalize LL (enc (n % g)) = x1 at *
        generalize LL (enc (d % g)) = x2 at *
        simp only [LL, List.map_nil]
        simp -implicitDefEqProofs [EX_skip, EX_ret, EX_exit, EX_kill, EX_seq, EX_cond, EX_block, EX_region, ROps_nil, ROps_cons, RK_mov, RK_pick, RK_bin, RK_conv, RK_beq, RK_aeq, RK_nileq, RK_un, RK_box, RK_new, RK_load, RK_store, RK_faddr, RK_field, RK_iaddr, RK_aaddr, RK_index, RK_build, RK_lit, RK_len, RK_maxi, RK_mini, RK_app, RK_slice, RK_mk, RK_ext, RK_clo, RK_call, RK_callv, guardV, runK, argV, argsV, doCall, callPure, D.cells, FV.cells, FV.one, D.one, oneV, St.push, St.heap, St.setHeap, splice, partF, partD, s_add, s_sub, s_mul, s_quo, s_rem, s_or, s_and, s_xor, s_shl, s_shr, s_eql, s_neq, s_lss, s_leq, s_gtr, s_geq, unV, setVars, killVars, apartOk, finish, ressV, resV, leavesL, leaves, leaveL, leave1, allD, mkA, fillF, finish2, isPure, oneOf, freezeAll, FV.rows, FV.rows1, D.norm, D.norm1, scalar, D.isV, FV.shift, FV.shiftL, AObj.shift, pureElem, fillE, elems, FStmt.l, FStmt.r, FStmt.bl, FStmt.lp, f187, o1, c1, c2, c3, c4, c5, k1, k2]
      · have e2 : cmpN (lowD n d) 1 = 1 := by unfold cmpN; rw [if_neg (by omega), if_neg hd1]
        rw [e2] at c5
        simp only [fq, rq, if_neg hd1]
        simp only [en, ed] at c1 c3 c4 ⊢
        generalize lowD n d = dd at *
        simp only [LD] at c1 c2 c3 c4 c5 ⊢
        generalize LL (enc g) = gs at *
        generalize LL (enc (n / g)) = qs at *
        generalize LL (enc dd) = es at *
        generalize LL (enc (n % g)) = x1 at *
        generalize LL (enc (d % g)) = x2 at *
        simp -implicitDefEqProofs [EX_skip, EX_ret, EX_exit, EX_kill, EX_seq, EX_cond, EX_block, EX_region, ROps_nil, ROps_cons, RK_mov, RK_pick, RK_bin, RK_conv, RK_beq, RK_aeq, RK_nileq, RK_un, RK_box, RK_new, RK_load, RK_store, RK_faddr, RK_field, RK_iaddr, RK_aaddr, RK_index, RK_build, RK_lit, RK_len, RK_maxi, RK_mini, RK_app, RK_slice, RK_mk, RK_ext, RK_clo, RK_call, RK_callv, guardV, runK, argV, argsV, doCall, callPure, D.cells, FV.cells, FV.one, D.one, oneV, St.push, St.heap, St.setHeap, splice, partF, partD, s_add, s_sub, s_mul, s_quo, s_rem, s_or, s_and, s_xor, s_shl, s_shr, s_eql, s_neq, s_lss, s_leq, s_gtr, s_geq, unV, setVars, killVars, apartOk, finish, ressV, resV, leavesL, leaves, leaveL, leave1, allD, mkA, fillF, finish2, isPure, oneOf, freezeAll, FV.rows, FV.rows1, D.norm, D.norm1, scalar, D.isV, FV.shift, FV.shiftL, AObj.shift, pureElem, fillE, elems, FStmt.l, FStmt.r, FStmt.bl, FStmt.lp, f187, o1, c1, c2, c3, c4, c5, k1, k2]
end Fi.S
namespace Fi.S
open Go Fi
set_option maxHeartbeats 8000000

abbrev nFPlus : Nat := 186
abbrev fFPlus : FFunc := f186
abbrev nNegv : Nat := 232
abbrev fNegv : FFunc := f232
abbrev nMul : Nat := 116
abbrev fMul : FFunc := f116
abbrev nAdd : Nat := 114
abbrev fAdd : FFunc := f114
abbrev nSub : Nat := 191
abbrev fSub : FFunc := f191

theorem mul_small {a b : Nat} (ha : a < 32768) (hb : b < 32768) : a * b < 1073741824 := by
  have := Nat.mul_le_mul (Nat.le_of_lt_succ (Nat.lt_succ_of_le (Nat.le_of_lt ha))) (Nat.le_of_lt hb)
  rcases Nat.eq_zero_or_pos a with h | h
  · subst h; omega
  · have h1 : a * b < a * 32768 := Nat.mul_lt_mul_of_pos_left hb h
    omega

theorem ca_timesN {a b : Nat} (ha : a < 4294967296) (hb : b < 4294967296) : Ca E0 nTimes [.d (LD (enc a)), .d (LD (enc b))] (.d (LD (enc (a * b))), none) := by
  have := ca_times (enc a) (enc b) (by have := enc_len1 ha; omega) (by have := enc_len1 hb; omega) (lim_enc _) (lim_enc _)
  simpa only [val_enc] using this

theorem ca_plusN {a b : Nat} (ha : a < 4294967296) (hb : b < 4294967296) : Ca E0 nPlus [.d (LD (enc a)), .d (LD (enc b))] (.d (LD (enc (a + b))), none) := by
  have := ca_plus (enc a) (enc b) (by have := enc_len1 ha; omega) (by have := enc_len1 hb; omega) (lim_enc _) (lim_enc _)
  simpa only [val_enc] using this

theorem ca_minusN {a b : Nat} (ha : a < 4294967296) (hb : b ≤ a) : Ca E0 nMinus [.d (LD (enc a)), .d (LD (enc b))] (.d (LD (enc (a - b))), none) := by
  have := ca_minus (enc a) (enc b) (by have := enc_len1 ha; omega) (enc_length_mono hb) (lim_enc _) (lim_enc _) (by simpa only [val_enc] using hb)
  simpa only [val_enc] using this

theorem ca_cmpN {a b : Nat} (ha : a < 4294967296) (hb : b < 4294967296) : Ca E0 nCmp [.d (LD (enc a)), .d (LD (enc b))] (.d (.v (.int .i64 (cmpN a b))), none) := by
  have := ca_cmp (enc a) (enc b) (by have := enc_len1 ha; omega) (by have := enc_len1 hb; omega) (lim_enc _) (lim_enc _)
  simpa only [val_enc] using this

theorem ca_negv (s : Bool) (n d : Nat) : Ca E0 nNegv [.d (fq s n d)] (.d (fq (!s) n d), none) := by
  refine Ca.ofS (n := 60) ?_
  rw [CL_fn rfl (show E0.fn nNegv = some fNegv from rfl) rfl]
  simp only [fq, LD]
  generalize LL (enc n) = ns
  generalize LL (enc d) = ds
  simp -implicitDefEqProofs [EX_skip, EX_ret, EX_exit, EX_kill, EX_seq, EX_cond, EX_block, EX_region, ROps_nil, ROps_cons, RK_mov, RK_pick, RK_bin, RK_conv, RK_beq, RK_aeq, RK_nileq, RK_un, RK_box, RK_new, RK_load, RK_store, RK_faddr, RK_field, RK_iaddr, RK_aaddr, RK_index, RK_build, RK_lit, RK_len, RK_maxi, RK_mini, RK_app, RK_slice, RK_mk, RK_ext, RK_clo, RK_call, RK_callv, guardV, runK, argV, argsV, doCall, callPure, D.cells, FV.cells, FV.one, D.one, oneV, St.push, St.heap, St.setHeap, splice, partF, partD, s_add, s_sub, s_mul, s_quo, s_rem, s_or, s_and, s_xor, s_shl, s_shr, s_eql, s_neq, s_lss, s_leq, s_gtr, s_geq, unV, setVars, killVars, apartOk, finish, ressV, resV, leavesL, leaves, leaveL, leave1, allD, mkA, fillF, finish2, isPure, oneOf, freezeAll, FV.rows, FV.rows1, D.norm, D.norm1, scalar, D.isV, FV.shift, FV.shiftL, AObj.shift, pureElem, fillE, elems, FStmt.l, FStmt.r, FStmt.bl, FStmt.lp, f232]

/-- Sign and size of a sum. -/
def sumS (s1 : Bool) (a : Nat) (s2 : Bool) (b : Nat) : Bool := if s1 = s2 then s1 else if b ≤ a then s1 else s2
def sumN (s1 : Bool) (a : Nat) (s2 : Bool) (b : Nat) : Nat := if s1 = s2 then a + b else if b ≤ a then a - b else b - a

theorem ca_fplus (s1 s2 : Bool) {n1 d1 n2 d2 : Nat} (h1 : n1 < 32768) (h2 : d1 < 32768) (h3 : n2 < 32768) (h4 : d2 < 32768) :
    Ca E0 nFPlus [.d (fq s1 n1 d1), .d (fq s2 n2 d2)] (.d (fq (sumS s1 (n1 * d2) s2 (n2 * d1)) (sumN s1 (n1 * d2) s2 (n2 * d1)) (d1 * d2)), none) := by
  have b1 := mul_small h1 h4
  have b2 := mul_small h3 h2
  obtain ⟨k1, t1⟩ := (ca_timesN (a := n1) (b := d2) (by omega) (by omega)).any
  obtain ⟨k2, t2⟩ := (ca_timesN (a := n2) (b := d1) (by omega) (by omega)).any
  obtain ⟨k3, t3⟩ := (ca_timesN (a := d1) (b := d2) (by omega) (by omega)).any
  generalize n1 * d2 = a at *
  generalize n2 * d1 = b at *
  generalize d1 * d2 = d at *
  obtain ⟨k4, t4⟩ := (ca_plusN (a := a) (b := b) (by omega) (by omega)).any
  obtain ⟨k5, t5⟩ := (ca_cmpN (a := a) (b := b) (by omega) (by omega)).any
  by_cases hs : s1 = s2
  · subst hs
    replace t1 := t1 (k1 + k2 + k3 + k4) (by omega)
    replace t2 := t2 (k1 + k2 + k3 + k4) (by omega)
    replace t3 := t3 (k1 + k2 + k3 + k4) (by omega)
    replace t4 := t4 (k1 + k2 + k3 + k4) (by omega)
    generalize k1 + k2 + k3 + k4 = N at *
    refine Ca.ofS (n := N + 80) ?_
    rw [CL_fn rfl (show E0.fn nFPlus = some fFPlus from rfl) rfl]
    simp only [fq, sumS, sumN, if_true, LD] at *
    generalize LL (enc n1) = x1 at *
    generalize LL (enc n2) = x2 at *
    generalize LL (enc d1) = x3 at *
    generalize LL (enc d2) = x4 at *
    generalize LL (enc (a + b)) = x5 at *
    generalize LL (enc a) = x6 at *
    generalize LL (enc b) = x7 at *
    generalize LL (enc d) = x8 at *
    simp -implicitDefEqProofs [EX_skip, EX_ret, EX_exit, EX_kill, EX_seq, EX_cond, EX_block, EX_region, ROps_nil, ROps_cons, RK_mov, RK_pick, RK_bin, RK_conv, RK_beq, RK_aeq, RK_nileq, RK_un, RK_box, RK_new, RK_load, RK_store, RK_faddr, RK_field, RK_iaddr, RK_aaddr, RK_index, RK_build, RK_lit, RK_len, RK_maxi, RK_mini, RK_app, RK_slice, RK_mk, RK_ext, RK_clo, RK_call, RK_callv, guardV, runK, argV, argsV, doCall, callPure, D.cells, FV.cells, FV.one, D.one, oneV, St.push, St.heap, St.setHeap, splice, partF, partD, s_add, s_sub, s_mul, s_quo, s_rem, s_or, s_and, s_xor, s_shl, s_shr, s_eql, s_neq, s_lss, s_leq, s_gtr, s_geq, unV, setVars, killVars, apartOk, finish, ressV, resV, leavesL, leaves, leaveL, leave1, allD, mkA, fillF, finish2, isPure, oneOf, freezeAll, FV.rows, FV.rows1, D.norm, D.norm1, scalar, D.isV, FV.shift, FV.shiftL, AObj.shift, pureElem, fillE, elems, FStmt.l, FStmt.r, FStmt.bl, FStmt.lp, f186, t1, t2, t3, t4]
  · have hbq : (s1 == s2) = false := by simpa using hs
    by_cases hab : b ≤ a
    · obtain ⟨k6, t6⟩ := (ca_minusN (a := a) (b := b) (by omega) hab).any
      replace t1 := t1 (k1 + k2 + k3 + k5 + k6) (by omega)
      replace t2 := t2 (k1 + k2 + k3 + k5 + k6) (by omega)
      replace t3 := t3 (k1 + k2 + k3 + k5 + k6) (by omega)
      replace t5 := t5 (k1 + k2 + k3 + k5 + k6) (by omega)
      replace t6 := t6 (k1 + k2 + k3 + k5 + k6) (by omega)
      generalize k1 + k2 + k3 + k5 + k6 = N at *
      have hc : (0 : Int) ≤ cmpN a b := by unfold cmpN; rw [if_neg (by omega)]; split <;> omega
      refine Ca.ofS (n := N + 80) ?_
      rw [CL_fn rfl (show E0.fn nFPlus = some fFPlus from rfl) rfl]
      simp only [fq, sumS, sumN, if_neg hs, if_pos hab, LD] at *
      generalize cmpN a b = cc at *
      generalize LL (enc n1) = x1 at *
      generalize LL (enc n2) = x2 at *
      generalize LL (enc d1) = x3 at *
      generalize LL (enc d2) = x4 at *
      generalize LL (enc (a - b)) = x5 at *
      generalize LL (enc a) = x6 at *
      generalize LL (enc b) = x7 at *
      generalize LL (enc d) = x8 at *
      simp -implicitDefEqProofs [EX_skip, EX_ret, EX_exit, EX_kill, EX_seq, EX_cond, EX_block, EX_region, ROps_nil, ROps_cons, RK_mov, RK_pick, RK_bin, RK_conv, RK_beq, RK_aeq, RK_nileq, RK_un, RK_box, RK_new, RK_load, RK_store, RK_faddr, RK_field, RK_iaddr, RK_aaddr, RK_index, RK_build, RK_lit, RK_len, RK_maxi, RK_mini, RK_app, RK_slice, RK_mk, RK_ext, RK_clo, RK_call, RK_callv, guardV, runK, argV, argsV, doCall, callPure, D.cells, FV.cells, FV.one, D.one, oneV, St.push, St.heap, St.setHeap, splice, partF, partD, s_add, s_sub, s_mul, s_quo, s_rem, s_or, s_and, s_xor, s_shl, s_shr, s_eql, s_neq, s_lss, s_leq, s_gtr, s_geq, unV, setVars, killVars, apartOk, finish, ressV, resV, leavesL, leaves, leaveL, leave1, allD, mkA, fillF, finish2, isPure, oneOf, freezeAll, FV.rows, FV.rows1, D.norm, D.norm1, scalar, D.isV, FV.shift, FV.shiftL, AObj.shift, pureElem, fillE, elems, FStmt.l, FStmt.r, FStmt.bl, FStmt.lp, f186, t1, t2, t3, t5, t6, hbq, hc]
    · obtain ⟨k6, t6⟩ := (ca_minusN (a := b) (b := a) (by omega) (by omega)).any
      replace t1 := t1 (k1 + k2 + k3 + k5 + k6) (by omega)
      replace t2 := t2 (k1 + k2 + k3 + k5 + k6) (by omega)
      replace t3 := t3 (k1 + k2 + k3 + k5 + k6) (by omega)
      replace t5 := t5 (k1 + k2 + k3 + k5 + k6) (by omega)
      replace t6 := t6 (k1 + k2 + k3 + k5 + k6) (by omega)
      generalize k1 + k2 + k3 + k5 + k6 = N at *
      have hc : cmpN a b = -1 := by unfold cmpN; rw [if_pos (by omega)]
      rw [hc] at t5
      refine Ca.ofS (n := N + 80) ?_
      rw [CL_fn rfl (show E0.fn nFPlus = some fFPlus from rfl) rfl]
      simp only [fq, sumS, sumN, if_neg hs, if_neg hab, LD] at *
      generalize LL (enc n1) = x1 at *
      generalize LL (enc n2) = x2 at *
      generalize LL (enc d1) = x3 at *
      generalize LL (enc d2) = x4 at *
      generalize LL (enc (b - a)) = x5 at *
      generalize LL (enc a) = x6 at *
      generalize LL (enc b) = x7 at *
      generalize LL (enc d) = x8 at *
      simp -implicitDefEqProofs [EX_skip, EX_ret, EX_exit, EX_kill, EX_seq, EX_cond, EX_block, EX_region, ROps_nil, ROps_cons, RK_mov, RK_pick, RK_bin, RK_conv, RK_beq, RK_aeq, RK_nileq, RK_un, RK_box, RK_new, RK_load, RK_store, RK_faddr, RK_field, RK_iaddr, RK_aaddr, RK_index, RK_build, RK_lit, RK_len, RK_maxi, RK_mini, RK_app, RK_slice, RK_mk, RK_ext, RK_clo, RK_call, RK_callv, guardV, runK, argV, argsV, doCall, callPure, D.cells, FV.cells, FV.one, D.one, oneV, St.push, St.heap, St.setHeap, splice, partF, partD, s_add, s_sub, s_mul, s_quo, s_rem, s_or, s_and, s_xor, s_shl, s_shr, s_eql, s_neq, s_lss, s_leq, s_gtr, s_geq, unV, setVars, killVars, apartOk, finish, ressV, resV, leavesL, leaves, leaveL, leave1, allD, mkA, fillF, finish2, isPure, oneOf, freezeAll, FV.rows, FV.rows1, D.norm, D.norm1, scalar, D.isV, FV.shift, FV.shiftL, AObj.shift, pureElem, fillE, elems, FStmt.l, FStmt.r, FStmt.bl, FStmt.lp, f186, t1, t2, t3, t5, t6, hbq]
end Fi.S
namespace Fi.S
open Go Fi
set_option maxHeartbeats 8000000

abbrev nSign : Nat := 134
abbrev fSign : FFunc := f134
abbrev nCompare : Nat := 135
abbrev fCompare : FFunc := f135

/-- A fraction, as a number in lowest terms. -/
def lowQ (s : Bool) (n d : Nat) : D := rq (if n = 0 then false else s) (lowN n d) (lowD n d)

theorem ca_mul {s1 s2 : Bool} {n1 d1 n2 d2 : Nat} (o1 : okQ s1 n1 d1) (o2 : okQ s2 n2 d2) (h1 : n1 < 32768) (h2 : d1 < 32768) (h3 : n2 < 32768) (h4 : d2 < 32768) :
    Ca E0 nMul [.d (rq s1 n1 d1), .d (rq s2 n2 d2)] (.d (lowQ (s1 != s2) (n1 * n2) (d1 * d2)), none) := by
  have b1 := mul_small h1 h3
  have b2 := mul_small h2 h4
  have b3 : 0 < d1 * d2 := Nat.mul_pos o1.2.1 o2.2.1
  obtain ⟨k1, t1⟩ := (ca_of o1).any
  obtain ⟨k2, t2⟩ := (ca_of o2).any
  obtain ⟨k3, t3⟩ := (ca_timesN (a := n1) (b := n2) (by omega) (by omega)).any
  obtain ⟨k4, t4⟩ := (ca_timesN (a := d1) (b := d2) (by omega) (by omega)).any
  generalize n1 * n2 = n at *
  generalize d1 * d2 = d at *
  obtain ⟨k5, t5⟩ := (ca_rat (neg := s1 != s2) (n := n) (d := d) (by omega) (by omega) b3).any
  replace t1 := t1 (k1 + k2 + k3 + k4 + k5) (by omega)
  replace t2 := t2 (k1 + k2 + k3 + k4 + k5) (by omega)
  replace t3 := t3 (k1 + k2 + k3 + k4 + k5) (by omega)
  replace t4 := t4 (k1 + k2 + k3 + k4 + k5) (by omega)
  replace t5 := t5 (k1 + k2 + k3 + k4 + k5) (by omega)
  generalize k1 + k2 + k3 + k4 + k5 = N at *
  refine Ca.ofS (n := N + 80) ?_
  rw [CL_fn rfl (show E0.fn nMul = some fMul from rfl) rfl]
  simp only [lowQ, fq, rq, LD] at *
  generalize LL (enc n1) = x1 at *
  generalize LL (enc n2) = x2 at *
  generalize LL (enc d1) = x3 at *
  generalize LL (enc d2) = x4 at *
  generalize LL (if d1 = 1 then [] else enc d1) = x5 at *
  generalize LL (if d2 = 1 then [] else enc d2) = x6 at *
  generalize LL (enc n) = x7 at *
  generalize LL (enc d) = x8 at *
  generalize LL (enc (lowN n d)) = x9 at *
  generalize LL (if lowD n d = 1 then [] else enc (lowD n d)) = y1 at *
  generalize (if n = 0 then false else s1 != s2) = sg at *
  simp only [bne] at t5
  simp -implicitDefEqProofs [EX_skip, EX_ret, EX_exit, EX_kill, EX_seq, EX_cond, EX_block, EX_region, ROps_nil, ROps_cons, RK_mov, RK_pick, RK_bin, RK_conv, RK_beq, RK_aeq, RK_nileq, RK_un, RK_box, RK_new, RK_load, RK_store, RK_faddr, RK_field, RK_iaddr, RK_aaddr, RK_index, RK_build, RK_lit, RK_len, RK_maxi, RK_mini, RK_app, RK_slice, RK_mk, RK_ext, RK_clo, RK_call, RK_callv, guardV, runK, argV, argsV, doCall, callPure, D.cells, FV.cells, FV.one, D.one, oneV, St.push, St.heap, St.setHeap, splice, partF, partD, s_add, s_sub, s_mul, s_quo, s_rem, s_or, s_and, s_xor, s_shl, s_shr, s_eql, s_neq, s_lss, s_leq, s_gtr, s_geq, unV, setVars, killVars, apartOk, finish, ressV, resV, leavesL, leaves, leaveL, leave1, allD, mkA, fillF, finish2, isPure, oneOf, freezeAll, FV.rows, FV.rows1, D.norm, D.norm1, scalar, D.isV, FV.shift, FV.shiftL, AObj.shift, pureElem, fillE, elems, FStmt.l, FStmt.r, FStmt.bl, FStmt.lp, f116, t1, t2, t3, t4, t5]

theorem sum_small (s1 s2 : Bool) {n1 d1 n2 d2 : Nat} (h1 : n1 < 32768) (h2 : d1 < 32768) (h3 : n2 < 32768) (h4 : d2 < 32768) : sumN s1 (n1 * d2) s2 (n2 * d1) < 4294967296 := by
  have b1 := mul_small h1 h4
  have b2 := mul_small h3 h2
  unfold sumN
  split
  · omega
  · split <;> omega

theorem ca_add {s1 s2 : Bool} {n1 d1 n2 d2 : Nat} (o1 : okQ s1 n1 d1) (o2 : okQ s2 n2 d2) (h1 : n1 < 32768) (h2 : d1 < 32768) (h3 : n2 < 32768) (h4 : d2 < 32768) :
    Ca E0 nAdd [.d (rq s1 n1 d1), .d (rq s2 n2 d2)] (.d (lowQ (sumS s1 (n1 * d2) s2 (n2 * d1)) (sumN s1 (n1 * d2) s2 (n2 * d1)) (d1 * d2)), none) := by
  have b2 := mul_small h2 h4
  have b3 : 0 < d1 * d2 := Nat.mul_pos o1.2.1 o2.2.1
  have b4 := sum_small s1 s2 h1 h2 h3 h4
  obtain ⟨k1, t1⟩ := (ca_of o1).any
  obtain ⟨k2, t2⟩ := (ca_of o2).any
  obtain ⟨k3, t3⟩ := (ca_fplus s1 s2 h1 h2 h3 h4).any
  generalize sumN s1 (n1 * d2) s2 (n2 * d1) = n at *
  generalize sumS s1 (n1 * d2) s2 (n2 * d1) = sg at *
  generalize d1 * d2 = d at *
  obtain ⟨k5, t5⟩ := (ca_rat (neg := sg) (n := n) (d := d) b4 (by omega) b3).any
  replace t1 := t1 (k1 + k2 + k3 + k5) (by omega)
  replace t2 := t2 (k1 + k2 + k3 + k5) (by omega)
  replace t3 := t3 (k1 + k2 + k3 + k5) (by omega)
  replace t5 := t5 (k1 + k2 + k3 + k5) (by omega)
  generalize k1 + k2 + k3 + k5 = N at *
  refine Ca.ofS (n := N + 80) ?_
  rw [CL_fn rfl (show E0.fn nAdd = some fAdd from rfl) rfl]
  simp only [lowQ, fq, rq, LD] at *
  generalize LL (enc n1) = x1 at *
  generalize LL (enc n2) = x2 at *
  generalize LL (enc d1) = x3 at *
  generalize LL (enc d2) = x4 at *
  generalize LL (if d1 = 1 then [] else enc d1) = x5 at *
  generalize LL (if d2 = 1 then [] else enc d2) = x6 at *
  generalize LL (enc n) = x7 at *
  generalize LL (enc d) = x8 at *
  generalize LL (enc (lowN n d)) = x9 at *
  generalize LL (if lowD n d = 1 then [] else enc (lowD n d)) = y1 at *
  generalize (if n = 0 then false else sg) = sh at *
  simp -implicitDefEqProofs [EX_skip, EX_ret, EX_exit, EX_kill, EX_seq, EX_cond, EX_block, EX_region, ROps_nil, ROps_cons, RK_mov, RK_pick, RK_bin, RK_conv, RK_beq, RK_aeq, RK_nileq, RK_un, RK_box, RK_new, RK_load, RK_store, RK_faddr, RK_field, RK_iaddr, RK_aaddr, RK_index, RK_build, RK_lit, RK_len, RK_maxi, RK_mini, RK_app, RK_slice, RK_mk, RK_ext, RK_clo, RK_call, RK_callv, guardV, runK, argV, argsV, doCall, callPure, D.cells, FV.cells, FV.one, D.one, oneV, St.push, St.heap, St.setHeap, splice, partF, partD, s_add, s_sub, s_mul, s_quo, s_rem, s_or, s_and, s_xor, s_shl, s_shr, s_eql, s_neq, s_lss, s_leq, s_gtr, s_geq, unV, setVars, killVars, apartOk, finish, ressV, resV, leavesL, leaves, leaveL, leave1, allD, mkA, fillF, finish2, isPure, oneOf, freezeAll, FV.rows, FV.rows1, D.norm, D.norm1, scalar, D.isV, FV.shift, FV.shiftL, AObj.shift, pureElem, fillE, elems, FStmt.l, FStmt.r, FStmt.bl, FStmt.lp, f114, t1, t2, t3, t5]

theorem ca_sub {s1 s2 : Bool} {n1 d1 n2 d2 : Nat} (o1 : okQ s1 n1 d1) (o2 : okQ s2 n2 d2) (h1 : n1 < 32768) (h2 : d1 < 32768) (h3 : n2 < 32768) (h4 : d2 < 32768) :
    Ca E0 nSub [.d (rq s1 n1 d1), .d (rq s2 n2 d2)] (.d (lowQ (sumS s1 (n1 * d2) (!s2) (n2 * d1)) (sumN s1 (n1 * d2) (!s2) (n2 * d1)) (d1 * d2)), none) := by
  have b2 := mul_small h2 h4
  have b3 : 0 < d1 * d2 := Nat.mul_pos o1.2.1 o2.2.1
  have b4 := sum_small s1 (!s2) h1 h2 h3 h4
  obtain ⟨k1, t1⟩ := (ca_of o1).any
  obtain ⟨k2, t2⟩ := (ca_of o2).any
  obtain ⟨k3, t3⟩ := (ca_fplus s1 (!s2) h1 h2 h3 h4).any
  obtain ⟨k4, t4⟩ := (ca_negv s2 n2 d2).any
  generalize sumN s1 (n1 * d2) (!s2) (n2 * d1) = n at *
  generalize sumS s1 (n1 * d2) (!s2) (n2 * d1) = sg at *
  generalize d1 * d2 = d at *
  obtain ⟨k5, t5⟩ := (ca_rat (neg := sg) (n := n) (d := d) b4 (by omega) b3).any
  replace t1 := t1 (k1 + k2 + k3 + k4 + k5) (by omega)
  replace t2 := t2 (k1 + k2 + k3 + k4 + k5) (by omega)
  replace t3 := t3 (k1 + k2 + k3 + k4 + k5) (by omega)
  replace t4 := t4 (k1 + k2 + k3 + k4 + k5) (by omega)
  replace t5 := t5 (k1 + k2 + k3 + k4 + k5) (by omega)
  generalize k1 + k2 + k3 + k4 + k5 = N at *
  refine Ca.ofS (n := N + 80) ?_
  rw [CL_fn rfl (show E0.fn nSub = some fSub from rfl) rfl]
  generalize (!s2) = s3 at *
  simp only [lowQ, fq, rq, LD] at *
  generalize LL (enc n1) = x1 at *
  generalize LL (enc n2) = x2 at *
  generalize LL (enc d1) = x3 at *
  generalize LL (enc d2) = x4 at *
  generalize LL (if d1 = 1 then [] else enc d1) = x5 at *
  generalize LL (if d2 = 1 then [] else enc d2) = x6 at *
  generalize LL (enc n) = x7 at *
  generalize LL (enc d) = x8 at *
  generalize LL (enc (lowN n d)) = x9 at *
  generalize LL (if lowD n d = 1 then [] else enc (lowD n d)) = y1 at *
  generalize (if n = 0 then false else sg) = sh at *
  simp -implicitDefEqProofs [EX_skip, EX_ret, EX_exit, EX_kill, EX_seq, EX_cond, EX_block, EX_region, ROps_nil, ROps_cons, RK_mov, RK_pick, RK_bin, RK_conv, RK_beq, RK_aeq, RK_nileq, RK_un, RK_box, RK_new, RK_load, RK_store, RK_faddr, RK_field, RK_iaddr, RK_aaddr, RK_index, RK_build, RK_lit, RK_len, RK_maxi, RK_mini, RK_app, RK_slice, RK_mk, RK_ext, RK_clo, RK_call, RK_callv, guardV, runK, argV, argsV, doCall, callPure, D.cells, FV.cells, FV.one, D.one, oneV, St.push, St.heap, St.setHeap, splice, partF, partD, s_add, s_sub, s_mul, s_quo, s_rem, s_or, s_and, s_xor, s_shl, s_shr, s_eql, s_neq, s_lss, s_leq, s_gtr, s_geq, unV, setVars, killVars, apartOk, finish, ressV, resV, leavesL, leaves, leaveL, leave1, allD, mkA, fillF, finish2, isPure, oneOf, freezeAll, FV.rows, FV.rows1, D.norm, D.norm1, scalar, D.isV, FV.shift, FV.shiftL, AObj.shift, pureElem, fillE, elems, FStmt.l, FStmt.r, FStmt.bl, FStmt.lp, f191, t1, t2, t3, t4, t5]

/-- -1, 0 or 1. -/
def sgn (s : Bool) (n : Nat) : Int := if n = 0 then 0 else if s = true then -1 else 1

theorem ca_sign {s : Bool} {n d : Nat} (o : okQ s n d) : Ca E0 nSign [.d (rq s n d)] (.d (.v (.int .i64 (sgn s n))), none) := by
  obtain ⟨N, t⟩ := (ca_of o).get
  obtain ⟨h1, h2, h3, h4, h5⟩ := o
  refine Ca.ofS (n := N + 60) ?_
  rw [CL_fn rfl (show E0.fn nSign = some fSign from rfl) rfl]
  rcases Nat.eq_zero_or_pos n with rfl | hn
  · simp only [fq, rq, LD, sgn, if_true, enc_zero] at *
    generalize LL (enc d) = x1 at *
    generalize LL (if d = 1 then [] else enc d) = x2 at *
    simp only [LL, List.map_nil] at *
    simp -implicitDefEqProofs [EX_skip, EX_ret, EX_exit, EX_kill, EX_seq, EX_cond, EX_block, EX_region, ROps_nil, ROps_cons, RK_mov, RK_pick, RK_bin, RK_conv, RK_beq, RK_aeq, RK_nileq, RK_un, RK_box, RK_new, RK_load, RK_store, RK_faddr, RK_field, RK_iaddr, RK_aaddr, RK_index, RK_build, RK_lit, RK_len, RK_maxi, RK_mini, RK_app, RK_slice, RK_mk, RK_ext, RK_clo, RK_call, RK_callv, guardV, runK, argV, argsV, doCall, callPure, D.cells, FV.cells, FV.one, D.one, oneV, St.push, St.heap, St.setHeap, splice, partF, partD, s_add, s_sub, s_mul, s_quo, s_rem, s_or, s_and, s_xor, s_shl, s_shr, s_eql, s_neq, s_lss, s_leq, s_gtr, s_geq, unV, setVars, killVars, apartOk, finish, ressV, resV, leavesL, leaves, leaveL, leave1, allD, mkA, fillF, finish2, isPure, oneOf, freezeAll, FV.rows, FV.rows1, D.norm, D.norm1, scalar, D.isV, FV.shift, FV.shiftL, AObj.shift, pureElem, fillE, elems, FStmt.l, FStmt.r, FStmt.bl, FStmt.lp, f134, t]
  · have hlen : (LL (enc n)).length = 1 := by rw [enc_small hn h1]; rfl
    have hne : ¬ n = 0 := by omega
    simp only [fq, rq, LD, sgn, if_neg hne] at *
    generalize LL (enc n) = x0 at *
    generalize LL (enc d) = x1 at *
    generalize LL (if d = 1 then [] else enc d) = x2 at *
    cases s
    · simp -implicitDefEqProofs [EX_skip, EX_ret, EX_exit, EX_kill, EX_seq, EX_cond, EX_block, EX_region, ROps_nil, ROps_cons, RK_mov, RK_pick, RK_bin, RK_conv, RK_beq, RK_aeq, RK_nileq, RK_un, RK_box, RK_new, RK_load, RK_store, RK_faddr, RK_field, RK_iaddr, RK_aaddr, RK_index, RK_build, RK_lit, RK_len, RK_maxi, RK_mini, RK_app, RK_slice, RK_mk, RK_ext, RK_clo, RK_call, RK_callv, guardV, runK, argV, argsV, doCall, callPure, D.cells, FV.cells, FV.one, D.one, oneV, St.push, St.heap, St.setHeap, splice, partF, partD, s_add, s_sub, s_mul, s_quo, s_rem, s_or, s_and, s_xor, s_shl, s_shr, s_eql, s_neq, s_lss, s_leq, s_gtr, s_geq, unV, setVars, killVars, apartOk, finish, ressV, resV, leavesL, leaves, leaveL, leave1, allD, mkA, fillF, finish2, isPure, oneOf, freezeAll, FV.rows, FV.rows1, D.norm, D.norm1, scalar, D.isV, FV.shift, FV.shiftL, AObj.shift, pureElem, fillE, elems, FStmt.l, FStmt.r, FStmt.bl, FStmt.lp, f134, t, hlen]
    · simp -implicitDefEqProofs [EX_skip, EX_ret, EX_exit, EX_kill, EX_seq, EX_cond, EX_block, EX_region, ROps_nil, ROps_cons, RK_mov, RK_pick, RK_bin, RK_conv, RK_beq, RK_aeq, RK_nileq, RK_un, RK_box, RK_new, RK_load, RK_store, RK_faddr, RK_field, RK_iaddr, RK_aaddr, RK_index, RK_build, RK_lit, RK_len, RK_maxi, RK_mini, RK_app, RK_slice, RK_mk, RK_ext, RK_clo, RK_call, RK_callv, guardV, runK, argV, argsV, doCall, callPure, D.cells, FV.cells, FV.one, D.one, oneV, St.push, St.heap, St.setHeap, splice, partF, partD, s_add, s_sub, s_mul, s_quo, s_rem, s_or, s_and, s_xor, s_shl, s_shr, s_eql, s_neq, s_lss, s_leq, s_gtr, s_geq, unV, setVars, killVars, apartOk, finish, ressV, resV, leavesL, leaves, leaveL, leave1, allD, mkA, fillF, finish2, isPure, oneOf, freezeAll, FV.rows, FV.rows1, D.norm, D.norm1, scalar, D.isV, FV.shift, FV.shiftL, AObj.shift, pureElem, fillE, elems, FStmt.l, FStmt.r, FStmt.bl, FStmt.lp, f134, t, hlen]

/-- How two numbers compare. -/
def cmpQ (s1 : Bool) (n1 d1 : Nat) (s2 : Bool) (n2 d2 : Nat) : Int := sgn (sumS s1 (n1 * d2) (!s2) (n2 * d1)) (sumN s1 (n1 * d2) (!s2) (n2 * d1))

theorem sgn_low (s : Bool) {n d : Nat} (hd : 0 < d) : sgn (if n = 0 then false else s) (lowN n d) = sgn s n := by
  have hg : 0 < Nat.gcd n d := Nat.gcd_pos_of_pos_right n hd
  unfold sgn lowN
  rcases Nat.eq_zero_or_pos n with rfl | hn
  · simp
  · have := Nat.div_pos (Nat.le_of_dvd hn (Nat.gcd_dvd_left n d)) hg
    have h1 : ¬ n = 0 := by omega
    have h2 : ¬ n / Nat.gcd n d = 0 := by omega
    rw [if_neg h2, if_neg h1, if_neg h1]

theorem ca_compare {s1 s2 : Bool} {n1 d1 n2 d2 : Nat} (o1 : okQ s1 n1 d1) (o2 : okQ s2 n2 d2) (h1 : n1 < 32768) (h2 : d1 < 32768) (h3 : n2 < 32768) (h4 : d2 < 32768) :
    Ca E0 nCompare [.d (rq s1 n1 d1), .d (rq s2 n2 d2)] (.d (.v (.int .i64 (cmpQ s1 n1 d1 s2 n2 d2))), none) := by
  have b2 := mul_small h2 h4
  have b3 : 0 < d1 * d2 := Nat.mul_pos o1.2.1 o2.2.1
  have b4 := sum_small s1 (!s2) h1 h2 h3 h4
  obtain ⟨k1, t1⟩ := (ca_sub o1 o2 h1 h2 h3 h4).any
  unfold cmpQ
  generalize sumN s1 (n1 * d2) (!s2) (n2 * d1) = n at *
  generalize sumS s1 (n1 * d2) (!s2) (n2 * d1) = sg at *
  generalize d1 * d2 = d at *
  have ok : okQ (if n = 0 then false else sg) (lowN n d) (lowD n d) := okQ_low b4 (by omega) b3 (fun h => by rw [if_pos h])
  obtain ⟨k2, t2⟩ := (ca_sign ok).any
  rw [sgn_low sg b3] at t2
  replace t1 := t1 (k1 + k2) (by omega)
  replace t2 := t2 (k1 + k2) (by omega)
  generalize k1 + k2 = N at *
  refine Ca.ofS (n := N + 80) ?_
  rw [CL_fn rfl (show E0.fn nCompare = some fCompare from rfl) rfl]
  generalize sgn sg n = res at *
  simp only [lowQ, rq, LD] at *
  generalize LL (enc n1) = x1 at *
  generalize LL (enc n2) = x2 at *
  generalize LL (if d1 = 1 then [] else enc d1) = x5 at *
  generalize LL (if d2 = 1 then [] else enc d2) = x6 at *
  generalize LL (enc (lowN n d)) = x9 at *
  generalize LL (if lowD n d = 1 then [] else enc (lowD n d)) = y1 at *
  generalize (if n = 0 then false else sg) = sh at *
  simp -implicitDefEqProofs [EX_skip, EX_ret, EX_exit, EX_kill, EX_seq, EX_cond, EX_block, EX_region, ROps_nil, ROps_cons, RK_mov, RK_pick, RK_bin, RK_conv, RK_beq, RK_aeq, RK_nileq, RK_un, RK_box, RK_new, RK_load, RK_store, RK_faddr, RK_field, RK_iaddr, RK_aaddr, RK_index, RK_build, RK_lit, RK_len, RK_maxi, RK_mini, RK_app, RK_slice, RK_mk, RK_ext, RK_clo, RK_call, RK_callv, guardV, runK, argV, argsV, doCall, callPure, D.cells, FV.cells, FV.one, D.one, oneV, St.push, St.heap, St.setHeap, splice, partF, partD, s_add, s_sub, s_mul, s_quo, s_rem, s_or, s_and, s_xor, s_shl, s_shr, s_eql, s_neq, s_lss, s_leq, s_gtr, s_geq, unV, setVars, killVars, apartOk, finish, ressV, resV, leavesL, leaves, leaveL, leave1, allD, mkA, fillF, finish2, isPure, oneOf, freezeAll, FV.rows, FV.rows1, D.norm, D.norm1, scalar, D.isV, FV.shift, FV.shiftL, AObj.shift, pureElem, fillE, elems, FStmt.l, FStmt.r, FStmt.bl, FStmt.lp, f135, t1, t2]
end Fi.S
