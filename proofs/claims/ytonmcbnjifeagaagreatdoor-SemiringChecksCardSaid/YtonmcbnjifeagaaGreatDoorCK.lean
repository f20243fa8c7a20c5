/- SemiringChecks: its body. -/
import Derived.Test.YtonmcbnjifeagaaGreatDoorPRingsB
import Derived.Test.YtonmcbnjifeagaaGreatDoorPRingsC
import Derived.Test.YtonmcbnjifeagaaGreatDoorPRingsD
set_option linter.unusedVariables false
set_option linter.unusedSimpArgs false
namespace Fi.S
open Go Fi
set_option maxHeartbeats 8000000
set_option maxRecDepth 10000
theorem zo_all (k : Int) (ps : List Int) (h : validRg k ps = true) : zoB 26 35 (rgD k ps) = true ∧ zoB 27 20 (rgD k ps) = true := by
 have five : ∀ {a : Int}, single a = true → a ∈ [1, 2, 3, 4, 5] := by
  intro a ha
  simp only [single, Bool.and_eq_true, decide_eq_true_eq] at ha
  simp only [List.mem_cons, List.not_mem_nil, or_false]
  omega
 have main : ∀ {rs : List D}, (rs.all fun r => zoB 26 35 r && zoB 27 20 r) = true → rgD k ps ∈ rs → zoB 26 35 (rgD k ps) = true ∧ zoB 27 20 (rgD k ps) = true := by
  intro rs h1 h2
  have := List.all_eq_true.1 h1 _ h2
  simpa using this
 unfold validRg at h
 by_cases hk : k = 6
 ·subst hk
  rw [if_neg (by simp)] at h
  simp only [Bool.and_eq_true, decide_eq_true_eq, List.all_eq_true] at h
  obtain ⟨⟨h2, h3⟩, hs⟩ := h
  match ps, h2, h3, hs with
  | [a, b], _, _, hs =>
   have ha := five (hs a (by simp))
   have hb := five (hs b (by simp))
   have hm : rgD 6 [a, b] ∈ rings2 a := List.mem_map.2 ⟨b, hb, rfl⟩
   simp only [List.mem_cons, List.not_mem_nil, or_false] at ha
   rcases ha with rfl | rfl | rfl | rfl | rfl
   ·exact main zo_21 hm
   ·exact main zo_22 hm
   ·exact main zo_23 hm
   ·exact main zo_24 hm
   ·exact main zo_25 hm
  | [a, b, c], _, _, hs =>
   have ha := five (hs a (by simp))
   have hb := five (hs b (by simp))
   have hc := five (hs c (by simp))
   have hm : rgD 6 [a, b, c] ∈ rings3 a b := List.mem_map.2 ⟨c, hc, rfl⟩
   simp only [List.mem_cons, List.not_mem_nil, or_false] at ha hb
   rcases ha with rfl | rfl | rfl | rfl | rfl <;> rcases hb with rfl | rfl | rfl | rfl | rfl
   ·exact main zo_311 hm
   ·exact main zo_312 hm
   ·exact main zo_313 hm
   ·exact main zo_314 hm
   ·exact main zo_315 hm
   ·exact main zo_321 hm
   ·exact main zo_322 hm
   ·exact main zo_323 hm
   ·exact main zo_324 hm
   ·exact main zo_325 hm
   ·exact main zo_331 hm
   ·exact main zo_332 hm
   ·exact main zo_333 hm
   ·exact main zo_334 hm
   ·exact main zo_335 hm
   ·exact main zo_341 hm
   ·exact main zo_342 hm
   ·exact main zo_343 hm
   ·exact main zo_344 hm
   ·exact main zo_345 hm
   ·exact main zo_351 hm
   ·exact main zo_352 hm
   ·exact main zo_353 hm
   ·exact main zo_354 hm
   ·exact main zo_355 hm
 ·rw [if_pos hk] at h
  simp only [Bool.and_eq_true, decide_eq_true_eq] at h
  obtain ⟨h1, rfl⟩ := h
  exact main zo_1 (List.mem_map.2 ⟨k, five h1, rfl⟩)
theorem qD_o : qD 1 = one1 := by
 have h1 : qs 1 = false := by decide
 have h2 : qn 1 = [1] := by
  show enc 1 = [1]
  exact enc_small (by omega) (by omega)
 have h3 : qd 1 = [] := if_pos rfl
 simp [qD, raw, h1, h2, h3, LD, LL, one1]
theorem listD_one : listD [((0, 0, 0), 0 + 1)] = poly1 := by
 have h1 : qs 1 = false := by decide
 have h2 : qn 1 = [1] := by
  show enc 1 = [1]
  exact enc_small (by omega) (by omega)
 have h3 : qd 1 = [] := if_pos rfl
 have h0 : (0 : Rat) + 1 = 1 := Rat.zero_add 1
 rw [h0]
 simp [listD, entOut, qC, moC, h1, h2, h3, LD, LL, poly1]
theorem has_const : ∃ K, E6.Has E1 K 153 p153 := by
 have hz : qz 1 ≤ 50000 := by
  have h : qz 1 = max (sz 1) (sz 1) := rfl
  rw [h, sz_one]; decide
 obtain ⟨K, hK⟩ := ca_constant 1 hz
 refine ⟨K, rfl, rfl, rfl, rfl, fun g hg => ?_, fun g q hq => (by cases hq), fun ds v hv n hn => ?_⟩
 ·show (bif Nat.beq g 153 then some p153 else prim0 g) = prim0 g
  have : Nat.beq g 153 = false := by
   cases hb : Nat.beq g 153 with
   | false => rfl
   | true => exact absurd (Nat.eq_of_beq_eq_true hb) hg
  rw [this]; rfl
 ·unfold p153 at hv
  split at hv
  ·split at hv
   ·rename_i d hs
    cases hv
    rw [sameD_eq hs, ← qD_o, ← listD_one]
    exact hK n hn
   ·cases hv
  ·cases hv
theorem zo_run {f g : Nat} {r : D} (h : zoB f g r = true) : ∃ z1 z2, z1.norm = z1 ∧ z2.norm = z2 ∧ Ca E1 f [.d r] (.d z1, none) ∧ Ca E1 g [.d r] (.d z2, none) ∧ Ca E1 12 [.d z1, .d z2] (.d (.v (.bool true)), none) := by
 obtain ⟨K, hK⟩ := has_const
 unfold zoB at h
 split at h
 ·rename_i z1 z2 h1 h2
  simp only [Bool.and_eq_true] at h
  exact ⟨z1, z2, sameD_eq h.1.1, sameD_eq h.1.2, Ca.of (callN_has hK h1), Ca.of (callN_has hK h2), Ca.of (callN_has hK (of_yes h.2))⟩
 ·cases h
theorem ca_zero (k : Int) (ps : List Int) (h : validRg k ps = true) : ∃ z1 z2, z1.norm = z1 ∧ z2.norm = z2 ∧ Ca E1 26 [.d (rgD k ps)] (.d z1, none) ∧ Ca E1 35 [.d (rgD k ps)] (.d z2, none) ∧ Ca E1 12 [.d z1, .d z2] (.d (.v (.bool true)), none) := zo_run (zo_all k ps h).1
theorem ca_one (k : Int) (ps : List Int) (h : validRg k ps = true) : ∃ z1 z2, z1.norm = z1 ∧ z2.norm = z2 ∧ Ca E1 27 [.d (rgD k ps)] (.d z1, none) ∧ Ca E1 20 [.d (rgD k ps)] (.d z2, none) ∧ Ca E1 12 [.d z1, .d z2] (.d (.v (.bool true)), none) := zo_run (zo_all k ps h).2
end Fi.S
namespace Fi.S
open Go Fi
set_option maxHeartbeats 8000000
attribute [local simp] oo og ci EX_skip EX_ret EX_exit EX_kill EX_seq EX_cond EX_block EX_region ROps_nil ROps_cons RK_mov RK_pick RK_bin RK_conv RK_beq RK_aeq RK_nileq RK_un RK_box RK_new RK_load RK_store RK_faddr RK_field RK_iaddr RK_aaddr RK_index RK_build RK_lit RK_len RK_maxi RK_mini RK_app RK_slice RK_mk RK_ext RK_clo RK_call RK_callv RK_callr RK_mkmap RK_mget RK_mput RK_cap RK_appz callFull RK_slen RK_sindex RK_sslice guardV runK argV argsV doCall callPure D.cells FV.cells FV.one D.one oneV St.push St.heap St.setHeap splice partF partD s_add s_sub s_mul s_quo s_rem s_or s_and s_xor s_shl s_shr s_eql s_neq s_lss s_leq s_gtr s_geq unV setVars killVars apartOk finish ressV resV leavesL leaves leaveL leave1 allD mkA fillF finish2 isPure oneOf freezeAll FV.rows FV.rows1 D.norm D.norm1 scalar D.isV FV.shift FV.shiftL AObj.shift pureElem fillE elems FStmt.l FStmt.r FStmt.bl FStmt.lp
set_option maxRecDepth 4000
theorem ca_lightL (k : Int) (ps : List Int) (v w : W) : Ca E0 22 [.d (rgD k ps), .d v.d, .d w.d] (.d (.v (.bool (decide ((ps.length : Int) ≤ 6) && v.light && w.light))), none) := by
 obtain ⟨n1, h1⟩ := (ca_light v).any
 obtain ⟨n2, h2⟩ := (ca_light w).any
 obtain ⟨K, hK⟩ : ∃ K, K = n1 + n2 + 40 := ⟨_, rfl⟩
 replace h1 := h1 K (by omega)
 replace h2 := h2 K (by omega)
 have t := fun m => CL_mono (run_lightRing 0 k ps) (show 0 + 40 ≤ K + m by omega)
 clear hK
 refine Ca.ofS (n := K + 60) ?_
 rw [CL_fn rfl (show E0.fn 22 = some f22 from rfl) rfl]
 generalize v.light = q1 at *
 generalize w.light = q2 at *
 generalize decide ((ps.length : Int) ≤ 6) = q0 at *
 obtain ⟨s, a, b, c, i, u, p, pp⟩ := v
 obtain ⟨s', a', b', c', i', u', p', pp'⟩ := w
 simp only [W.d, PD, LD, rgD] at *
 generalize LK .i64 ps = l1 at *
 generalize LL a = x1 at *
 generalize LL b = x2 at *
 generalize List.map Mo.d p = x5 at *
 generalize W.ds pp = x7 at *
 generalize LL a' = y1 at *
 generalize LL b' = y2 at *
 generalize List.map Mo.d p' = y5 at *
 generalize W.ds pp' = y7 at *
 cases q0 <;> cases q1 <;> cases q2 <;> simp -implicitDefEqProofs [f22, h1, h2, t]
def zD : D := .a [.v (.bool false), .s 1 [], .s 1 [], .v (.int .i64 0), .v (.bool false), .v (.int .u64 0), .s 6 [], .s 8 []]
def W.nil : W := .mk false [] [] 0 false 0 [] []
theorem nil_d : W.nil.d = zD := rfl
theorem nil_ok : W.nil.OK := .mk (fun _ h => (by cases h)) (fun _ h => (by cases h)) (by simp) (by simp) ⟨fun _ h => (by cases h), by simp⟩ (by simp) (fun _ h => (by cases h))
theorem nil_eq : W.nil.eq W.nil = true := rfl
theorem ca_none (k : Int) (ps : List Int) (h : validRg k ps = false) :
  Ca E0 26 [.d (rgD k ps)] (.d zD, none) ∧ Ca E0 35 [.d (rgD k ps)] (.d zD, none) ∧ Ca E0 27 [.d (rgD k ps)] (.d zD, none) ∧ Ca E0 20 [.d (rgD k ps)] (.d zD, none) := by
 have t1 := fun n => run_rvalid n k ps
 have t2 := fun n => run_wrvalid n k ps
 rw [h] at t1 t2
 unfold rgD at *
 generalize LK .i64 ps = l1 at *
 clear h
 refine ⟨?_, ?_, ?_, ?_⟩
 ·refine Ca.ofS (n := 600) ?_
  rw [CL_fn rfl (show E0.fn 26 = some f26 from rfl) rfl]
  simp -implicitDefEqProofs [f26, t1, zD]
 ·refine Ca.ofS (n := 600) ?_
  rw [CL_fn rfl (show E0.fn 35 = some f35 from rfl) rfl]
  simp -implicitDefEqProofs [f35, t2, zD]
 ·refine Ca.ofS (n := 600) ?_
  rw [CL_fn rfl (show E0.fn 27 = some f27 from rfl) rfl]
  simp -implicitDefEqProofs [f27, t1, zD]
 ·refine Ca.ofS (n := 600) ?_
  rw [CL_fn rfl (show E0.fn 20 = some f20 from rfl) rfl]
  simp -implicitDefEqProofs [f20, t2, zD]
theorem ca_nil12 : Ca E1 12 [.d zD, .d zD] (.d (.v (.bool true)), none) := by
 have h := ca_wEqual W.nil nil_ok W.nil nil_ok
 rw [nil_eq, nil_d] at h
 exact Ca.up1 h
theorem ca_zero' (k : Int) (ps : List Int) : ∃ z1 z2, z1.norm = z1 ∧ z2.norm = z2 ∧ Ca E1 26 [.d (rgD k ps)] (.d z1, none) ∧ Ca E1 35 [.d (rgD k ps)] (.d z2, none) ∧ Ca E1 12 [.d z1, .d z2] (.d (.v (.bool true)), none) := by
 cases h : validRg k ps
 ·obtain ⟨a, b, _, _⟩ := ca_none k ps h
  exact ⟨zD, zD, rfl, rfl, Ca.up1 a, Ca.up1 b, ca_nil12⟩
 ·exact ca_zero k ps h
theorem ca_one' (k : Int) (ps : List Int) : ∃ z1 z2, z1.norm = z1 ∧ z2.norm = z2 ∧ Ca E1 27 [.d (rgD k ps)] (.d z1, none) ∧ Ca E1 20 [.d (rgD k ps)] (.d z2, none) ∧ Ca E1 12 [.d z1, .d z2] (.d (.v (.bool true)), none) := by
 cases h : validRg k ps
 ·obtain ⟨_, _, a, b⟩ := ca_none k ps h
  exact ⟨zD, zD, rfl, rfl, Ca.up1 a, Ca.up1 b, ca_nil12⟩
 ·exact ca_one k ps h
theorem law9_dark (hA : Ca E1 11 [] (.d (.v (.bool true)), none)) (k k' : Int) (ps ps' : List Int) (v w : W)
  (h : (decide ((ps.length : Int) ≤ 6) && v.light && w.light) = false ∨ ((decide ((ps.length : Int) ≤ 6) && v.light && w.light) = true ∧ decide ((ps'.length : Int) ≤ 6) = false)) :
  Ca E1 9 [.d (rgD k ps), .d (rgD k' ps'), .d v.d, .d w.d] (.d (.v (.bool true)), none) := by
 obtain ⟨n0, a0⟩ := hA.any
 obtain ⟨n1, a1⟩ := (Ca.up1 (ca_lightL k ps v w)).any
 obtain ⟨n2, a2⟩ := (Ca.up1 (Ca.ofS (run_lightRing 0 k' ps'))).any
 obtain ⟨K, hK⟩ : ∃ K, K = n0 + n1 + n2 := ⟨_, rfl⟩
 replace a0 := a0 K (by omega)
 replace a1 := a1 K (by omega)
 replace a2 := a2 K (by omega)
 clear hK hA
 refine Ca.ofS (n := K + 100) ?_
 rw [CL_fn rfl (show E1.fn 9 = some f9 from rfl) rfl]
 generalize (decide ((ps.length : Int) ≤ 6) && v.light && w.light) = q1 at *
 generalize decide ((ps'.length : Int) ≤ 6) = q2 at *
 obtain ⟨s, a, b, c, i, u, p, pp⟩ := v
 obtain ⟨s', a', b', c', i', u', p', pp'⟩ := w
 simp only [W.d, PD, LD, rgD] at *
 generalize LK .i64 ps = l1 at *
 generalize LK .i64 ps' = l2 at *
 generalize LL a = x1 at *
 generalize LL b = x2 at *
 generalize List.map Mo.d p = x5 at *
 generalize W.ds pp = x7 at *
 generalize LL a' = y1 at *
 generalize LL b' = y2 at *
 generalize List.map Mo.d p' = y5 at *
 generalize W.ds pp' = y7 at *
 rcases h with rfl | ⟨rfl, rfl⟩
 ·simp -implicitDefEqProofs [f9, a0, a1, a2]
 ·simp -implicitDefEqProofs [f9, a0, a1, a2]
theorem norm_n (sz : Nat) : D.norm (.n sz) = .s sz [] := rfl
theorem norm_a (cs : List D) : D.norm (.a cs) = .a (cs.map D.norm1) := rfl
theorem norm_t (cs : List D) : D.norm (.t cs) = .t (cs.map D.norm1) := rfl
theorem norm_v (x : Value) : D.norm (.v x) = .v x := rfl
theorem norm_s (sz : Nat) (es : List D) : D.norm (.s sz es) = .s sz es := rfl
theorem law9_light (hA : Ca E1 11 [] (.d (.v (.bool true)), none)) (k k' : Int) (ps ps' : List Int) (v w : W) (hv : v.OK) (hw : w.OK) (h0 : ps.length ≤ 6) (h0' : ps'.length ≤ 6) (h1 : v.light = true) (h2 : w.light = true) :
  Ca E1 9 [.d (rgD k ps), .d (rgD k' ps'), .d v.d, .d w.d] (.d (.v (.bool true)), none) := by
 obtain ⟨z1, z2, e1, e2, hz1, hz2, hz3⟩ : ∃ z1 z2, z1.norm = z1 ∧ z2.norm = z2 ∧ Ca E1 26 [.d (rgD k ps)] (.d z1, none) ∧ Ca E1 35 [.d (rgD k ps)] (.d z2, none) ∧ Ca E1 12 [.d z1, .d z2] (.d (.v (.bool true)), none) := ca_zero' k ps
 obtain ⟨y1, y2, e3, e4, ho1, ho2, ho3⟩ : ∃ z1 z2, z1.norm = z1 ∧ z2.norm = z2 ∧ Ca E1 27 [.d (rgD k ps)] (.d z1, none) ∧ Ca E1 20 [.d (rgD k ps)] (.d z2, none) ∧ Ca E1 12 [.d z1, .d z2] (.d (.v (.bool true)), none) := ca_one' k ps
 have l := ca_lightL k ps v w
 rw [h1, h2, decide_eq_true (show (ps.length : Int) ≤ 6 by omega)] at l
 have l' := run_lightRing 0 k' ps'
 rw [decide_eq_true (show (ps'.length : Int) ≤ 6 by omega)] at l'
 obtain ⟨n0, a0⟩ := hA.any
 obtain ⟨n1, a1⟩ := (Ca.up1 l).any
 obtain ⟨n2, a2⟩ := (Ca.up1 (Ca.ofS l')).any
 obtain ⟨n3, a3⟩ := (Ca.up1 (Ca.ofS (run_rvalid 0 k ps))).any
 obtain ⟨n4, a4⟩ := (Ca.up1 (Ca.ofS (run_wrvalid 0 k ps))).any
 obtain ⟨n5, a5⟩ := (Ca.up1 (ca_rsame k k' ps ps' (by omega) (by omega))).any
 obtain ⟨n6, a6⟩ := (Ca.up1 (ca_wrsame k k' ps ps' (by omega) (by omega))).any
 obtain ⟨n7, a7⟩ := (Ca.up1 (ca_Check k ps v (by omega) hv)).any
 obtain ⟨n8, a8⟩ := (Ca.up1 (ca_wCheck k ps v (by omega) hv)).any
 obtain ⟨n9, a9⟩ := (Ca.up1 (ca_Equal v hv w hw)).any
 obtain ⟨m0, b0⟩ := (Ca.up1 (ca_wEqual v hv w hw)).any
 obtain ⟨m1, c1⟩ := hz1.any
 obtain ⟨m2, c2⟩ := hz2.any
 obtain ⟨m3, c3⟩ := hz3.any
 obtain ⟨m4, d1⟩ := ho1.any
 obtain ⟨m5, d2⟩ := ho2.any
 obtain ⟨m6, d3⟩ := ho3.any
 obtain ⟨K, hK⟩ : ∃ K, K = n0 + n1 + n2 + n3 + n4 + n5 + n6 + n7 + n8 + n9 + m0 + m1 + m2 + m3 + m4 + m5 + m6 := ⟨_, rfl⟩
 replace a0 := a0 K (by omega)
 replace a1 := a1 K (by omega)
 replace a2 := a2 K (by omega)
 replace a3 := a3 K (by omega)
 replace a4 := a4 K (by omega)
 replace a5 := a5 K (by omega)
 replace a6 := a6 K (by omega)
 replace a7 := a7 K (by omega)
 replace a8 := a8 K (by omega)
 replace a9 := a9 K (by omega)
 replace b0 := b0 K (by omega)
 replace c1 := c1 K (by omega)
 replace c2 := c2 K (by omega)
 replace c3 := c3 K (by omega)
 replace d1 := d1 K (by omega)
 replace d2 := d2 K (by omega)
 replace d3 := d3 K (by omega)
 clear hK hA l l' hz1 hz2 hz3 ho1 ho2 ho3 h0 h0' h1 h2 hv hw n0 n1 n2 n3 n4 n5 n6 n7 n8 n9 m0 m1 m2 m3 m4 m5 m6
 refine Ca.ofS (n := K + 200) ?_
 rw [CL_fn rfl (show E1.fn 9 = some f9 from rfl) rfl]
 generalize validRg k ps = q1 at *
 generalize sameRg k ps k' ps' = q2 at *
 generalize checkB k ps v = q3 at *
 generalize v.eq w = q4 at *
 obtain ⟨s, a, b, c, i, u, p, pp⟩ := v
 obtain ⟨s', a', b', c', i', u', p', pp'⟩ := w
 simp only [W.d, PD, LD, rgD] at *
 generalize LK .i64 ps = l1 at *
 generalize LK .i64 ps' = l2 at *
 generalize LL a = x1 at *
 generalize LL b = x2 at *
 generalize List.map Mo.d p = x5 at *
 generalize W.ds pp = x7 at *
 generalize LL a' = w1 at *
 generalize LL b' = w2 at *
 generalize List.map Mo.d p' = w5 at *
 generalize W.ds pp' = w7 at *
 simp (maxSteps := 1000000) -implicitDefEqProofs [f9, -D.norm, norm_n, norm_a, norm_t, norm_v, norm_s, a0, a1, a2, a3, a4, a5, a6, a7, a8, a9, b0, c1, c2, c3, d1, d2, d3, e1, e2, e3, e4]
theorem ca_law9 (hA : Ca E1 11 [] (.d (.v (.bool true)), none)) (k k' : Int) (ps ps' : List Int) (v w : W) (hv : v.Typ) (hw : w.Typ) : Ca E1 9 [.d (rgD k ps), .d (rgD k' ps'), .d v.d, .d w.d] (.d (.v (.bool true)), none) := by
 by_cases h1 : (decide ((ps.length : Int) ≤ 6) && v.light && w.light) = true
 ·by_cases h2 : decide ((ps'.length : Int) ≤ 6) = true
  ·have h3 := h1
   simp only [Bool.and_eq_true, decide_eq_true_eq] at h3
   have h4 := of_decide_eq_true h2
   exact law9_light hA k k' ps ps' v w (light_ok v hv h3.1.2) (light_ok w hw h3.2) (by omega) (by omega) h3.1.2 h3.2
  ·exact law9_dark hA k k' ps ps' v w (.inr ⟨h1, by simpa using h2⟩)
 ·exact law9_dark hA k k' ps ps' v w (.inl (by simpa using h1))
end Fi.S
