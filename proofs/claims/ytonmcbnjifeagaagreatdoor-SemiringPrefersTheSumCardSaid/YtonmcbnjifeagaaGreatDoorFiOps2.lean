/-
  One operation of the model does what the functional interpreter says: reads, new variables, addresses.
-/
import Derived.Test.YtonmcbnjifeagaaGreatDoorFiOps1
set_option linter.unusedVariables false
set_option linter.unusedSimpArgs false
namespace Fi
open Go

section cells
variable {P : Program} {σ : Nat → Option FuncId} {n : Nat} {β : Map} {I Wr : Nat → Prop} {wd : Nat → Prop} {w : World}

theorem AtD.values {b off : Nat} {cs : List D} (h : AtD σ I w b off cs) : ∃ xs : List Value, xs.length = cs.length ∧ (∀ (j : Nat) (x : Value), xs[j]? = some x → w.cell? ⟨b, off + j, none⟩ = some x) ∧
    ∀ (j : Nat) (c : D) (x : Value), cs[j]? = some c → xs[j]? = some x → RepD σ I w c x := by
  induction cs generalizing off with
  | nil => exact ⟨[], rfl, fun j x h => by simp at h, fun j c x h => by simp at h⟩
  | cons c cs ih =>
    obtain ⟨x, h1, h2⟩ := h 0 c (by simp)
    obtain ⟨xs, g1, g2, g3⟩ := ih (off := off + 1) (fun j c' hc => by
      obtain ⟨y, e1, e2⟩ := h (j + 1) c' (by simpa using hc)
      exact ⟨y, by rw [show off + 1 + j = off + (j + 1) by omega]; exact e1, e2⟩)
    refine ⟨x :: xs, by simp [g1], ?_, ?_⟩
    · intro j y hy
      cases j with
      | zero => simp at hy; subst hy; exact h1
      | succ j => rw [show off + (j + 1) = off + 1 + j by omega]; exact g2 j y (by simpa using hy)
    · intro j c' y hc hy
      cases j with
      | zero => simp at hc hy; subst hc; subst hy; exact h2
      | succ j => exact g3 j c' y (by simpa using hc) (by simpa using hy)

theorem AtD.sub {b off k m : Nat} {cs : List D} (h : AtD σ I w b off cs) : AtD σ I w b (off + k) ((cs.drop k).take m) := by
  intro j c hc
  simp only [List.getElem?_take, List.getElem?_drop] at hc
  split at hc
  · obtain ⟨x, h1, h2⟩ := h (k + j) c hc
    exact ⟨x, by rw [show off + k + j = off + (k + j) by omega]; exact h1, h2⟩
  · cases hc

theorem AtD.at_ {b off k : Nat} {cs : List D} {c : D} (h : AtD σ I w b off cs) (hk : cs[k]? = some c) : AtD σ I w b (off + k) [c] := by
  intro j d hd
  cases j with
  | zero => simp at hd; subst hd; exact h k c hk
  | succ j => simp at hd

theorem add_none (b o k : Nat) : (⟨b, o, none⟩ : Addr).add k = ⟨b, o + k, none⟩ := by unfold Addr.add; split <;> simp_all

/-- A variable's value, out of its cells. -/
theorem run_loadVar_cells {t : TypeId} {g : Bool} {m : Nat} (hg : aggT P t = some g) (hm : sizeT P t = some m) {b off : Nat} {xs : List Value} {x : Value}
    (hc : ∀ (j : Nat) (x : Value), xs[j]? = some x → w.cell? ⟨b, off + j, none⟩ = some x)
    (hx : if g then xs.length = m ∧ x = .agg xs.toArray else xs[0]? = some x) : (loadVar t ⟨b, off, none⟩).run P w = .ok x w := by
  unfold loadVar
  cases g
  · simp only [Bool.false_eq_true, if_false] at hx
    have h := hc 0 x hx
    rw [Nat.add_zero] at h
    simp [run_isAgg hg, h]
  · simp only [if_true] at hx
    obtain ⟨rfl, rfl⟩ := hx
    have := run_loadCells_list (P := P) w ⟨b, off, none⟩ xs (fun j v hv => by rw [add_none]; exact hc j v hv)
    simp [run_isAgg hg, run_sizeOf hm, this]

theorem load_atD {t : TypeId} {g : Bool} {m off : Nat} (hg : aggT P t = some g) (hm : sizeT P t = some m) {b base : Nat} {cs : List D} {v : D} (h : AtD σ I w b base cs) (hp : partD cs g off m = some v) :
    ∃ x, (loadVar t ⟨b, base + off, none⟩).run P w = .ok x w ∧ RepD σ I w v x := by
  unfold partD at hp
  cases g
  · simp only [Bool.false_eq_true, if_false] at hp
    obtain ⟨x, h1, h2⟩ := h off v hp
    exact ⟨x, run_loadVar_cells hg hm (xs := [x]) (fun j y hy => by
      cases j with
      | zero => simp at hy; subst hy; exact h1
      | succ j => simp at hy) (by simp), h2⟩
  · simp only [if_true] at hp
    split at hp <;> simp at hp
    subst hp
    rename_i hle
    obtain ⟨xs, g1, g2, g3⟩ := (h.sub (k := off) (m := m)).values
    have hl : xs.length = m := by rw [g1]; simp; omega
    exact ⟨.agg xs.toArray, run_loadVar_cells hg hm g2 (by simp [hl]), .a (by simpa using g1) (fun i c x hc hx => g3 i c x hc (by simpa using hx))⟩

theorem load_box {t : TypeId} {g : Bool} {m off : Nat} (hg : aggT P t = some g) (hm : sizeT P t = some m) {b : Nat} {c : Array Value} {e : TypeId} {fr : Nat × Nat} (hb : w.heap[b]? = some (.cells c e fr))
    {cs : List FV} {v : FV} (hl : c.size = cs.length) (h : ∀ (i : Nat) (f : FV) (x : Value), cs[i]? = some f → c[i]? = some x → RepF σ β I w n f x) (hp : partF cs g off m = some v) :
    ∃ x, (loadVar t ⟨b, off, none⟩).run P w = .ok x w ∧ RepF σ β I w n v x := by
  obtain ⟨x, hx, hr⟩ := repF_part hl h hp
  refine ⟨x, ?_, hr⟩
  have hcell : ∀ k, w.cell? ⟨b, k, none⟩ = c[k]? := fun k => by simp [World.cell?, hb]
  cases g
  · simp only [Bool.false_eq_true, if_false] at hx
    exact run_loadVar_cells hg hm (xs := [x]) (fun j y hy => by
      cases j with
      | zero => simp at hy; subst hy; rw [hcell]; exact hx
      | succ j => simp at hy) (by simp)
  · simp only [if_true] at hx
    cases hx
    have hle : off + m ≤ c.size := by
      unfold partF at hp
      simp only [if_true] at hp
      split at hp
      · omega
      · cases hp
    refine run_loadVar_cells hg hm (xs := (c.extract off (off + m)).toList) (fun j y hy => ?_) (by simp only [if_true, Array.length_toList, Array.size_extract]; exact ⟨by omega, by simp⟩)
    rw [hcell]
    have hy2 : (c.extract off (off + m))[j]? = some y := by rw [← Array.getElem?_toList]; exact hy
    rw [Array.getElem?_extract] at hy2
    split at hy2
    · exact hy2
    · cases hy2
end cells

section ops
variable {P : Program} {σ : Nat → Option FuncId} {β : Map} {I Wr : Nat → Prop} {wd : Nat → Prop} {w : World} {st : St} {ρ : Operand → Value}
variable {dst : Option Tmp} {type : TypeId} {pos : String} {after : Array Edge} {guard : Option (Nat × Bool)}

theorem y_load_of {t : TypeId} {x : Operand} {b off : Nat} {y : Value} {v : FV} (hρ : ρ x = .pointer (some ⟨b, off, none⟩)) (hl : (loadVar t ⟨b, off, none⟩).run P w = .ok y w)
    (hS : SimH σ st.base.length β I Wr wd (st.base ++ st.loc) w) (hr : RepF σ β I w st.base.length v y) : Yields P ⟨dst, .load t x, type, pos, after, guard⟩ ρ w (Post σ st.base.length (st.base ++ st.loc).length β I Wr wd w st v) := by
  refine yields_value (x := y) (w' := w) ?_ (Post.same hS hr)
  simp [execOp, hρ, Instr.loadAt, Instr.sureAddr, hl]

theorem y_load_r {t : TypeId} {x : Operand} {q : Ref} {off m : Nat} {g : Bool} {cs : List FV} {v : FV} (hg : aggT P t = some g) (hm : sizeT P t = some m) (hq : st.heap q = some (.box cs)) (hv : partF cs g off m = some v)
    (hS : SimH σ st.base.length β I Wr wd (st.base ++ st.loc) w) (hx : RepF σ β I w st.base.length (.r q off) (ρ x)) : Yields P ⟨dst, .load t x, type, pos, after, guard⟩ ρ w (Post σ st.base.length (st.base ++ st.loc).length β I Wr wd w st v) := by
  generalize hρ : ρ x = xv at hx
  cases hx with
  | r hb =>
    rw [St.heap_eq] at hq
    obtain ⟨rfl, c, e, h1, h2, h3⟩ := hS.box _ _ _ _ _ hq hb
    obtain ⟨y, hy1, hy2⟩ := load_box hg hm h1 h2 h3 hv
    exact y_load_of (by rw [hρ, Nat.zero_add]) hy1 hS hy2

theorem y_load_e {t : TypeId} {x : Operand} {q : Ref} {ver sz i off m : Nat} {g : Bool} {es : List D} {e v : D} (hg : aggT P t = some g) (hm : sizeT P t = some m)
    (hq : st.heap q = some (.row ver sz es) ∨ st.heap q = some (.frz ver sz es)) (he : es[i]? = some e) (hv : partD e.cells g off m = some v)
    (hS : SimH σ st.base.length β I Wr wd (st.base ++ st.loc) w) (hx : RepF σ β I w st.base.length (.e q ver sz i off) (ρ x)) : Yields P ⟨dst, .load t x, type, pos, after, guard⟩ ρ w (Post σ st.base.length (st.base ++ st.loc).length β I Wr wd w st (.d v)) := by
  generalize hρ : ρ x = xv at hx
  cases hx with
  | e hb =>
    rw [St.heap_eq] at hq
    have hat := hq.elim (fun hq => (hS.row _ _ _ _ _ _ _ hq hb).1) (fun hq => (hS.frz _ _ _ _ _ _ _ hq hb).1)
    obtain ⟨y, hy1, hy2⟩ := load_atD hg hm (hat.at_ i e he) hv
    exact y_load_of hρ hy1 hS (.d hy2)

theorem y_load_rc {t : TypeId} {x : Operand} {m : Nat} {g : Bool} {y v : D} (hg : aggT P t = some g) (hm : sizeT P t = some m) (hv : partD y.cells g 0 m = some v)
    (hS : SimH σ st.base.length β I Wr wd (st.base ++ st.loc) w) (hx : RepF σ β I w st.base.length (.rc y) (ρ x)) : Yields P ⟨dst, .load t x, type, pos, after, guard⟩ ρ w (Post σ st.base.length (st.base ++ st.loc).length β I Wr wd w st (.d v)) := by
  generalize hρ : ρ x = xv at hx
  cases hx with
  | rc _ _ hat =>
    obtain ⟨z, hz1, hz2⟩ := load_atD hg hm hat hv
    exact y_load_of hρ hz1 hS (.d hz2)

theorem run_fieldPlace {b o m : Nat} {fl : Field} (hm : sizeT P fl.type = some m) (h0 : m ≠ 0) : (fieldPlace ⟨b, o, none⟩ fl).run P w = .ok ⟨b, o + fl.offset, none⟩ w := by
  simp [fieldPlace, run_sizeOf hm, h0, add_none]

theorem y_faddr_of {s : TypeId} {x : Operand} {i : Nat} {fs : Array Field} {fl : Field} {m b o : Nat} {v : FV} (hs : P.underlying s = some (.struct fs)) (hfl : fs[i]? = some fl) (hm : sizeT P fl.type = some m) (h0 : m ≠ 0)
    (hρ : ρ x = .pointer (some ⟨b, o, none⟩)) (hS : SimH σ st.base.length β I Wr wd (st.base ++ st.loc) w) (hr : RepF σ β I w st.base.length v (.pointer (some ⟨b, o + fl.offset, none⟩))) :
    Yields P ⟨dst, .fieldAddr s x i, type, pos, after, guard⟩ ρ w (Post σ st.base.length (st.base ++ st.loc).length β I Wr wd w st v) := by
  refine yields_value (w' := w) ?_ (Post.same hS hr)
  simp [execOp, hρ, Instr.fieldAt, run_underlying hs, hfl, Instr.sureAddr, run_fieldPlace hm h0]

theorem y_faddr_r {s : TypeId} {x : Operand} {i : Nat} {fs : Array Field} {fl : Field} {m o : Nat} {q : Ref} (hs : P.underlying s = some (.struct fs)) (hfl : fs[i]? = some fl) (hm : sizeT P fl.type = some m) (h0 : m ≠ 0)
    (hS : SimH σ st.base.length β I Wr wd (st.base ++ st.loc) w) (hx : RepF σ β I w st.base.length (.r q o) (ρ x)) :
    Yields P ⟨dst, .fieldAddr s x i, type, pos, after, guard⟩ ρ w (Post σ st.base.length (st.base ++ st.loc).length β I Wr wd w st (.r q (o + fl.offset))) := by
  generalize hρ : ρ x = xv at hx
  cases hx with
  | r hb => exact y_faddr_of hs hfl hm h0 hρ hS (by rw [Nat.add_assoc]; exact .r hb)

theorem y_faddr_e {s : TypeId} {x : Operand} {i : Nat} {fs : Array Field} {fl : Field} {m ver sz j o : Nat} {q : Ref} (hs : P.underlying s = some (.struct fs)) (hfl : fs[i]? = some fl) (hm : sizeT P fl.type = some m) (h0 : m ≠ 0)
    (hS : SimH σ st.base.length β I Wr wd (st.base ++ st.loc) w) (hx : RepF σ β I w st.base.length (.e q ver sz j o) (ρ x)) :
    Yields P ⟨dst, .fieldAddr s x i, type, pos, after, guard⟩ ρ w (Post σ st.base.length (st.base ++ st.loc).length β I Wr wd w st (.e q ver sz j (o + fl.offset))) := by
  generalize hρ : ρ x = xv at hx
  cases hx with
  | e hb => exact y_faddr_of hs hfl hm h0 hρ hS (by rw [Nat.add_assoc]; exact .e hb)

theorem D.one_cells {c : D} (h : c.one = true) : c.cells = [c] := by cases c <;> first | rfl | (simp [D.one] at h)

theorem rc_part {b o off m : Nat} {g : Bool} {y v : D} (hb : I b) (ho : ∀ c ∈ y.cells, c.one = true) (hat : AtD σ I w b o y.cells) (hv : partD y.cells g off m = some v) {n : Nat} :
    RepF σ β I w n (.rc v) (.pointer (some ⟨b, o + off, none⟩)) := by
  unfold partD at hv
  cases g
  · simp only [Bool.false_eq_true, if_false] at hv
    have h1 := ho v (List.mem_of_getElem? hv)
    refine .rc hb ?_ ?_
    · rw [D.one_cells h1]; intro c hc; simp at hc; subst hc; exact h1
    · rw [D.one_cells h1]; exact hat.at_ hv
  · simp only [if_true] at hv
    split at hv <;> simp at hv
    subst hv
    exact .rc hb (fun c hc => ho c (List.mem_of_mem_drop (List.mem_of_mem_take hc))) hat.sub

theorem y_faddr_rc {s : TypeId} {x : Operand} {i : Nat} {fs : Array Field} {fl : Field} {m : Nat} {g : Bool} {y v : D} (hs : P.underlying s = some (.struct fs)) (hfl : fs[i]? = some fl) (hm : sizeT P fl.type = some m) (h0 : m ≠ 0)
    (hv : partD y.cells g fl.offset m = some v) (hS : SimH σ st.base.length β I Wr wd (st.base ++ st.loc) w) (hx : RepF σ β I w st.base.length (.rc y) (ρ x)) :
    Yields P ⟨dst, .fieldAddr s x i, type, pos, after, guard⟩ ρ w (Post σ st.base.length (st.base ++ st.loc).length β I Wr wd w st (.rc v)) := by
  generalize hρ : ρ x = xv at hx
  cases hx with
  | rc hb ho hat => exact y_faddr_of hs hfl hm h0 hρ hS (rc_part hb ho hat hv)

theorem run_indexAt_of {t e : TypeId} {a : Addr} {len cap sz : Nat} {k : IntKind} {j : Int} (ht : P.underlying t = some (.slice e)) (hm : sizeT P e = some sz) (h0 : 0 ≤ j) (h1 : j < len) :
    (Instr.indexAt t (.slice (some a) len cap) (.int k j)).run P w = .ok (.pointer (some (a.add (j.toNat * sz)))) w := by
  simp [Instr.indexAt, asIntOf_int, run_underlying ht, h0, h1, run_sizeOf hm]

theorem run_indexAt_arr {t e : TypeId} {a : Addr} {len sz : Nat} {k : IntKind} {j : Int} (ht : P.underlying t = some (.array len e)) (hm : sizeT P e = some sz) (h0 : 0 ≤ j) (h1 : j < len) :
    (Instr.indexAt t (.pointer (some a)) (.int k j)).run P w = .ok (.pointer (some (a.add (j.toNat * sz)))) w := by
  simp [Instr.indexAt, asIntOf_int, run_underlying ht, Instr.sureAddr, h0, h1, run_sizeOf hm]

theorem y_iaddr_ls {t e : TypeId} {x ix : Operand} {q : Ref} {ver sz off m : Nat} {k : IntKind} {j : Int} (ht : P.underlying t = some (.slice e)) (hm : sizeT P e = some sz) (h0 : 0 ≤ j) (h1 : j < m)
    (hS : SimH σ st.base.length β I Wr wd (st.base ++ st.loc) w) (hx : RepF σ β I w st.base.length (.ls q ver sz off m) (ρ x)) (hi : RepF σ β I w st.base.length (.d (.v (.int k j))) (ρ ix)) :
    Yields P ⟨dst, .indexAddr t x ix, type, pos, after, guard⟩ ρ w (Post σ st.base.length (st.base ++ st.loc).length β I Wr wd w st (.e q ver sz (off + j.toNat) 0)) := by
  generalize hρ : ρ x = xv at hx
  cases hx with
  | ls hb hl ho =>
    rename_i b bo cap o
    have hoo := ho (by omega)
    refine yields_value (x := .pointer (some ⟨b, bo + (off + j.toNat) * sz + 0, none⟩)) (w' := w) ?_ (Post.same hS (.e hb))
    have he : o + j.toNat * sz = bo + (off + j.toNat) * sz + 0 := by rw [hoo, Nat.add_mul]; omega
    simp only [execOp, hρ, hi.val, Sem.run_bind, run_indexAt_of ht hm h0 h1, Result.andThen_ok, add_none, he]
    rfl

theorem y_iaddr_s {t e : TypeId} {x ix : Operand} {sz : Nat} {es : List D} {y : D} {k : IntKind} {j : Int} (ht : P.underlying t = some (.slice e)) (hm : sizeT P e = some sz) (h0 : 0 ≤ j) (hy : es[j.toNat]? = some y)
    (hS : SimH σ st.base.length β I Wr wd (st.base ++ st.loc) w) (hx : RepF σ β I w st.base.length (.d (.s sz es)) (ρ x)) (hi : RepF σ β I w st.base.length (.d (.v (.int k j))) (ρ ix)) :
    Yields P ⟨dst, .indexAddr t x ix, type, pos, after, guard⟩ ρ w (Post σ st.base.length (st.base ++ st.loc).length β I Wr wd w st (.rc y)) := by
  generalize hρ : ρ x = xv at hx
  cases hx with
  | d hx =>
    have hlt : j.toNat < es.length := (List.getElem?_eq_some_iff.1 hy).1
    cases hx with
    | s0 => simp at hy
    | s u hb hc hsz hone hcell hrep =>
      rename_i b off cap
      refine yields_value (x := .pointer (some ⟨b, off + j.toNat * sz, none⟩)) (w' := w) ?_ (Post.same hS (.rc hb (hone y (List.mem_of_getElem? hy)) fun i c hc' => ⟨u j.toNat i, hcell _ _ _ _ hy hc', hrep _ _ _ _ hy hc'⟩))
      simp only [execOp, hρ, hi.val, Sem.run_bind, run_indexAt_of ht hm h0 (by omega : j < es.length), Result.andThen_ok, add_none]
      rfl

theorem y_aaddr_of {t e : TypeId} {x ix : Operand} {len sz b o : Nat} {v : FV} {k : IntKind} {j : Int} (ht : P.underlying t = some (.array len e)) (hm : sizeT P e = some sz) (h0 : 0 ≤ j) (h1 : j < len)
    (hS : SimH σ st.base.length β I Wr wd (st.base ++ st.loc) w) (hρ : ρ x = .pointer (some ⟨b, o, none⟩)) (hr : RepF σ β I w st.base.length v (.pointer (some ⟨b, o + j.toNat * sz, none⟩))) (hi : RepF σ β I w st.base.length (.d (.v (.int k j))) (ρ ix)) :
    Yields P ⟨dst, .indexAddr t x ix, type, pos, after, guard⟩ ρ w (Post σ st.base.length (st.base ++ st.loc).length β I Wr wd w st v) := by
  refine yields_value (w' := w) ?_ (Post.same hS hr)
  simp only [execOp, hρ, hi.val, Sem.run_bind, run_indexAt_arr ht hm h0 h1, Result.andThen_ok, add_none]
  rfl

theorem y_aaddr_r {t e : TypeId} {x ix : Operand} {len sz o : Nat} {q : Ref} {k : IntKind} {j : Int} (ht : P.underlying t = some (.array len e)) (hm : sizeT P e = some sz) (h0 : 0 ≤ j) (h1 : j < len)
    (hS : SimH σ st.base.length β I Wr wd (st.base ++ st.loc) w) (hx : RepF σ β I w st.base.length (.r q o) (ρ x)) (hi : RepF σ β I w st.base.length (.d (.v (.int k j))) (ρ ix)) :
    Yields P ⟨dst, .indexAddr t x ix, type, pos, after, guard⟩ ρ w (Post σ st.base.length (st.base ++ st.loc).length β I Wr wd w st (.r q (o + j.toNat * sz))) := by
  generalize hρ : ρ x = xv at hx
  cases hx with
  | r hb => exact y_aaddr_of ht hm h0 h1 hS hρ (by rw [Nat.add_assoc]; exact .r hb) hi

theorem y_aaddr_e {t e : TypeId} {x ix : Operand} {len sz o ver s i : Nat} {q : Ref} {k : IntKind} {j : Int} (ht : P.underlying t = some (.array len e)) (hm : sizeT P e = some sz) (h0 : 0 ≤ j) (h1 : j < len)
    (hS : SimH σ st.base.length β I Wr wd (st.base ++ st.loc) w) (hx : RepF σ β I w st.base.length (.e q ver s i o) (ρ x)) (hi : RepF σ β I w st.base.length (.d (.v (.int k j))) (ρ ix)) :
    Yields P ⟨dst, .indexAddr t x ix, type, pos, after, guard⟩ ρ w (Post σ st.base.length (st.base ++ st.loc).length β I Wr wd w st (.e q ver s i (o + j.toNat * sz))) := by
  generalize hρ : ρ x = xv at hx
  cases hx with
  | e hb => exact y_aaddr_of ht hm h0 h1 hS hρ (by rw [Nat.add_assoc]; exact .e hb) hi

theorem y_aaddr_rc {t e : TypeId} {x ix : Operand} {len sz : Nat} {g : Bool} {y v : D} {k : IntKind} {j : Int} (ht : P.underlying t = some (.array len e)) (hm : sizeT P e = some sz) (h0 : 0 ≤ j) (h1 : j < len)
    (hv : partD y.cells g (j.toNat * sz) sz = some v) (hS : SimH σ st.base.length β I Wr wd (st.base ++ st.loc) w) (hx : RepF σ β I w st.base.length (.rc y) (ρ x)) (hi : RepF σ β I w st.base.length (.d (.v (.int k j))) (ρ ix)) :
    Yields P ⟨dst, .indexAddr t x ix, type, pos, after, guard⟩ ρ w (Post σ st.base.length (st.base ++ st.loc).length β I Wr wd w st (.rc v)) := by
  generalize hρ : ρ x = xv at hx
  cases hx with
  | rc hb ho hat => exact y_aaddr_of ht hm h0 h1 hS hρ (rc_part hb ho hat hv) hi

theorem RepD.oneCell {c : D} {x : Value} (h : RepD σ I w c x) (ho : c.one = true) : x.oneCell' = true := by
  cases h <;> first
    | rfl
    | (simp [D.one] at ho; done)
    | (cases x <;> first | rfl | (simp [D.one, oneV] at ho))

theorem RepF.oneCell {n : Nat} {f : FV} {x : Value} (h : RepF σ β I w n f x) (ho : f.one = true) : x.oneCell' = true := by
  cases h with
  | u => simp [FV.one] at ho
  | d h => exact h.oneCell ho
  | _ => first | rfl | (simp [FV.one] at ho)

theorem RepF.cells {n : Nat} {f : FV} {x : Value} (h : RepF σ β I w n f x) (ho : f.cells.all FV.one = true) :
    x.cells.size = f.cells.length ∧ (∀ (i : Nat) (c : FV) (y : Value), f.cells[i]? = some c → x.cells[i]? = some y → RepF σ β I w n c y) ∧ ∀ y ∈ x.cells.toList, y.oneCell' = true := by
  have key : ∀ (cs : List FV) (vs : Array Value), vs.size = cs.length → (∀ (i : Nat) (c : FV) (y : Value), cs[i]? = some c → vs[i]? = some y → RepF σ β I w n c y) → cs.all FV.one = true → ∀ y ∈ vs.toList, y.oneCell' = true := by
    intro cs vs hl h ho y hy
    obtain ⟨i, hi, rfl⟩ := List.mem_iff_getElem.1 hy
    have hi' : i < vs.size := by simpa using hi
    have hc : cs[i]? = some (cs[i]'(by omega)) := by simp
    refine (h i _ _ hc (by simp [hi'])).oneCell ?_
    exact List.all_eq_true.1 ho _ (List.getElem_mem _)
  have single : ∀ (f : FV) (x : Value), RepF σ β I w n f x → f.cells = [f] → f.one = true → x.cells.size = f.cells.length ∧ (∀ (i : Nat) (c : FV) (y : Value), f.cells[i]? = some c → x.cells[i]? = some y → RepF σ β I w n c y) ∧ ∀ y ∈ x.cells.toList, y.oneCell' = true := by
    intro f x h hf ho
    have h1 := h.oneCell ho
    have hx : x.cells = #[x] := by cases x <;> first | rfl | (simp [Value.oneCell'] at h1)
    rw [hf, hx]
    refine ⟨rfl, fun i c y hc hy => ?_, fun y hy => by simp at hy; subst hy; exact h1⟩
    cases i with
    | zero => simp at hc hy; subst hc; subst hy; exact h
    | succ i => simp at hc
  cases f with
  | a cs =>
    cases h with
    | a hl h => exact ⟨hl, h, key cs _ hl h ho⟩
  | d y =>
    cases y with
    | a cs =>
      cases h with
      | d h =>
        cases h with
        | a hl h =>
          rename_i vs
          have h' : ∀ (i : Nat) (c : FV) (z : Value), (cs.map FV.d)[i]? = some c → vs[i]? = some z → RepF σ β I w n c z := by
            intro i c z hc hz
            simp only [List.getElem?_map, Option.map_eq_some_iff] at hc
            obtain ⟨d, hd, rfl⟩ := hc
            exact .d (h i d z hd hz)
          exact ⟨by show vs.size = (cs.map FV.d).length; rw [List.length_map]; exact hl, h', key _ vs (by rw [List.length_map]; exact hl) h' ho⟩
    | _ => exact single _ _ h rfl (by simpa [FV.cells] using ho)
  | _ => exact single _ _ h rfl (by simpa [FV.cells] using ho)

theorem RepD.norm1 {c : D} {x : Value} (h : RepD σ I w c x) : RepD σ I w c.norm1 x := by
  cases h with
  | n sz => exact .s0 sz
  | v x => exact .v x
  | fn h => exact .fn h
  | i t x => exact .i t x
  | s0 sz => exact .s0 sz
  | s u h1 h2 h3 h4 h5 h6 => exact .s u h1 h2 h3 h4 h5 h6
  | a h1 h2 => exact .a h1 h2
  | t h1 h2 => exact .t h1 h2

theorem RepD.norm {c : D} {x : Value} (h : RepD σ I w c x) : RepD σ I w c.norm x := by
  cases h with
  | n sz => exact .s0 sz
  | v x => exact .v x
  | fn h => exact .fn h
  | i t x => exact .i t x
  | s0 sz => exact .s0 sz
  | s u h1 h2 h3 h4 h5 h6 => exact .s u h1 h2 h3 h4 h5 h6
  | a h1 h2 => exact .a (by simpa using h1) (fun i c y hc hy => by
      simp only [List.getElem?_map, Option.map_eq_some_iff] at hc
      obtain ⟨d, hd, rfl⟩ := hc
      exact (h2 i d y hd hy).norm1)
  | t h1 h2 => exact .t (by simpa using h1) (fun i c y hc hy => by
      simp only [List.getElem?_map, Option.map_eq_some_iff] at hc
      obtain ⟨d, hd, rfl⟩ := hc
      exact (h2 i d y hd hy).norm1)

theorem y_box {e : TypeId} {x : Operand} {f : FV} (ho : f.cells.all FV.one = true) (hS : SimH σ st.base.length β I Wr wd (st.base ++ st.loc) w) (hx : RepF σ β I w st.base.length f (ρ x)) :
    Yields P ⟨dst, .box e x, type, pos, after, guard⟩ ρ w (Post σ st.base.length (st.base ++ st.loc).length β I Wr wd w (st.push (.box f.cells)) (.r (.loc st.loc.length) 0)) := by
  obtain ⟨h1, h2, _⟩ := hx.cells ho
  obtain ⟨g1, g2⟩ := hS.push (ρ x).cells e (.box f.cells) 0 0 (.inl ⟨_, rfl, rfl, h1, h2⟩)
  refine yields_value (x := .pointer (some ⟨w.heap.size, 0, none⟩)) (w' := w.alloc (.cells (ρ x).cells e)) ?_ ⟨_, _, g1, by rw [St.push_eq]; exact g2, ?_, put_keep⟩
  · simp [execOp, Instr.box, newVar, newRow]
  · have := RepF.r (σ := σ) (β := β.put (st.base ++ st.loc).length 0 (w.heap.size, 0, 0)) (I := I) (w := w.alloc (.cells (ρ x).cells e)) (n := st.base.length) (p := .loc st.loc.length) (off := 0) (b := w.heap.size) (bo := 0) (cap := 0)
      (by simp only [Ref.abs, List.length_append]; exact Map.put_same _ _ _ _)
    exact this

/-- The cells of a type's zero value. -/
theorem repD_constD {cx : Cx} (hgid : ∀ f g, cx.gid f = some g → σ g = some f) {hint : Nat} {x : Value} {y : D} (h : constD cx hint x = some y) : RepD σ I w y x := by
  unfold constD at h
  split at h
  · simp at h; subst h; exact .n _
  · split at h
    · rename_i f first captured hh
      split at h <;> simp at h
      subst h
      rename_i hg
      have e1 : first = #[] := by simpa using hh.1
      have e2 : captured = #[] := by simpa using hh.2
      subst e1; subst e2
      exact .fn (hgid _ _ hg)
    · simp at h
  · simp at h
  · simp at h
  · simp at h
  · simp at h; subst h; exact .v _

theorem constD_one {cx : Cx} {hint : Nat} {x : Value} {y : D} (h : constD cx hint x = some y) : y.one = true := by
  unfold constD at h
  split at h
  · simp at h; subst h; rfl
  · split at h
    · split at h <;> simp at h
      subst h; rfl
    · simp at h
  · simp at h
  · simp at h
  · simp at h
  · rename_i h1 h2 h3 h4 h5
    simp at h; subst h
    cases x <;> first | rfl | exact absurd rfl (h4 _) | exact absurd rfl (h5 _)

theorem repD_constDs {cx : Cx} (hgid : ∀ f g, cx.gid f = some g → σ g = some f) : ∀ {hs : List Nat} {xs : List Value} {ys : List D}, constDs cx hs xs = some ys →
    ys.length = xs.length ∧ (∀ (i : Nat) (y : D) (x : Value), ys[i]? = some y → xs[i]? = some x → RepD σ I w y x) ∧ ∀ y ∈ ys, y.one = true
  | hs, [], ys, h => by simp [constDs] at h; subst h; exact ⟨rfl, fun i y x hy => by simp at hy, fun y hy => by simp at hy⟩
  | hs, x :: r, ys, h => by
    simp only [constDs] at h
    split at h <;> simp at h
    subst h
    rename_i y s h1 h2
    obtain ⟨g1, g2, g3⟩ := repD_constDs hgid h2
    refine ⟨by simp [g1], ?_, ?_⟩
    · intro i a b ha hb
      cases i with
      | zero => simp at ha hb; subst ha; subst hb; exact repD_constD hgid h1
      | succ i => exact g2 i a b (by simpa using ha) (by simpa using hb)
    · intro a ha
      simp only [List.mem_cons] at ha
      rcases ha with rfl | ha
      · exact constD_one h1
      · exact g3 a ha

theorem zeroD_spec {cx : Cx} (hgid : ∀ f g, cx.gid f = some g → σ g = some f) {t : TypeId} {z : List D} (h : zeroD cx P t = some z) :
    ∃ i zv, P.info? t = some i ∧ i.zero = some zv ∧ z.length = zv.cells.size ∧ (∀ (j : Nat) (y : D) (x : Value), z[j]? = some y → zv.cells[j]? = some x → RepD σ I w y x) ∧ ∀ y ∈ z, y.one = true := by
  unfold zeroD at h
  split at h
  · rename_i i hi
    split at h
    · rename_i zv hz
      obtain ⟨g1, g2, g3⟩ := repD_constDs (σ := σ) (I := I) (w := w) hgid h
      exact ⟨i, zv, hi, hz, by simpa using g1, fun j y x hy hx => g2 j y x hy (by simpa using hx), g3⟩
    · simp at h
  · simp at h

theorem y_new {cx : Cx} (hgid : ∀ f g, cx.gid f = some g → σ g = some f) {e : TypeId} {z : List D} (hz : zeroD cx P e = some z) (hS : SimH σ st.base.length β I Wr wd (st.base ++ st.loc) w) :
    Yields P ⟨dst, .alloc e, type, pos, after, guard⟩ ρ w (Post σ st.base.length (st.base ++ st.loc).length β I Wr wd w (st.push (.box (z.map .d))) (.r (.loc st.loc.length) 0)) := by
  obtain ⟨i, zv, hi, hzv, hl, hrep, _⟩ := zeroD_spec (σ := σ) (I := I) (w := w) hgid hz
  obtain ⟨g1, g2⟩ := hS.push zv.cells e (.box (z.map .d)) 0 0 (.inl ⟨_, rfl, rfl, by simp [hl], fun j f x hf hx => by
    simp only [List.getElem?_map, Option.map_eq_some_iff] at hf
    obtain ⟨d, hd, rfl⟩ := hf
    exact .d (hrep j d x hd hx)⟩)
  refine yields_value (x := .pointer (some ⟨w.heap.size, 0, none⟩)) (w' := w.alloc (.cells zv.cells e)) ?_ ⟨_, _, g1, by rw [St.push_eq]; exact g2, ?_, put_keep⟩
  · simp [execOp, Instr.alloc, zeroValue, typeInfo, hi, hzv, newVar, newRow]
  · have := RepF.r (σ := σ) (β := β.put (st.base ++ st.loc).length 0 (w.heap.size, 0, 0)) (I := I) (w := w.alloc (.cells zv.cells e)) (n := st.base.length) (p := .loc st.loc.length) (off := 0) (b := w.heap.size) (bo := 0) (cap := 0)
      (by simp only [Ref.abs, List.length_append]; exact Map.put_same _ _ _ _)
    exact this
end ops
end Fi
