/-
  One operation of the model does what the functional interpreter says: stores, literals, append, make.
-/
import Derived.Test.YtonmcbnjifeagaaGreatDoorFiOps2
set_option linter.unusedVariables false
set_option linter.unusedSimpArgs false
namespace Fi
open Go

section lists
theorem getElem?_splice {α : Type} (cs : List α) (off : Nat) (xs : List α) (hle : off + xs.length ≤ cs.length) (p : Nat) :
    (splice cs off xs)[p]? = if p < off then cs[p]? else if p < off + xs.length then xs[p - off]? else cs[p]? := by
  unfold splice
  have h1 : (cs.take off).length = off := by simp; omega
  by_cases hp : p < off
  · rw [if_pos hp, List.getElem?_append_left (by simp; omega), List.getElem?_append_left (by rw [h1]; exact hp), List.getElem?_take, if_pos hp]
  · rw [if_neg hp]
    by_cases hp2 : p < off + xs.length
    · rw [if_pos hp2, List.getElem?_append_left (by simp; omega), List.getElem?_append_right (by rw [h1]; omega), h1]
    · rw [if_neg hp2, List.getElem?_append_right (by simp; omega), List.getElem?_drop]
      congr 1
      simp
      omega

theorem length_splice {α : Type} (cs : List α) (off : Nat) (xs : List α) (hle : off + xs.length ≤ cs.length) : (splice cs off xs).length = cs.length := by
  unfold splice
  simp
  omega

theorem mem_splice {α : Type} {cs : List α} {off : Nat} {xs : List α} {y : α} (h : y ∈ splice cs off xs) : y ∈ cs ∨ y ∈ xs := by
  unfold splice at h
  simp only [List.mem_append] at h
  rcases h with (h | h) | h
  · exact .inl (List.mem_of_mem_take h)
  · exact .inr h
  · exact .inl (List.mem_of_mem_drop h)
end lists

section heap
variable {P : Program} {w : World}

theorem setRow_size (w : World) (g : Nat) (cs : Array Value) : (w.setRow g cs).heap.size = w.heap.size := by simp [World.setRow]
theorem setRow_other (w : World) (g : Nat) (cs : Array Value) {b : Nat} (h : b ≠ g) : (w.setRow g cs).heap[b]? = w.heap[b]? := by
  simp only [World.setRow, Array.getElem?_modify]
  rw [if_neg (by omega)]

/-- A store of cells into a block. -/
theorem run_storeVar {t : TypeId} {m : Nat} (hm : sizeT P t = some m) {b o : Nat} {cur : Array Value} {e : TypeId} (hb : w.heap[b]? = some (.cells cur e (0, 0))) {x : Value} (hx : x.cells.size = m)
    (hle : o + m ≤ cur.size) (h1 : ∀ y ∈ x.cells.toList, y.oneCell' = true) :
    (storeVar t ⟨b, o, none⟩ x).run P w = .ok () (w.setRow b (splice cur.toList o x.cells.toList).toArray) := by
  have h := run_storeCells_at P b o e x.cells.toList 0 cur w hb (by simp; omega) h1
  simp only [Nat.add_zero] at h
  simp only [storeVar, Sem.run_bind, run_sizeOf hm, Result.andThen_ok, hx, ne_eq, not_true, if_false]
  exact h
end heap

section ops
variable {P : Program} {σ : Nat → Option FuncId} {β : Map} {I Wr : Nat → Prop} {wd : Nat → Prop} {w : World} {st : St} {ρ : Operand → Value}
variable {dst : Option Tmp} {type : TypeId} {pos : String} {after : Array Edge} {guard : Option (Nat × Bool)}

theorem live_lt {n : Nat} {H : List AObj} (h : SimH σ n β I Wr wd H w) {k : Nat} {o : AObj} {b bo cap : Nat} (hl : o.live β k = some (b, bo, cap)) : b < w.heap.size := by
  cases o with
  | box cs => exact h.blt _ _ _ _ _ hl
  | row ver sz es => exact h.blt _ _ _ _ _ hl
  | frz ver sz es => cases hl

theorem repT_nil {n : Nat} : RepF σ β I w n (.d (.t [])) undef := .d (.t rfl (fun i c x hc => by simp at hc))

theorem y_store_r {t : TypeId} {x y : Operand} {q : Ref} {off m : Nat} {cs : List FV} {f : FV} (hm : sizeT P t = some m) (hq : st.heap q = some (.box cs)) (hl : f.cells.length = m) (hle : off + m ≤ cs.length)
    (ho : f.cells.all FV.one = true) (hd : MayW st.base.length (st.setHeap q (.box (splice cs off f.cells))) wd) (hS : SimH σ st.base.length β I Wr wd (st.base ++ st.loc) w) (hx : RepF σ β I w st.base.length (.r q off) (ρ x)) (hy : RepF σ β I w st.base.length f (ρ y)) :
    Yields P ⟨dst, .store t x y, type, pos, after, guard⟩ ρ w (Post σ st.base.length (st.base ++ st.loc).length β I Wr wd w (st.setHeap q (.box (splice cs off f.cells))) (.d (.t []))) := by
  generalize hρ : ρ x = xv at hx
  cases hx with
  | r hb =>
    rename_i b bo cap
    rw [St.heap_eq] at hq
    obtain ⟨rfl, c, e, h1, h2, h3⟩ := hS.box _ _ _ _ _ hq hb
    obtain ⟨g1, g2, g3⟩ := hy.cells ho
    have hrun := run_storeVar (P := P) hm h1 (x := ρ y) (o := off) (by omega) (by omega) g3
    rw [Nat.zero_add] at hρ
    have hb' := setRow_heap w b c (splice c.toList off (ρ y).cells.toList).toArray e (0, 0) h1
    have hkeep : ∀ z, I z → (w.setRow b (splice c.toList off (ρ y).cells.toList).toArray).heap[z]? = w.heap[z]? := fun z hz => setRow_other _ _ _ (fun he => (hS.wr _ _ b 0 cap hq hb).2 (he ▸ hz))
    have ha1 : (splice c.toList off (ρ y).cells.toList).toArray.size = (splice cs off f.cells).length := by
      rw [List.size_toArray, length_splice _ _ _ (by simp; omega), length_splice _ _ _ (by omega)]
      simpa using h2
    have ha2 : ∀ (j : Nat) (f' : FV) (z : Value), (splice cs off f.cells)[j]? = some f' → (splice c.toList off (ρ y).cells.toList).toArray[j]? = some z →
        RepF σ β I (w.setRow b (splice c.toList off (ρ y).cells.toList).toArray) st.base.length f' z := by
      intro j f' z hf' hz
      rw [getElem?_splice _ _ _ (by omega)] at hf'
      rw [List.getElem?_toArray, getElem?_splice _ _ _ (by simp; omega)] at hz
      have hlen : (ρ y).cells.toList.length = f.cells.length := by simpa using g1
      rw [hlen] at hz
      by_cases h5 : j < off
      · rw [if_pos h5] at hf' hz
        exact (h3 j f' z hf' (by simpa using hz)).mono (fun _ _ _ e => e) (fun _ e => e) hkeep
      · rw [if_neg h5] at hf' hz
        by_cases h6 : j < off + f.cells.length
        · rw [if_pos h6] at hf' hz
          exact (g2 _ f' z hf' (by simpa using hz)).mono (fun _ _ _ e => e) (fun _ e => e) hkeep
        · rw [if_neg h6] at hf' hz
          exact (h3 j f' z hf' (by simpa using hz)).mono (fun _ _ _ e => e) (fun _ e => e) hkeep

    obtain ⟨k1, k2⟩ := hS.upd (hkw := St.setHeap_dirty _ _ _ hd) (w' := w.setRow b (splice c.toList off (ρ y).cells.toList).toArray) hq (show (AObj.box cs).live β _ = some (b, 0, cap) from hb) (.box (splice cs off f.cells)) 0 b 0 cap
      (by rw [setRow_size]; exact Nat.le_refl _) (fun z _ hz => setRow_other _ _ _ hz) (.inl rfl) (by rw [setRow_size]; exact hS.blt _ _ _ _ _ hb) (fun z hz => by rw [hb] at hz; cases hz; rfl)
      rfl rfl rfl (.inl ⟨_, _, e, rfl, rfl, rfl, hb', ha1, ha2⟩)
    refine yields_skip (w' := w.setRow b (splice c.toList off (ρ y).cells.toList).toArray) ?_ ⟨_, I, k1, by rw [St.setHeap_eq]; exact k2, repT_nil, put_keepw (St.setHeap_dirty _ _ _ hd)⟩
    simp [execOp, hρ, Instr.storeAt, Instr.sureAddr, hrun]

/-- Positions in different rows of one width are apart. -/
theorem rows_apart {i i' j j' sz : Nat} (h : i' ≠ i) (hj : j < sz) (hj' : j' < sz) : i' * sz + j' ≠ i * sz + j := by
  intro he
  have h1 : (i' * sz + j') / sz = i' := by
    rw [Nat.mul_comm, Nat.mul_add_div (by omega), Nat.div_eq_of_lt hj', Nat.add_zero]
  have h2 : (i * sz + j) / sz = i := by
    rw [Nat.mul_comm, Nat.mul_add_div (by omega), Nat.div_eq_of_lt hj, Nat.add_zero]
  rw [he, h2] at h1
  exact h h1.symm

theorem D.norm_one {v : D} (h : v.norm.one = true) : v.norm.cells = [v.norm] := D.one_cells h

theorem RepD.cells {v : D} {x : Value} (h : RepD σ I w v x) (ho : v.cells.all D.one = true) :
    x.cells.size = v.cells.length ∧ (∀ (i : Nat) (c : D) (y : Value), v.cells[i]? = some c → x.cells[i]? = some y → RepD σ I w c y) ∧ ∀ y ∈ x.cells.toList, y.oneCell' = true := by
  have h' : RepF σ (fun _ _ => none) I w 0 (.d v) x := .d h
  have hc : (FV.d v).cells = v.cells.map .d := by cases v <;> rfl
  obtain ⟨a1, a2, a3⟩ := h'.cells (by rw [hc, List.all_map]; exact ho)
  refine ⟨by rw [a1, hc, List.length_map], fun i c y h1 h2 => ?_, a3⟩
  have := a2 i (.d c) y (by rw [hc]; simp [h1]) h2
  cases this with | d h => exact h

theorem y_store_e {t : TypeId} {x y : Operand} {q : Ref} {ver sz i off m : Nat} {es : List D} {e0 v e1 : D} (hm : sizeT P t = some m) (hq : st.heap q = some (.row ver sz es)) (he : es[i]? = some e0)
    (hl : v.norm.cells.length = m) (ho : v.norm.cells.all D.one = true) (hle : off + m ≤ e0.cells.length) (he1 : e1.cells = splice e0.cells off v.norm.cells)
    (hd : MayW st.base.length (st.setHeap q (.row ver sz (es.set i e1))) wd) (hS : SimH σ st.base.length β I Wr wd (st.base ++ st.loc) w) (hx : RepF σ β I w st.base.length (.e q ver sz i off) (ρ x)) (hy : RepF σ β I w st.base.length (.d v) (ρ y)) :
    Yields P ⟨dst, .store t x y, type, pos, after, guard⟩ ρ w (Post σ st.base.length (st.base ++ st.loc).length β I Wr wd w (st.setHeap q (.row ver sz (es.set i e1))) (.d (.t []))) := by
  generalize hρ : ρ x = xv at hx
  have hy' : RepD σ I w v (ρ y) := by cases hy with | d h => exact h
  cases hx with
  | e hb =>
    rename_i b bo cap
    rw [St.heap_eq] at hq
    obtain ⟨hat, c, e, h1, h2⟩ := hS.row _ _ _ _ _ _ _ hq hb
    obtain ⟨g1, g2, g3⟩ := (hy'.norm).cells ho
    have hi : i < es.length := (List.getElem?_eq_some_iff.1 he).1
    have hwide : e0.cells.length = sz := hat.wide _ (List.mem_of_getElem? he)
    have hin : bo + i * sz + sz ≤ c.size := by
      have : (i + 1) * sz ≤ cap * sz := Nat.mul_le_mul_right _ (by have := hat.fit; omega)
      rw [Nat.add_mul] at this; omega
    have hrun := run_storeVar (P := P) hm h1 (x := ρ y) (o := bo + i * sz + off) (by omega) (by omega) g3
    have hb' := setRow_heap w b c (splice c.toList (bo + i * sz + off) (ρ y).cells.toList).toArray e (0, 0) h1
    have hlen : (ρ y).cells.toList.length = v.norm.cells.length := by simpa using g1
    have hkeep : ∀ z, I z → (w.setRow b (splice c.toList (bo + i * sz + off) (ρ y).cells.toList).toArray).heap[z]? = w.heap[z]? := fun z hz => setRow_other _ _ _ (fun he => (hS.wr _ _ b bo cap hq hb).2 (he ▸ hz))
    have hcell : ∀ k, (w.setRow b (splice c.toList (bo + i * sz + off) (ρ y).cells.toList).toArray).cell? ⟨b, k, none⟩ =
        if k < bo + i * sz + off then c[k]? else if k < bo + i * sz + off + v.norm.cells.length then (ρ y).cells[k - (bo + i * sz + off)]? else c[k]? := by
      intro k
      simp only [World.cell?, hb', Option.isSome_none, Bool.false_eq_true, if_false]
      rw [List.getElem?_toArray, getElem?_splice _ _ _ (by simp; omega), hlen]
      simp
    have hrow' : ∀ k c' x', w.cell? ⟨b, k, none⟩ = some x' → c[k]? = some c' → x' = c' := by
      intro k c' x' hk hc
      simp only [World.cell?, h1, Option.isSome_none, Bool.false_eq_true, if_false] at hk
      rw [hk] at hc; cases hc; rfl
    have hwcell : ∀ k, w.cell? ⟨b, k, none⟩ = c[k]? := fun k => by simp [World.cell?, h1]
    have ha1 : (splice c.toList (bo + i * sz + off) (ρ y).cells.toList).toArray.size = bo + cap * sz := by
      rw [List.size_toArray, length_splice _ _ _ (by simp; omega)]
      simpa using h2
    have ha2 : AtRows σ I (w.setRow b (splice c.toList (bo + i * sz + off) (ρ y).cells.toList).toArray) b bo cap sz (es.set i e1) := by
      have hmem : ∀ e' ∈ es.set i e1, e' ∈ es ∨ e' = e1 := fun e' he' => by
        rcases List.mem_or_eq_of_mem_set he' with h | h
        · exact .inl h
        · exact .inr h
      refine ⟨hat.pos, by rw [List.length_set]; exact hat.fit, ?_, ?_, ?_⟩
      · intro e' he'
        rcases hmem e' he' with h | rfl
        · exact hat.wide _ h
        · rw [he1, length_splice _ _ _ (by omega), hwide]
      · intro e' he' c' hc'
        rcases hmem e' he' with h | rfl
        · exact hat.one _ h _ hc'
        · rw [he1] at hc'
          rcases mem_splice hc' with h | h
          · exact hat.one _ (List.mem_of_getElem? he) _ h
          · exact List.all_eq_true.1 ho _ h
      · intro i' e' he' j d hd
        by_cases hii : i' = i
        · subst hii
          rw [List.getElem?_set_self hi] at he'
          cases he'
          rw [he1, getElem?_splice _ _ _ (by omega)] at hd
          rw [hcell]
          by_cases h5 : j < off
          · rw [if_pos h5] at hd
            rw [if_pos (by omega)]
            obtain ⟨z, hz1, hz2⟩ := hat.at_ i' e0 he j d hd
            exact ⟨z, by rw [← hwcell]; exact hz1, hz2.mono (fun _ e => e) hkeep⟩
          · rw [if_neg h5] at hd
            rw [if_neg (by omega)]
            by_cases h6 : j < off + v.norm.cells.length
            · rw [if_pos h6] at hd
              rw [if_pos (by omega)]
              have hlt : j - off < (ρ y).cells.size := by rw [g1]; omega
              have e2 : bo + i' * sz + j - (bo + i' * sz + off) = j - off := by omega
              rw [e2]
              have hz : (ρ y).cells[j - off]? = some ((ρ y).cells[j - off]) := by simp [hlt]
              exact ⟨_, hz, (g2 _ d _ hd hz).mono (fun _ e => e) hkeep⟩
            · rw [if_neg h6] at hd
              rw [if_neg (by omega)]
              obtain ⟨z, hz1, hz2⟩ := hat.at_ i' e0 he j d hd
              exact ⟨z, by rw [← hwcell]; exact hz1, hz2.mono (fun _ e => e) hkeep⟩
        · rw [List.getElem?_set_ne (Ne.symm hii)] at he'
          obtain ⟨z, hz1, hz2⟩ := hat.at_ i' e' he' j d hd
          refine ⟨z, ?_, hz2.mono (fun _ e => e) hkeep⟩
          have hj : j < sz := by
            have := (List.getElem?_eq_some_iff.1 hd).1
            rw [hat.wide _ (List.mem_of_getElem? he')] at this; exact this
          rw [hcell, ← hwcell, hz1]
          by_cases h5 : bo + i' * sz + j < bo + i * sz + off
          · rw [if_pos h5]
          · rw [if_neg h5, if_neg]
            intro h6
            have : i' * sz + j = i * sz + (i' * sz + j - i * sz) := by omega
            exact rows_apart hii (by omega : i' * sz + j - i * sz < sz) hj this
    obtain ⟨k1, k2⟩ := hS.upd (hkw := St.setHeap_dirty _ _ _ hd) (w' := w.setRow b (splice c.toList (bo + i * sz + off) (ρ y).cells.toList).toArray) hq (show (AObj.row ver sz es).live β _ = some (b, bo, cap) from hb) (.row ver sz (es.set i e1)) ver b bo cap
      (by rw [setRow_size]; exact Nat.le_refl _) (fun z _ hz => setRow_other _ _ _ hz) (.inl rfl) (by rw [setRow_size]; exact hS.blt _ _ _ _ _ hb) (fun z hz => by rw [hb] at hz; cases hz; rfl)
      rfl rfl rfl (.inr ⟨sz, _, _, e, rfl, fun v' z hz => hS.vdom _ _ _ _ _ _ hq hz, hb', ha1, ha2⟩)
    refine yields_skip (w' := w.setRow b (splice c.toList (bo + i * sz + off) (ρ y).cells.toList).toArray) ?_ ⟨_, I, k1, by rw [St.setHeap_eq]; exact k2, repT_nil, put_keepw (St.setHeap_dirty _ _ _ hd)⟩
    simp [execOp, hρ, Instr.storeAt, Instr.sureAddr, hrun]

end ops
end Fi
