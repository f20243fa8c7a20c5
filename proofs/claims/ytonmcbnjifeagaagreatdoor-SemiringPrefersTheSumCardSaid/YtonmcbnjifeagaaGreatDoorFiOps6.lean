/-
  One operation of the model does what the functional interpreter says: make, literals, lengths, slices, closures.
-/
import Derived.Test.YtonmcbnjifeagaaGreatDoorFiOps5
set_option linter.unusedVariables false
set_option linter.unusedSimpArgs false
namespace Fi
open Go

section fill
theorem foldl_set (off : Nat) : ∀ (l : List Value) (k : Nat) (cells : Array Value), off + k + l.length ≤ cells.size →
    (l.zipIdx k).foldl (fun cs (p : Value × Nat) => cs.setIfInBounds (off + p.2) p.1) cells = (splice cells.toList (off + k) l).toArray
  | [], k, cells, _ => by simp [splice]
  | v :: r, k, cells, h => by
    simp only [List.length_cons] at h
    rw [List.zipIdx_cons, List.foldl_cons, foldl_set off r (k + 1) _ (by simp; omega)]
    congr 1
    apply List.ext_getElem?
    intro p
    rw [getElem?_splice _ _ _ (by simp; omega), getElem?_splice _ _ _ (by simp; omega)]
    simp only [Array.toList_setIfInBounds, List.length_cons]
    by_cases h1 : p < off + k
    · rw [if_pos (by omega), if_pos h1, List.getElem?_set_ne (by omega)]
    · by_cases h2 : p = off + k
      · subst h2
        rw [if_pos (by omega), if_neg (by omega), if_pos (by omega), List.getElem?_set_self (by simp; omega)]
        simp
      · rw [if_neg (by omega), if_neg h1]
        by_cases h3 : p < off + k + (r.length + 1)
        · rw [if_pos (by omega), if_pos h3]
          rw [show p - (off + k) = (p - (off + (k + 1))) + 1 by omega]
          simp
        · rw [if_neg (by omega), if_neg h3, List.getElem?_set_ne (by omega)]

theorem fill_step (place : Nat → Option (Nat × Nat)) (cells : Array Value) (i : Nat) (v : Value) (rest : List (Nat × Value)) {off size : Nat} (hp : place i = some (off, size)) (hv : v.cells.size = size) (hle : off + size ≤ cells.size) :
    Instr.fill place cells ((i, v) :: rest) = Instr.fill place (splice cells.toList off v.cells.toList).toArray rest := by
  have hz : v.cells.zipIdx.foldl (fun cs (p : Value × Nat) => cs.setIfInBounds (off + p.2) p.1) cells = (splice cells.toList off v.cells.toList).toArray := by
    have := foldl_set off v.cells.toList 0 cells (by simp; omega)
    rw [Nat.add_zero] at this
    rw [← this, ← Array.foldl_toList]
    congr 1
    simp
  have h1 : (v.cells.size ≠ size || decide (off + v.cells.size > cells.size)) = false := by simp [hv]; omega
  simp only [Instr.fill, hp]
  rw [if_neg (by simpa using h1)]
  rw [← hz]
end fill

section ops
variable {P : Program} {σ : Nat → Option FuncId} {β : Map} {I Wr : Nat → Prop} {wd : Nat → Prop} {w : World} {st : St} {ρ : Operand → Value}
variable {dst : Option Tmp} {type : TypeId} {pos : String} {after : Array Edge} {guard : Option (Nat × Bool)}

/-- An element put into a row. -/
theorem Elems.set {sz i : Nat} {es : List D} {cells : List Value} {y : D} {vs : List Value} (h : Elems σ I w sz es cells) (hi : i < es.length) (hw : y.cells.length = sz) (ho : ∀ c ∈ y.cells, c.one = true) (hl : vs.length = sz)
    (h1 : ∀ v ∈ vs, v.oneCell' = true) (hr : ∀ (j : Nat) (d : D) (x : Value), y.cells[j]? = some d → vs[j]? = some x → RepD σ I w d x) : Elems σ I w sz (es.set i y) (splice cells (i * sz) vs) := by
  have hle : i * sz + vs.length ≤ cells.length := by
    rw [h.len, hl]
    have : (i + 1) * sz ≤ es.length * sz := Nat.mul_le_mul_right _ hi
    rw [Nat.add_mul] at this; omega
  refine ⟨by rw [length_splice _ _ _ hle, List.length_set, h.len], ?_, ?_, ?_, ?_⟩
  · intro e he
    rcases List.mem_or_eq_of_mem_set he with he | rfl
    · exact h.wide e he
    · exact hw
  · intro e he
    rcases List.mem_or_eq_of_mem_set he with he | rfl
    · exact h.one e he
    · exact ho
  · intro v hv
    rcases mem_splice hv with hv | hv
    · exact h.cell1 v hv
    · exact h1 v hv
  · intro i' e j d he hd
    rw [getElem?_splice _ _ _ hle]
    by_cases hii : i' = i
    · subst hii
      rw [List.getElem?_set_self hi] at he
      cases he
      have hj : j < sz := by rw [← hw]; exact (List.getElem?_eq_some_iff.1 hd).1
      rw [if_neg (by omega), if_pos (by omega), show i' * sz + j - i' * sz = j by omega]
      have hx : vs[j]? = some (vs[j]'(by omega)) := List.getElem?_eq_getElem _
      exact ⟨_, hx, hr j d _ hd hx⟩
    · rw [List.getElem?_set_ne (Ne.symm hii)] at he
      obtain ⟨x, h1', h2'⟩ := h.rep i' e j d he hd
      have hj : j < sz := by
        have := (List.getElem?_eq_some_iff.1 hd).1
        rw [h.wide _ (List.mem_of_getElem? he)] at this; exact this
      refine ⟨x, ?_, h2'⟩
      by_cases h5 : i' * sz + j < i * sz
      · rw [if_pos h5]; exact h1'
      · rw [if_neg h5, if_neg]
        · exact h1'
        · intro h6
          have : i' * sz + j = i * sz + (i' * sz + j - i * sz) := by omega
          exact rows_apart hii (by omega : i' * sz + j - i * sz < sz) hj this

theorem pureElem_spec {agg : Bool} {sz : Nat} {x : FV} {y : D} {v : Value} {n : Nat} (h : pureElem agg sz x = some y) (hr : RepF σ β I w n x v) :
    y.cells.length = sz ∧ (∀ c ∈ y.cells, c.one = true) ∧ RepD σ I w y v := by
  unfold pureElem at h
  split at h
  · rename_i y0
    have hr' : RepD σ I w y0.norm v := by cases hr with | d h => exact h.norm
    split at h
    · rename_i cs hcs
      split at h <;> simp at h
      rename_i hh
      subst h
      rw [hcs] at hr'
      exact ⟨hh.2.1, fun c hc => List.all_eq_true.1 hh.2.2 c hc, hr'⟩
    · rename_i hcs
      split at h <;> simp at h
      rename_i hh
      subst h
      rw [D.norm_one hh.2.2]
      exact ⟨by simp [hh.2.1], fun c hc => by simp at hc; subst hc; exact hh.2.2, hr'⟩
  · simp at h

theorem fill_lit {sz : Nat} : ∀ {parts : List (Nat × Value)} {ys : List D} {es es' : List D} {cells : Array Value}, Elems σ I w sz es cells.toList → parts.length = ys.length →
    (∀ (i : Nat) (p : Nat × Value) (y : D), parts[i]? = some p → ys[i]? = some y → y.cells.length = sz ∧ (∀ c ∈ y.cells, c.one = true) ∧ RepD σ I w y p.2) →
    fillE es ((parts.map (·.1)).zip ys) = some es' → ∃ cells', Instr.fill (fun i => some (i * sz, sz)) cells parts = some cells' ∧ Elems σ I w sz es' cells'.toList
  | [], ys, es, es', cells, hE, _, _, h => by
    simp [fillE] at h; subst h
    exact ⟨cells, rfl, hE⟩
  | (i, v) :: parts, [], es, es', cells, hE, hl, hp, h => by simp at hl
  | (i, v) :: parts, y :: ys, es, es', cells, hE, hl, hp, h => by
    simp only [List.map_cons, List.zip_cons_cons, fillE] at h
    split at h
    · rename_i hi
      obtain ⟨a1, a2, a3⟩ := hp 0 (i, v) y rfl rfl
      obtain ⟨b1, b2, b3⟩ := a3.cells (List.all_eq_true.2 a2)
      have b1' : v.cells.size = y.cells.length := b1
      have hE' := hE.set hi a1 a2 (vs := v.cells.toList) (by simp; omega) b3 (fun j d x hd hx => b2 j d x hd (by simpa using hx))
      have hle : i * sz + sz ≤ cells.size := by
        have e1 := hE.len
        have : (i + 1) * sz ≤ es.length * sz := Nat.mul_le_mul_right _ hi
        rw [Nat.add_mul] at this; simp at e1; omega
      have hst := fill_step (fun i => some (i * sz, sz)) cells i v parts rfl (by omega) hle
      obtain ⟨cells', c1, c2⟩ := fill_lit (cells := (splice cells.toList (i * sz) v.cells.toList).toArray) (by simpa using hE') (by simpa using hl)
        (fun k p z hk hz => hp (k + 1) p z (by simpa using hk) (by simpa using hz)) h
      exact ⟨cells', by rw [hst]; exact c1, c2⟩
    · simp at h

/-- Rows of zero values. -/
theorem zero_elems {z : List D} {zv : Value} {sz len : Nat} {g : Bool} (hl : z.length = zv.cells.size) (hsz : z.length = sz) (h0 : 0 < sz) (hrep : ∀ (j : Nat) (y : D) (x : Value), z[j]? = some y → zv.cells[j]? = some x → RepD σ I w y x)
    (hone : ∀ y ∈ z, y.one = true) (hg : ¬ (g = false ∧ sz ≠ 1)) :
    Elems σ I w sz (List.replicate len (if g then .a (z.map D.norm1) else (z.map D.norm1).headD (.t []))) ((Array.range (len * sz)).map (zv.cells[· % zv.cells.size]!)).toList ∧
      (if g then D.a (z.map D.norm1) else (z.map D.norm1).headD (.t [])).cells = z.map D.norm1 := by
  have hn1 : ∀ y ∈ z, y.norm1.one = true := fun y hy => by
    have := hone y hy
    cases y <;> first | rfl | exact this
  have hc : (if g then D.a (z.map D.norm1) else (z.map D.norm1).headD (.t [])).cells = z.map D.norm1 := by
    cases g
    · have h1 : sz = 1 := by simpa using hg
      rw [h1] at hsz
      match z, hsz with
      | [c], _ =>
        simp only [Bool.false_eq_true, if_false, List.map_cons, List.map_nil, List.headD_cons]
        exact D.one_cells (hn1 c (by simp))
    · rfl
  refine ⟨⟨by simp, ?_, ?_, ?_, ?_⟩, hc⟩
  · intro e he
    rw [(List.mem_replicate.1 he).2, hc, List.length_map, hsz]
  · intro e he c hcc
    rw [(List.mem_replicate.1 he).2, hc] at hcc
    obtain ⟨y, hy, rfl⟩ := List.mem_map.1 hcc
    exact hn1 y hy
  · intro v hv
    simp only [Array.toList_map, List.mem_map] at hv
    obtain ⟨k, hk, rfl⟩ := hv
    have hlt : k % zv.cells.size < zv.cells.size := Nat.mod_lt _ (by omega)
    have hzk : z[k % zv.cells.size]? = some (z[k % zv.cells.size]'(by omega)) := List.getElem?_eq_getElem _
    have hvk : zv.cells[k % zv.cells.size]? = some zv.cells[k % zv.cells.size] := by simp [hlt]
    have : (zv.cells[k % zv.cells.size]!) = zv.cells[k % zv.cells.size] := by simp [hlt]
    rw [this]
    exact (hrep _ _ _ hzk hvk).oneCell (hone _ (List.getElem_mem _))
  · intro i e j d he hd
    have hi : i < len := by have := (List.getElem?_eq_some_iff.1 he).1; simpa using this
    rw [List.getElem?_replicate, if_pos hi] at he
    cases he
    rw [hc] at hd
    have hj : j < sz := by have := (List.getElem?_eq_some_iff.1 hd).1; rw [List.length_map, hsz] at this; exact this
    have hmod : (i * sz + j) % zv.cells.size = j := by
      rw [← hl, hsz, Nat.add_comm, Nat.add_mul_mod_self_right, Nat.mod_eq_of_lt hj]
    have hlt : j < zv.cells.size := by omega
    have hpos : i * sz + j < len * sz := by
      have : (i + 1) * sz ≤ len * sz := Nat.mul_le_mul_right _ hi
      rw [Nat.add_mul] at this; omega
    simp only [List.getElem?_map, Option.map_eq_some_iff] at hd
    obtain ⟨y, hy, rfl⟩ := hd
    refine ⟨zv.cells[j], ?_, (hrep j y _ hy (by simp [hlt])).norm1⟩
    simp [hpos, hmod, hlt]

theorem y_mk {t e : TypeId} {x y : Operand} {sz bytes : Nat} {g : Bool} {z : List D} {cx : Cx} {kl kc : IntKind} {l c : Int} (hgid : ∀ f g, cx.gid f = some g → σ g = some f) (ht : P.underlying t = some (.slice e)) (hm : sizeT P e = some sz) (hby : bytesT P e = some bytes)
    (hz : zeroD cx P e = some z) (hsz : 0 < sz) (hzl : z.length = sz) (hg : ¬ (g = false ∧ sz ≠ 1)) (h0 : 0 ≤ l) (hlc : l ≤ c) (hb : c * bytes ≤ most) (hmax : c ≤ most)
    (hS : SimH σ st.base.length β I Wr wd (st.base ++ st.loc) w) (hx : RepF σ β I w st.base.length (.d (.v (.int kl l))) (ρ x)) (hy : RepF σ β I w st.base.length (.d (.v (.int kc c))) (ρ y)) :
    Yields P ⟨dst, .makeSlice t x y, type, pos, after, guard⟩ ρ w
      (Post σ st.base.length (st.base ++ st.loc).length β I Wr wd w (st.push (.row 0 sz (List.replicate l.toNat (if g then .a (z.map D.norm1) else (z.map D.norm1).headD (.t []))))) (.ls (.loc st.loc.length) 0 sz 0 l.toNat)) := by
  obtain ⟨i, zv, hi, hzv, hzlen, hrep, hone⟩ := zeroD_spec (σ := σ) (I := I) (w := w) hgid hz
  have his : i.size = sz := by unfold sizeT at hm; rw [hi] at hm; simpa using hm
  have hib : i.bytes = bytes := by unfold bytesT at hby; rw [hi] at hby; simpa using hby
  have hrun := run_make (P := P) w t e i zv ht hi hzv kl kc l c h0 hlc (by rw [hib, Int.mul_comm]; unfold most at hb; omega) (by unfold most at hmax; omega)
  rw [his] at hrun
  obtain ⟨z1, z2⟩ := zero_elems (σ := σ) (I := I) (w := w) (len := c.toNat) hzlen hzl hsz hrep hone hg
  obtain ⟨k1, k2⟩ := hS.push (madeCells zv.cells (c.toNat * sz)) e (.row 0 sz (List.replicate l.toNat (if g then .a (z.map D.norm1) else (z.map D.norm1).headD (.t [])))) 0 c.toNat
    (.inr ⟨sz, _, rfl, hsz, by simp; omega, fun e' he' => by rw [(List.mem_replicate.1 he').2, z2, List.length_map, hzl], fun e' he' => by
      have hc0 : e' ∈ List.replicate (l.toNat) (if g then .a (z.map D.norm1) else (z.map D.norm1).headD (.t [])) := he'
      rw [(List.mem_replicate.1 he').2, z2]
      intro c1 hc1
      obtain ⟨y1, hy1, rfl⟩ := List.mem_map.1 hc1
      have := hone y1 hy1
      cases y1 <;> first | rfl | exact this, by rw [size_madeCells], fun i' e' j d he' hd => by
      have hi' : i' < l.toNat := by have := (List.getElem?_eq_some_iff.1 he').1; simpa using this
      rw [List.getElem?_replicate, if_pos hi'] at he'
      obtain ⟨x', hx1, hx2⟩ := z1.rep i' e' j d (by rw [List.getElem?_replicate, if_pos (by omega)]; exact he') hd
      exact ⟨x', by rw [← Array.getElem?_toList]; exact hx1, hx2⟩⟩)
  refine yields_value (x := .slice (some ⟨w.heap.size, 0, none⟩) l.toNat c.toNat) (w' := w.alloc (.cells (madeCells zv.cells (c.toNat * sz)) e)) ?_ ⟨_, I, k1, by rw [St.push_eq]; exact k2, ?_, put_keep⟩
  · simp only [execOp, hx.val, hy.val, Sem.run_bind, hrun, Result.andThen_ok]; rfl
  · have := RepF.ls (σ := σ) (β := β.put (st.base ++ st.loc).length 0 (w.heap.size, 0, c.toNat)) (I := I) (w := w.alloc (.cells (madeCells zv.cells (c.toNat * sz)) e)) (n := st.base.length)
      (p := .loc st.loc.length) (ver := 0) (sz := sz) (off := 0) (len := l.toNat) (o := 0) (by simp only [Ref.abs, List.length_append]; exact Map.put_same _ _ _ _) (by omega) (by simp)
    simpa using this

theorem y_lit {t e : TypeId} {sz len : Nat} {g : Bool} {parts : Array (Nat × Operand)} {z : List D} {cx : Cx} {ys es' : List D} (hgid : ∀ f g, cx.gid f = some g → σ g = some f) (ht : P.underlying t = some (.slice e)) (hm : sizeT P e = some sz)
    (hz : zeroD cx P e = some z) (hsz : 0 < sz) (hzl : z.length = sz) (hg : ¬ (g = false ∧ sz ≠ 1)) (hlen : len ≤ 1000) (hszm : sz ≤ 1000) (hpl : parts.toList.length = ys.length)
    (hp : ∀ (i : Nat) (p : Nat × Operand) (y : D), parts.toList[i]? = some p → ys[i]? = some y → y.cells.length = sz ∧ (∀ c ∈ y.cells, c.one = true) ∧ RepD σ I w y (ρ p.2))
    (hf : fillE (List.replicate len (if g then .a (z.map D.norm1) else (z.map D.norm1).headD (.t []))) ((parts.toList.map (·.1)).zip ys) = some es')
    (hS : SimH σ st.base.length β I Wr wd (st.base ++ st.loc) w) :
    Yields P ⟨dst, .buildSlice t len parts, type, pos, after, guard⟩ ρ w
      (if len = 0 then Post σ st.base.length (st.base ++ st.loc).length β I Wr wd w (st.push (.row 0 sz [])) (.ls (.loc st.loc.length) 0 sz 0 0) else Post σ st.base.length (st.base ++ st.loc).length β I Wr wd w st (.d (.s sz es'))) := by
  obtain ⟨i, zv, hi, hzv, hzlen, hrep, hone⟩ := zeroD_spec (σ := σ) (I := I) (w := w) hgid hz
  have his : i.size = sz := by unfold sizeT at hm; rw [hi] at hm; simpa using hm
  obtain ⟨z1, z2⟩ := zero_elems (σ := σ) (I := I) (w := w) (len := len) hzlen hzl hsz hrep hone hg
  obtain ⟨cells', f1, f2⟩ := fill_lit (parts := parts.toList.map fun p => (p.1, ρ p.2)) (ys := ys) (es' := es') (cells := (Array.range (len * sz)).map (zv.cells[· % zv.cells.size]!)) z1 (by simpa using hpl)
    (fun i p y hi hy => by
      simp only [List.getElem?_map, Option.map_eq_some_iff] at hi
      obtain ⟨q, hq, rfl⟩ := hi
      exact hp i q y hq hy) (by simpa [List.map_map, Function.comp_def] using hf)
  have hel : es'.length = len := by
    have : ∀ (ps : List (Nat × D)) (es es' : List D), fillE es ps = some es' → es'.length = es.length := by
      intro ps
      induction ps with
      | nil => intro es es' h; simp [fillE] at h; subst h; rfl
      | cons p ps ih =>
        intro es es' h
        obtain ⟨a, b⟩ := p
        simp only [fillE] at h
        split at h
        · rw [ih _ _ h, List.length_set]
        · simp at h
    rw [this _ _ _ hf, List.length_replicate]
  have hmul : len * sz ≤ 1000 * 1000 := Nat.mul_le_mul hlen hszm
  have hbig : ¬ (2 ^ 24 < len * sz) := by omega
  have hrun : (Instr.buildSlice t len (parts.map fun (i, x) => (i, ρ x))).run P w = .ok (.slice (some ⟨w.heap.size, 0, none⟩) len len) (w.alloc (.cells cells' e)) := by
    by_cases hl0 : len * sz = 0
    · have hc0 : (Array.range (len * sz)).map (zv.cells[· % zv.cells.size]!) = #[] := by rw [hl0, Array.range_zero']; simp
      rw [hc0] at f1
      simp [Instr.buildSlice, run_underlying ht, run_sizeOf hm, hl0, f1, newRow, Array.range_zero']
    · simp [Instr.buildSlice, run_underlying ht, run_sizeOf hm, hl0, hbig, zeroValue, typeInfo, hi, hzv, f1, newRow]
  by_cases hl : len = 0
  · subst hl
    have hes : es' = [] := List.eq_nil_of_length_eq_zero hel
    subst hes
    have hcz : cells'.toList = [] := List.eq_nil_of_length_eq_zero (by rw [f2.len]; simp)
    simp only [if_true]
    obtain ⟨k1, k2⟩ := hS.push cells' e (.row 0 sz []) 0 0 (.inr ⟨sz, [], rfl, hsz, Nat.le_refl _, by simp, by simp, by rw [← Array.length_toList, hcz]; simp, fun i e j d he => by simp at he⟩)
    refine yields_value (x := .slice (some ⟨w.heap.size, 0, none⟩) 0 0) (w' := w.alloc (.cells cells' e)) ?_ ⟨_, I, k1, by rw [St.push_eq]; exact k2, ?_, put_keep⟩
    · simp only [execOp, Sem.run_bind, hrun, Result.andThen_ok]; rfl
    · have := RepF.ls (σ := σ) (β := β.put (st.base ++ st.loc).length 0 (w.heap.size, 0, 0)) (I := I) (w := w.alloc (.cells cells' e)) (n := st.base.length)
        (p := .loc st.loc.length) (ver := 0) (sz := sz) (off := 0) (len := 0) (o := 0) (by simp only [Ref.abs, List.length_append]; exact Map.put_same _ _ _ _) (by omega) (by simp)
      simpa using this
  · rw [if_neg hl]
    -- the new block is data at once
    have hI : ∀ b, I b → (w.alloc (.cells cells' e)).heap[b]? = w.heap[b]? := fun b hb => alloc_old _ _ (hS.ilt b hb)
    have hSg := hS.grow (w' := w.alloc (.cells cells' e)) (by simp) (fun b hb => alloc_old _ _ hb)
    let I' : Nat → Prop := fun b => I b ∨ b = w.heap.size
    have hmono : ∀ b, I b → I' b := fun b hb => .inl hb
    have hS' : SimH σ st.base.length β I' Wr wd (st.base ++ st.loc) (w.alloc (.cells cells' e)) := by
      refine ⟨?_, hSg.blt, hSg.wnew, hSg.dom, hSg.vdom, ?_, ?_, ?_, ?_, hSg.inj⟩
      · rintro b (hb | rfl)
        · exact hSg.ilt b hb
        · simp
      · intro k o b bo cap h1 h2
        obtain ⟨a1, a2⟩ := hSg.wr k o b bo cap h1 h2
        refine ⟨a1, ?_⟩
        rintro (hb | rfl)
        · exact a2 hb
        · have := live_lt hS h2; omega
      · intro k cs b bo cap h1 h2
        obtain ⟨a0, c, e', a1, a2, a3⟩ := hSg.box k cs b bo cap h1 h2
        exact ⟨a0, c, e', a1, a2, fun j f x e1 e2 => (a3 j f x e1 e2).mono (fun _ _ _ h => h) hmono (fun _ _ => rfl)⟩
      · intro k ver sz' es b bo cap h1 h2
        obtain ⟨a0, c, e', a1, a2⟩ := hSg.row k ver sz' es b bo cap h1 h2
        exact ⟨a0.mono hmono (fun _ _ => rfl) rfl, c, e', a1, a2⟩
      · intro k ver sz' es b bo cap h1 h2
        obtain ⟨a0, a1⟩ := hSg.frz k ver sz' es b bo cap h1 h2
        exact ⟨a0.mono hmono (fun _ _ => rfl) rfl, .inl a1⟩
    have hext : Ext β β I I' Wr w (w.alloc (.cells cells' e)) :=
      ⟨fun _ _ _ h => h, hmono, fun b hb => hb.elim .inl (fun e => .inr (e ▸ hS.wnew _ (Nat.le_refl _))), by simp, hI, fun b hb _ => alloc_old _ _ hb, rfl, rfl, rfl⟩
    refine yields_value (x := .slice (some ⟨w.heap.size, 0, none⟩) len len) (w' := w.alloc (.cells cells' e)) ?_ ⟨β, I', hext, hS', .d ?_, fun _ _ _ _ => rfl⟩
    · simp only [execOp, Sem.run_bind, hrun, Result.andThen_ok]; rfl
    · have hrep' : ∀ (i : Nat) (e' : D) (j : Nat) (c : D), es'[i]? = some e' → e'.cells[j]? = some c → ∃ x, (w.alloc (.cells cells' e)).cell? ⟨w.heap.size, 0 + i * sz + j, none⟩ = some x ∧ RepD σ I' (w.alloc (.cells cells' e)) c x := by
        intro i e' j c h1 h2
        obtain ⟨x, g1, g2⟩ := f2.rep i e' j c h1 h2
        refine ⟨x, ?_, g2.mono hmono hI⟩
        rw [World.cell?_alloc_new, Nat.zero_add, ← Array.getElem?_toList]; exact g1
      have := RepD.s (σ := σ) (I := I') (w := w.alloc (.cells cells' e)) (sz := sz) (es := es') (b := w.heap.size) (off := 0) (cap := len)
        (fun i j => ((w.alloc (.cells cells' e)).cell? ⟨w.heap.size, 0 + i * sz + j, none⟩).getD undef) (.inr rfl) (by omega) f2.wide f2.one
        (fun i e' j c h1 h2 => by obtain ⟨x, g1, _⟩ := hrep' i e' j c h1 h2; simp only [g1, Option.getD_some])
        (fun i e' j c h1 h2 => by obtain ⟨x, g1, g2⟩ := hrep' i e' j c h1 h2; simp only [g1, Option.getD_some]; exact g2)
      rw [hel] at this
      exact this
end ops
end Fi
