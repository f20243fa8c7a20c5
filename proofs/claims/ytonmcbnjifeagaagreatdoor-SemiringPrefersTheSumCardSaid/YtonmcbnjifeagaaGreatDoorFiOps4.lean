/-
  One operation of the model does what the functional interpreter says: append, make, literals, slices of slices.
-/
import Derived.Test.YtonmcbnjifeagaaGreatDoorFiOps3
set_option linter.unusedVariables false
set_option linter.unusedSimpArgs false
namespace Fi
open Go

section sem
variable {P : Program} {w : World}

theorem run_firstCells_some' (size n : Nat) (b : Addr) (len cap : Nat) (cs : List Value) (hl : cs.length = n * size) (h : ∀ (j : Nat) (v : Value), cs[j]? = some v → w.cell? (b.add j) = some v) :
    (Builtin.firstCells size n (.slice (some b) len cap)).run P w = .ok cs.toArray w := run_firstCells_some w size n b len cap cs hl h

/-- append in place, at whatever cell of its block the slice begins. -/
theorem run_append_here {t u ty e e' : TypeId} {i : TypeInfo} (ht : P.underlying t = some (.slice e)) (hu : P.underlying u = some (.slice e')) (hi : P.info? e = some i)
    {g o sLen sCap m : Nat} {cur : Array Value} {t' : TypeId} (hg : w.heap[g]? = some (.cells cur t' (0, 0))) {x : Value} {news : List Value} (hlen : (Builtin.lenOf x).run P w = .ok m w)
    (hf : (Builtin.firstCells i.size m x).run P w = .ok news.toArray w) (h1 : ∀ v ∈ news, v.oneCell' = true) (hroom : sLen + m ≤ sCap) (hfit : o + sLen * i.size + news.length ≤ cur.size) :
    (Builtin.append_ #[t, u] ty #[.slice (some ⟨g, o, none⟩) sLen sCap, x]).run P w =
      .ok (.slice (some ⟨g, o, none⟩) (sLen + m) sCap) (w.setRow g (splice cur.toList (o + sLen * i.size) news).toArray) := by
  have hst := run_storeCells_at P g (o + sLen * i.size) t' news 0 cur w hg (by simpa using hfit) h1
  simp only [Nat.add_zero] at hst
  have hst' : (storeCells ⟨g, o + sLen * i.size, none⟩ news).run P w = .ok () (w.setRow g (splice cur.toList (o + sLen * i.size) news).toArray) := hst
  simp [Builtin.append_, run_underlying ht, run_underlying hu, Go.sizeOf, typeInfo, hi, hlen, hroom, hf, add_none, hst']

/-- append with no base and nothing to append. -/
theorem run_append_nothing {t u ty e e' : TypeId} {i : TypeInfo} (ht : P.underlying t = some (.slice e)) (hu : P.underlying u = some (.slice e')) (hi : P.info? e = some i)
    {x : Value} (hlen : (Builtin.lenOf x).run P w = .ok 0 w) (hf : (Builtin.firstCells i.size 0 x).run P w = .ok #[] w) :
    (Builtin.append_ #[t, u] ty #[.slice none 0 0, x]).run P w = .ok (.slice none 0 0) w := by
  simp [Builtin.append_, run_underlying ht, run_underlying hu, Go.sizeOf, typeInfo, hi, hlen, hf]

theorem run_append_grows {t u ty e e' : TypeId} {i : TypeInfo} {z : Value} (ht : P.underlying t = some (.slice e)) (hu : P.underlying u = some (.slice e')) (hi : P.info? e = some i) (hz : i.zero = some z)
    {base : Option Addr} {sLen sCap m : Nat} {x : Value} {olds news : List Value} (hlen : (Builtin.lenOf x).run P w = .ok m w)
    (hfo : (Builtin.firstCells i.size sLen (.slice base sLen sCap)).run P w.drew = .ok olds.toArray w.drew) (hf : (Builtin.firstCells i.size m x).run P w.drew = .ok news.toArray w.drew)
    (hg : sCap < sLen + m) (h63 : ((sLen + m : Nat) : Int) ≤ 9223372036854775807) (hfit : Builtin.nextslicecap (sLen + m) sCap * i.bytes ≤ 281474976710656) :
    (Builtin.append_ #[t, u] ty #[.slice base sLen sCap, x]).run P w =
      .ok (.slice (some ⟨w.heap.size, 0, none⟩) (sLen + m) (grownCap w (sLen + m) sCap e))
        (w.drew.alloc (.cells (olds ++ news ++ (Builtin.zeroCells z.cells (grownCap w (sLen + m) sCap e - (sLen + m))).toList).toArray e)) := by
  have hn : ¬ (sLen + m ≤ sCap) := by omega
  have h63' : ¬ (9223372036854775807 < ((sLen : Int) + (m : Int))) := by omega
  have h48' : ¬ (281474976710656 < Builtin.nextslicecap (sLen + m) sCap * i.bytes) := by omega
  simp [Builtin.append_, run_underlying ht, run_underlying hu, Go.sizeOf, typeInfo, zeroValue, hi, hz, hlen, hn, h63', h48', Question.forced, hf, hfo, newRow, grownCap]
  congr 2
  apply Array.ext'
  simp

end sem

/-- A slice's elements, as they lie in memory. -/
structure Elems (σ : Nat → Option FuncId) (I : Nat → Prop) (w : World) (sz : Nat) (ys : List D) (news : List Value) : Prop where
  len : news.length = ys.length * sz
  wide : ∀ e ∈ ys, e.cells.length = sz
  one : ∀ e ∈ ys, ∀ c ∈ e.cells, c.one = true
  cell1 : ∀ v ∈ news, v.oneCell' = true
  rep : ∀ (i : Nat) (e : D) (j : Nat) (d : D), ys[i]? = some e → e.cells[j]? = some d → ∃ x, news[i * sz + j]? = some x ∧ RepD σ I w d x

theorem Elems.nil (σ : Nat → Option FuncId) (I : Nat → Prop) (w : World) (sz : Nat) : Elems σ I w sz [] [] :=
  ⟨by simp, by simp, by simp, by simp, fun i e j d h => by simp at h⟩

theorem getElem?_flat {α : Type} {sz i j : Nat} {l : List α} (hj : j < sz) {r : List α} (hl : l.length = i * sz) : (l ++ r)[(i * sz + j)]? = r[j]? := by
  rw [List.getElem?_append_right (by omega), hl]
  congr 1; omega

section elems
variable {σ : Nat → Option FuncId} {β : Map} {I Wr : Nat → Prop} {wd : Nat → Prop} {w : World}

theorem Elems.append {sz : Nat} {xs ys : List D} {vs us : List Value} (h : Elems σ I w sz xs vs) (k : Elems σ I w sz ys us) : Elems σ I w sz (xs ++ ys) (vs ++ us) := by
  refine ⟨by simp [h.len, k.len, Nat.add_mul], ?_, ?_, ?_, ?_⟩
  · intro e he; rcases List.mem_append.1 he with he | he
    · exact h.wide e he
    · exact k.wide e he
  · intro e he; rcases List.mem_append.1 he with he | he
    · exact h.one e he
    · exact k.one e he
  · intro e he; rcases List.mem_append.1 he with he | he
    · exact h.cell1 e he
    · exact k.cell1 e he
  · intro i e j d he hd
    by_cases hi : i < xs.length
    · rw [List.getElem?_append_left hi] at he
      obtain ⟨x, h1, h2⟩ := h.rep i e j d he hd
      have hlt := (List.getElem?_eq_some_iff.1 h1).1
      exact ⟨x, by rw [List.getElem?_append_left hlt]; exact h1, h2⟩
    · rw [List.getElem?_append_right (by omega)] at he
      obtain ⟨x, h1, h2⟩ := k.rep _ e j d he hd
      refine ⟨x, ?_, h2⟩
      have hge : xs.length * sz ≤ i * sz := Nat.mul_le_mul_right _ (by omega)
      rw [List.getElem?_append_right (by rw [h.len]; omega), h.len, ← h1]
      congr 1
      rw [Nat.sub_mul]; omega

/-- Rows in memory, as a list of their cells. -/
theorem elems_of {sz b o : Nat} {es : List D} (hsz : 0 < sz) (hwide : ∀ e ∈ es, e.cells.length = sz) (hone : ∀ e ∈ es, ∀ c ∈ e.cells, c.one = true)
    (hat : ∀ (i : Nat) (e : D), es[i]? = some e → AtD σ I w b (o + i * sz) e.cells) :
    ∃ news, Elems σ I w sz es news ∧ ∀ (j : Nat) (v : Value), news[j]? = some v → w.cell? ⟨b, o + j, none⟩ = some v := by
  induction es generalizing o with
  | nil => exact ⟨[], Elems.nil σ I w sz, fun j v h => by simp at h⟩
  | cons e es ih =>
    obtain ⟨xs, g1, g2, g3⟩ := (hat 0 e (by simp)).values
    simp only [Nat.zero_mul, Nat.add_zero] at g2
    obtain ⟨us, k1, k2⟩ := ih (o := o + sz) (fun e' he' => hwide e' (by simp [he'])) (fun e' he' => hone e' (by simp [he'])) (fun i e' he' => by
      have := hat (i + 1) e' (by simpa using he')
      rw [Nat.add_mul, Nat.one_mul] at this
      rw [show o + sz + i * sz = o + (i * sz + sz) by omega]; exact this)
    have hw := hwide e (by simp)
    have h1 : Elems σ I w sz [e] xs := by
      refine ⟨by simp only [g1, hw, List.length_singleton, Nat.one_mul], by simp [hw], fun e' he' => by simp at he'; subst he'; exact hone e' (by simp), ?_, ?_⟩
      · intro v hv
        obtain ⟨j, hj, rfl⟩ := List.mem_iff_getElem.1 hv
        have hc : e.cells[j]? = some (e.cells[j]'(by omega)) := List.getElem?_eq_getElem _
        exact (g3 j _ _ hc (by simp)).oneCell (hone e (by simp) _ (List.getElem_mem _))
      · intro i e' j d he' hd
        cases i with
        | zero =>
          simp at he'; subst he'
          have hj := (List.getElem?_eq_some_iff.1 hd).1
          have hx : xs[j]? = some (xs[j]'(by omega)) := by simp
          exact ⟨_, by rw [Nat.zero_mul, Nat.zero_add]; exact hx, g3 j d _ hd hx⟩
        | succ i => simp at he'
    refine ⟨xs ++ us, h1.append k1, fun j v hv => ?_⟩
    by_cases hj : j < xs.length
    · rw [List.getElem?_append_left hj] at hv; exact g2 j v hv
    · rw [List.getElem?_append_right (by omega)] at hv
      have := k2 _ v hv
      rw [show o + j = o + sz + (j - xs.length) by omega]; exact this

theorem Elems.mono {sz : Nat} {ys : List D} {news : List Value} (h : Elems σ I w sz ys news) {I' : Nat → Prop} {w' : World} (hi : ∀ b, I b → I' b) (hk : ∀ b, I b → w'.heap[b]? = w.heap[b]?) : Elems σ I' w' sz ys news :=
  ⟨h.len, h.wide, h.one, h.cell1, fun i e j d a b => by obtain ⟨x, h1, h2⟩ := h.rep i e j d a b; exact ⟨x, h1, h2.mono hi hk⟩⟩

theorem lenOf_slice {P : Program} (a : Option Addr) (n c : Nat) : (Builtin.lenOf (.slice a n c)).run P w = .ok n w := rfl

/-- What a slice of the interpreter is in the world. -/
theorem elems_spec {P : Program} {st : St} {sz : Nat} {f : FV} {ys : List D} {v : Value} (hsz : 0 < sz) (hS : SimH σ st.base.length β I Wr wd (st.base ++ st.loc) w) (hf : RepF σ β I w st.base.length f v) (h : elems st sz f = some ys) :
    ∃ news, Elems σ I w sz ys news ∧ ∃ a c, v = .slice a ys.length c ∧ ys.length ≤ c ∧
      ∀ w' : World, (∀ b, b < w.heap.size → w'.heap[b]? = w.heap[b]?) → (Builtin.firstCells sz ys.length v).run P w' = .ok news.toArray w' := by
  have fin : ∀ (b o cap : Nat) (es : List D), es.length ≤ cap → b < w.heap.size → (∀ e ∈ es, e.cells.length = sz) → (∀ e ∈ es, ∀ c ∈ e.cells, c.one = true) →
      (∀ (i : Nat) (e : D), es[i]? = some e → AtD σ I w b (o + i * sz) e.cells) → v = .slice (some ⟨b, o, none⟩) es.length cap → ys = es →
      ∃ news, Elems σ I w sz ys news ∧ ∃ a c, v = .slice a ys.length c ∧ ys.length ≤ c ∧
      ∀ w' : World, (∀ b, b < w.heap.size → w'.heap[b]? = w.heap[b]?) → (Builtin.firstCells sz ys.length v).run P w' = .ok news.toArray w' := by
    intro b o cap es hcap hb h1 h2 h3 hv hys
    subst hys
    obtain ⟨news, k1, k2⟩ := elems_of hsz h1 h2 h3
    refine ⟨news, k1, _, _, hv, hcap, fun w' hw' => ?_⟩
    rw [hv]
    exact run_firstCells_some' sz ys.length _ _ _ news k1.len (fun j u hu => by rw [add_none, cell_of_block (hw' b hb)]; exact k2 j u hu)
  have nilc : ∀ (ys' : List D), v = .slice none 0 0 → ys = [] → ∃ news, Elems σ I w sz ys news ∧ ∃ a c, v = .slice a ys.length c ∧ ys.length ≤ c ∧
      ∀ w' : World, (∀ b, b < w.heap.size → w'.heap[b]? = w.heap[b]?) → (Builtin.firstCells sz ys.length v).run P w' = .ok news.toArray w' := by
    intro _ hv hys
    subst hys
    exact ⟨[], Elems.nil σ I w sz, none, 0, hv, Nat.le_refl _, fun w' _ => by rw [hv]; rfl⟩
  unfold elems at h
  split at h
  · split at h <;> simp at h
    subst h
    cases hf with
    | d hf => cases hf; exact nilc [] rfl rfl
  · split at h <;> simp at h
    subst h
    rename_i hs'
    subst hs'
    cases hf with
    | d hf =>
      cases hf with
      | s0 => exact nilc [] rfl rfl
      | s u hb hc hs1 hone hcell hrep =>
        exact fin _ _ _ _ hc (hS.ilt _ hb) hs1 hone (fun i e he j c hj => ⟨u i j, hcell i e j c he hj, hrep i e j c he hj⟩) rfl rfl
  · rename_i q ver sz' off m
    split at h
    · rename_i hs'
      subst hs'
      split at h
      · rename_i o ho
        rw [St.heap_eq] at ho
        cases hf with
        | ls hb hl hoo =>
          rename_i b bo cap o'
          unfold AObj.view at h
          have main : ∀ (es : List D), AtRows σ I w b bo cap sz es → off + m ≤ es.length → ys = (es.drop off).take m →
              ∃ news, Elems σ I w sz ys news ∧ ∃ a c, Value.slice (some ⟨b, o', none⟩) m (cap - off) = .slice a ys.length c ∧ ys.length ≤ c ∧
              ∀ w' : World, (∀ b, b < w.heap.size → w'.heap[b]? = w.heap[b]?) → (Builtin.firstCells sz ys.length (.slice (some ⟨b, o', none⟩) m (cap - off))).run P w' = .ok news.toArray w' := by
            intro es hat hle hys
            have hlen : ys.length = m := by rw [hys]; simp; omega
            have hfit := hat.fit
            refine fin b o' (cap - off) ys (by omega) (hS.blt _ _ _ _ _ hb) ?_ ?_ ?_ (by rw [hlen]) rfl
            · intro e he; rw [hys] at he; exact hat.wide e (List.mem_of_mem_drop (List.mem_of_mem_take he))
            · intro e he; rw [hys] at he; exact hat.one e (List.mem_of_mem_drop (List.mem_of_mem_take he))
            · intro i e he
              have hi : i < m := by rw [← hlen]; exact (List.getElem?_eq_some_iff.1 he).1
              rw [hys, List.getElem?_take, if_pos hi, List.getElem?_drop] at he
              have := hat.at_ _ e he
              rw [hoo (by omega)]
              rw [show bo + off * sz + i * sz = bo + (off + i) * sz by rw [Nat.add_mul]; omega]
              exact this
          split at h
          · split at h <;> simp at h
            rename_i hh
            obtain ⟨rfl, rfl, hle⟩ := hh
            exact main _ (hS.row _ _ _ _ _ _ _ ho hb).1 hle h.symm
          · split at h <;> simp at h
            rename_i hh
            obtain ⟨rfl, rfl, hle⟩ := hh
            exact main _ (hS.frz _ _ _ _ _ _ _ ho hb).1 hle h.symm
          · simp at h
      · simp at h
    · simp at h
  · simp at h
end elems
end Fi
