/-
  One operation of the model does what the functional interpreter says: append, make.
-/
import Derived.Test.YtonmcbnjifeagaaGreatDoorFiOps4
set_option linter.unusedVariables false
set_option linter.unusedSimpArgs false
namespace Fi
open Go

section app
variable {P : Program} {σ : Nat → Option FuncId} {β : Map} {I Wr : Nat → Prop} {wd : Nat → Prop} {w : World} {st : St} {ρ : Operand → Value}
variable {dst : Option Tmp} {type : TypeId} {pos : String} {after : Array Edge} {guard : Option (Nat × Bool)}

theorem exec_append {t u : TypeId} {x y : Operand} : execOp ρ ⟨dst, .call { callee := .builtin .append, args := #[x, y], argTypes := #[t, u] }, type, pos, after, guard⟩ = (do pure (.value (← Builtin.append_ #[t, u] type #[ρ x, ρ y]))) := by
  simp [execOp, resolve, invoke, builtin]

theorem nil_inv {n sz : Nat} {v : Value} (h : RepF σ β I w n (.d (.n sz)) v) : v = .slice none 0 0 := by
  cases h with | d h => cases h; rfl

/-- A new row, with room to spare, in a new block. -/
theorem SimH.newRow {n : Nat} {H : List AObj} (h : SimH σ n β I Wr wd H w) {sz cap : Nat} {ys : List D} {news rest : List Value} (hsz : 0 < sz) (he : Elems σ I w sz ys news) (hcap : ys.length ≤ cap) (hr : rest.length = (cap - ys.length) * sz) (e : TypeId) (ver : Nat) :
    Ext β (β.put H.length ver (w.heap.size, 0, cap)) I I Wr w (w.alloc (.cells (news ++ rest).toArray e)) ∧
      SimH σ n (β.put H.length ver (w.heap.size, 0, cap)) I Wr wd (H ++ [.row ver sz ys]) (w.alloc (.cells (news ++ rest).toArray e)) := by
  refine h.push (news ++ rest).toArray e (.row ver sz ys) ver cap (.inr ⟨sz, ys, rfl, hsz, hcap, he.wide, he.one, ?_, ?_⟩)
  · simp [he.len, hr, Nat.sub_mul]
    have : ys.length * sz ≤ cap * sz := Nat.mul_le_mul_right _ hcap
    omega
  · intro i e' j d hi hd
    obtain ⟨x, h1, h2⟩ := he.rep i e' j d hi hd
    have hlt := (List.getElem?_eq_some_iff.1 h1).1
    exact ⟨x, by rw [List.getElem?_toArray, List.getElem?_append_left hlt]; exact h1, h2⟩

theorem drew_grow {n : Nat} {H : List AObj} (h : SimH σ n β I Wr wd H w) : SimH σ n β I Wr wd H w.drew := h.grow (Nat.le_refl _) (fun _ _ => rfl)
theorem drew_ext (β : Map) (I Wr : Nat → Prop) (w : World) : Ext β β I I Wr w w.drew := ⟨fun _ _ _ h => h, fun _ h => h, fun _ h => .inl h, Nat.le_refl _, fun _ _ => rfl, fun _ _ _ => rfl, rfl, rfl, rfl⟩

theorem most_fits {a b : Nat} (h : a * b ≤ most) : a * b ≤ 140737488355328 := by unfold most at h; omega

theorem y_app_nil {t u e e' : TypeId} {x y : Operand} {sz bytes : Nat} {f : FV} {ys : List D} {z : List D} {cx : Cx} (hgid : ∀ f g, cx.gid f = some g → σ g = some f) (ht : P.underlying t = some (.slice e)) (hu : P.underlying u = some (.slice e'))
    (hm : sizeT P e = some sz) (hby : bytesT P e = some bytes) (hz : zeroD cx P e = some z) (hzl : z.length = sz) (hsz : 0 < sz) (hel : elems st sz f = some ys) (hb : ys.length * bytes ≤ most) (hmax : ys.length ≤ most)
    (hS : SimH σ st.base.length β I Wr wd (st.base ++ st.loc) w) (hx : RepF σ β I w st.base.length (.d (.n sz)) (ρ x)) (hy : RepF σ β I w st.base.length f (ρ y)) :
    Yields P ⟨dst, .call { callee := .builtin .append, args := #[x, y], argTypes := #[t, u] }, type, pos, after, guard⟩ ρ w
      (if ys.isEmpty then Post σ st.base.length (st.base ++ st.loc).length β I Wr wd w st (.d (.n sz)) else Post σ st.base.length (st.base ++ st.loc).length β I Wr wd w (st.push (.row 0 sz ys)) (.ls (.loc st.loc.length) 0 sz 0 ys.length)) := by
  obtain ⟨i, zv, hi, hzv, hzlen, _, _⟩ := zeroD_spec (σ := σ) (I := I) (w := w) hgid hz
  have his : i.size = sz := by unfold sizeT at hm; rw [hi] at hm; simpa using hm
  have hib : i.bytes = bytes := by unfold bytesT at hby; rw [hi] at hby; simpa using hby
  have hρx : ρ x = .slice none 0 0 := nil_inv hx
  obtain ⟨news, hE, a, c, hv, hc, hfc⟩ := elems_spec (P := P) hsz hS hy hel
  by_cases hemp : ys = []
  · subst hemp
    have hnews : news = [] := by have := hE.len; simpa using this
    subst hnews
    simp only [List.isEmpty_nil, if_true]
    refine yields_value (x := .slice none 0 0) (w' := w) ?_ (Post.same hS (.d (.n sz)))
    rw [exec_append, hρx]
    have := run_append_nothing (P := P) (w := w) (ty := type) ht hu hi (x := ρ y) (by rw [hv]; rfl) (by rw [his]; exact hfc w (fun _ _ => rfl))
    simp [this]
  · have hne : ys.isEmpty = false := by cases ys <;> simp_all
    rw [hne]
    have h0 : 0 < ys.length := by cases ys <;> simp_all
    have hfit : Builtin.nextslicecap (0 + ys.length) 0 * i.bytes ≤ 281474976710656 := by
      rw [Nat.zero_add, nextslicecap_zero h0, hib]; have := most_fits hb; omega
    have hrun := run_append_grows (P := P) (w := w) (ty := type) ht hu hi hzv (base := none) (sLen := 0) (sCap := 0) (m := ys.length) (x := ρ y) (olds := []) (news := news) (by rw [hv]; rfl) (by simp [Builtin.firstCells])
      (by rw [his]; exact hfc w.drew (fun _ _ => rfl)) (by omega) (by unfold most at hmax; omega) hfit
    have hcap := grownCap_ge w (0 + ys.length) 0 e
    obtain ⟨k1, k2⟩ := (drew_grow hS).newRow (cap := grownCap w (0 + ys.length) 0 e) (news := [] ++ news) (rest := (Builtin.zeroCells zv.cells (grownCap w (0 + ys.length) 0 e - (0 + ys.length))).toList) hsz
      (by simpa using hE.mono (w' := w.drew) (fun _ h => h) (fun _ _ => rfl)) (by omega) (by simp [size_zeroCells, ← hzlen, hzl]) e 0
    refine yields_value (x := .slice (some ⟨w.heap.size, 0, none⟩) (0 + ys.length) (grownCap w (0 + ys.length) 0 e)) (w' := _) ?_ ⟨_, I, (drew_ext β I Wr w).trans k1, by rw [St.push_eq]; exact k2, ?_, put_keep⟩
    · rw [exec_append, hρx]
      simp only [Sem.run_bind, hrun, Result.andThen_ok]
      rfl
    · have := RepF.ls (σ := σ) (β := β.put (st.base ++ st.loc).length 0 (w.drew.heap.size, 0, grownCap w (0 + ys.length) 0 e)) (I := I) (w := w.drew.alloc (.cells ([] ++ news ++ (Builtin.zeroCells zv.cells (grownCap w (0 + ys.length) 0 e - (0 + ys.length))).toList).toArray e)) (n := st.base.length)
        (p := .loc st.loc.length) (ver := 0) (sz := sz) (off := 0) (len := 0 + ys.length) (b := w.heap.size) (bo := 0) (cap := grownCap w (0 + ys.length) 0 e) (o := 0) (by simp only [Ref.abs, List.length_append]; exact Map.put_same _ _ _ _) (by omega) (by simp)
      simp only [Nat.sub_zero] at this
      simpa using this

theorem ls_inv {n : Nat} {q : Ref} {ver sz off len : Nat} {v : Value} (h : RepF σ β I w n (.ls q ver sz off len) v) :
    ∃ b bo cap o, β (q.abs n) ver = some (b, bo, cap) ∧ off + len ≤ cap ∧ (off < cap → o = bo + off * sz) ∧ v = .slice (some ⟨b, o, none⟩) len (cap - off) := by
  cases h with | ls h hl ho => exact ⟨_, _, _, _, h, hl, ho, rfl⟩

theorem y_app_ls {t u e e' : TypeId} {x y : Operand} {q : Ref} {ver off m sz bytes : Nat} {f : FV} {es ys : List D} {z : List D} {cx : Cx} (hgid : ∀ f g, cx.gid f = some g → σ g = some f) (ht : P.underlying t = some (.slice e)) (hu : P.underlying u = some (.slice e'))
    (hm : sizeT P e = some sz) (hby : bytesT P e = some bytes) (hz : zeroD cx P e = some z) (hzl : z.length = sz) (hq : st.heap q = some (.row ver sz es)) (hle : off + m ≤ es.length) (hel : elems st sz f = some ys)
    (hb : (m + ys.length) * bytes ≤ most) (hmax : m + ys.length ≤ most) (hd : MayW st.base.length (st.setHeap q (.row (ver + 1) sz ((es.drop off).take m ++ ys))) wd)
    (hS : SimH σ st.base.length β I Wr wd (st.base ++ st.loc) w) (hx : RepF σ β I w st.base.length (.ls q ver sz off m) (ρ x)) (hy : RepF σ β I w st.base.length f (ρ y)) :
    Yields P ⟨dst, .call { callee := .builtin .append, args := #[x, y], argTypes := #[t, u] }, type, pos, after, guard⟩ ρ w
      (Post σ st.base.length (st.base ++ st.loc).length β I Wr wd w (st.setHeap q (.row (ver + 1) sz ((es.drop off).take m ++ ys))) (.ls q (ver + 1) sz 0 (m + ys.length))) := by
  obtain ⟨i, zv, hi, hzv, hzlen, _, _⟩ := zeroD_spec (σ := σ) (I := I) (w := w) hgid hz
  have his : i.size = sz := by unfold sizeT at hm; rw [hi] at hm; simpa using hm
  have hib : i.bytes = bytes := by unfold bytesT at hby; rw [hi] at hby; simpa using hby
  obtain ⟨b, bo, cap, o, hβ, hlc, hoo, hρx⟩ := ls_inv hx
  have hq' := hq
  rw [St.heap_eq] at hq'
  obtain ⟨hat, c, te, h1, h2⟩ := hS.row _ _ _ _ _ _ _ hq' hβ
  have hsz := hat.pos
  obtain ⟨news, hE, a, cc, hv, hc, hfc⟩ := elems_spec (P := P) hsz hS hy hel
  have hbl := hS.blt _ _ _ _ _ hβ
  have helx : elems st sz (.ls q ver sz off m) = some ((es.drop off).take m) := by simp [elems, hq, AObj.view, hle]
  obtain ⟨olds, hO, a', c', hv', hc', hfo⟩ := elems_spec (P := P) hsz hS hx helx
  have holen : ((es.drop off).take m).length = m := by simp; omega
  have hvd : ∀ v' z', β (q.abs st.base.length) v' = some z' → v' ≤ ver := fun v' z' hz' => hS.vdom _ _ _ _ _ _ hq' hz'
  have hnone : ∀ z', β (q.abs st.base.length) (ver + 1) = some z' → False := fun z' hz' => by have := hvd _ _ hz'; omega
  by_cases hroom : m + ys.length ≤ cap - off
  · -- in place
    by_cases hlt : off < cap
    · have ho := hoo hlt
      have hfit : o + m * i.size + news.length ≤ c.size := by
        rw [his, hE.len, h2, ho]
        have : (off + (m + ys.length)) * sz ≤ cap * sz := Nat.mul_le_mul_right _ (by omega)
        rw [Nat.add_mul, Nat.add_mul] at this; omega
      have hrun := run_append_here (P := P) (w := w) (ty := type) ht hu hi h1 (o := o) (sLen := m) (sCap := cap - off) (m := ys.length) (x := ρ y) (news := news) (by rw [hv]; rfl) (by rw [his]; exact hfc w (fun _ _ => rfl)) hE.cell1 hroom hfit
      rw [his] at hrun
      have hb' := setRow_heap w b c (splice c.toList (o + m * sz) news).toArray te (0, 0) h1
      have hkeep : ∀ z, I z → (w.setRow b (splice c.toList (o + m * sz) news).toArray).heap[z]? = w.heap[z]? := fun z hz => setRow_other _ _ _ (fun he => (hS.wr _ _ b bo cap hq' hβ).2 (he ▸ hz))
      have hfit' : o + m * sz + news.length ≤ c.toList.length := by rw [← his]; simpa using hfit
      have hcell : ∀ k, (w.setRow b (splice c.toList (o + m * sz) news).toArray).cell? ⟨b, k, none⟩ = if k < o + m * sz then c[k]? else if k < o + m * sz + news.length then news[k - (o + m * sz)]? else c[k]? := by
        intro k
        simp only [World.cell?, hb', Option.isSome_none, Bool.false_eq_true, if_false]
        rw [List.getElem?_toArray, getElem?_splice _ _ _ hfit']
        simp
      have hwcell : ∀ k, w.cell? ⟨b, k, none⟩ = c[k]? := fun k => by simp [World.cell?, h1]
      have ha1 : (splice c.toList (o + m * sz) news).toArray.size = (bo + off * sz) + (cap - off) * sz := by
        rw [List.size_toArray, length_splice _ _ _ hfit']
        have : off * sz ≤ cap * sz := Nat.mul_le_mul_right _ (by omega)
        simp [h2, Nat.sub_mul]; omega
      have ha2 : AtRows σ I (w.setRow b (splice c.toList (o + m * sz) news).toArray) b (bo + off * sz) (cap - off) sz ((es.drop off).take m ++ ys) := by
        have hwide : ∀ e ∈ (es.drop off).take m ++ ys, e.cells.length = sz := (hO.append hE).wide
        refine ⟨hsz, by rw [List.length_append, holen]; exact hroom, hwide, (hO.append hE).one, ?_⟩
        intro i' e1 he1 j d hd
        have hj : j < sz := by
          have := (List.getElem?_eq_some_iff.1 hd).1
          rw [hwide _ (List.mem_of_getElem? he1)] at this; exact this
        rw [hcell]
        by_cases hi' : i' < m
        · rw [List.getElem?_append_left (by rw [holen]; exact hi'), List.getElem?_take, if_pos hi', List.getElem?_drop] at he1
          obtain ⟨z', hz1, hz2⟩ := hat.at_ _ e1 he1 j d hd
          have hpos : bo + off * sz + i' * sz + j < o + m * sz := by
            rw [ho]
            have : (i' + 1) * sz ≤ m * sz := Nat.mul_le_mul_right _ (by omega)
            rw [Nat.add_mul] at this; omega
          refine ⟨z', ?_, hz2.mono (fun _ e => e) hkeep⟩
          rw [if_pos hpos, ← hwcell, show bo + off * sz + i' * sz + j = bo + (off + i') * sz + j by rw [Nat.add_mul]; omega]
          exact hz1
        · rw [List.getElem?_append_right (by rw [holen]; omega), holen] at he1
          obtain ⟨z', hz1, hz2⟩ := hE.rep _ e1 j d he1 hd
          have hge : m * sz ≤ i' * sz := Nat.mul_le_mul_right _ (by omega)
          have hlt2 := (List.getElem?_eq_some_iff.1 hz1).1
          rw [Nat.sub_mul] at hz1 hlt2
          refine ⟨z', ?_, hz2.mono (fun _ e => e) hkeep⟩
          rw [if_neg (by rw [ho]; omega), if_pos (by rw [ho]; omega), ← hz1]
          congr 1
          rw [ho]; omega
      obtain ⟨k1, k2⟩ := hS.upd (hkw := St.setHeap_dirty _ _ _ hd) (w' := w.setRow b (splice c.toList (o + m * sz) news).toArray) hq' (show (AObj.row ver sz es).live β _ = some (b, bo, cap) from hβ) (.row (ver + 1) sz ((es.drop off).take m ++ ys)) (ver + 1) b (bo + off * sz) (cap - off)
        (by rw [setRow_size]; exact Nat.le_refl _) (fun z _ hz => setRow_other _ _ _ hz) (.inl rfl) (by rw [setRow_size]; exact hbl) (fun z hz => (hnone z hz).elim)
        rfl rfl rfl (.inr ⟨sz, _, _, te, rfl, fun v' z hz => by have := hvd _ _ hz; omega, hb', ha1, ha2⟩)
      refine yields_value (x := .slice (some ⟨b, o, none⟩) (m + ys.length) (cap - off)) (w' := w.setRow b (splice c.toList (o + m * sz) news).toArray) ?_ ⟨_, I, k1, by rw [St.setHeap_eq]; exact k2, ?_, put_keepw (St.setHeap_dirty _ _ _ hd)⟩
      · rw [exec_append, hρx]; simp only [Sem.run_bind, hrun, Result.andThen_ok]; rfl
      · have := RepF.ls (σ := σ) (β := β.put (q.abs st.base.length) (ver + 1) (b, bo + off * sz, cap - off)) (I := I) (w := w.setRow b (splice c.toList (o + m * sz) news).toArray) (n := st.base.length)
          (p := q) (ver := ver + 1) (sz := sz) (off := 0) (len := m + ys.length) (o := o) (Map.put_same _ _ _ _) (by omega) (fun _ => by rw [ho]; omega)
        simpa using this
    · -- no room at all: nothing is there and nothing comes
      have hm0 : m = 0 := by omega
      have hy0 : ys = [] := by cases ys <;> simp_all
      have hoc : off = cap := by omega
      subst hm0; subst hy0
      have hnews : news = [] := by have := hE.len; simpa using this
      subst hnews
      have hrun : (Builtin.append_ #[t, u] type #[.slice (some ⟨b, o, none⟩) 0 (cap - off), ρ y]).run P w = .ok (.slice (some ⟨b, o, none⟩) 0 (cap - off)) w := by
        have hfc' := hfc w (fun _ _ => rfl)
        rw [← his] at hfc'
        have hlen : (Builtin.lenOf (ρ y)).run P w = .ok 0 w := by rw [hv]; rfl
        simp only [List.length_nil] at hfc'
        simp [Builtin.append_, run_underlying ht, run_underlying hu, Go.sizeOf, typeInfo, hi, hlen, hfc', storeCells]
      obtain ⟨k1, k2⟩ := hS.upd (hkw := St.setHeap_dirty _ _ _ hd) (w' := w) hq' (show (AObj.row ver sz es).live β _ = some (b, bo, cap) from hβ) (.row (ver + 1) sz ((es.drop off).take 0 ++ [])) (ver + 1) b (bo + off * sz) (cap - off)
        (Nat.le_refl _) (fun z _ hz => rfl) (.inl rfl) hbl (fun z hz => (hnone z hz).elim)
        rfl rfl rfl (.inr ⟨sz, _, _, te, rfl, fun v' z hz => by have := hvd _ _ hz; omega, h1, by rw [h2, hoc]; simp, ⟨hsz, by simp, by simp, by simp, fun i e he => by simp at he⟩⟩)
      refine yields_value (x := .slice (some ⟨b, o, none⟩) 0 (cap - off)) (w' := w) ?_ ⟨_, I, k1, by rw [St.setHeap_eq]; exact k2, ?_, put_keepw (St.setHeap_dirty _ _ _ hd)⟩
      · rw [exec_append, hρx]; simp only [Sem.run_bind, hrun, Result.andThen_ok]; rfl
      · have := RepF.ls (σ := σ) (β := β.put (q.abs st.base.length) (ver + 1) (b, bo + off * sz, cap - off)) (I := I) (w := w) (n := st.base.length)
          (p := q) (ver := ver + 1) (sz := sz) (off := 0) (len := 0) (o := o) (Map.put_same _ _ _ _) (by omega) (fun hh => by omega)
        simpa using this
  · -- a new block
    have hcapm : m ≤ cap - off := by omega
    have hnl : m * bytes ≤ most := Nat.le_trans (Nat.mul_le_mul_right _ (by omega)) hb
    have hfit : Builtin.nextslicecap (m + ys.length) (cap - off) * i.bytes ≤ 281474976710656 := by
      rw [hib]; exact growslice_fits (by omega) (most_fits hb)
    rw [holen] at hfo
    have hrun := run_append_grows (P := P) (w := w) (ty := type) ht hu hi hzv (base := some ⟨b, o, none⟩) (sLen := m) (sCap := cap - off) (m := ys.length) (x := ρ y) (olds := olds) (news := news) (by rw [hv]; rfl)
      (by rw [his, ← hρx]; exact hfo w.drew (fun _ _ => rfl)) (by rw [his]; exact hfc w.drew (fun _ _ => rfl)) (by omega) (by unfold most at hmax; omega) hfit
    have hcap := grownCap_ge w (m + ys.length) (cap - off) e
    have hSd := drew_grow hS
    have hEE := (hO.append hE).mono (w' := w.drew) (fun _ h => h) (fun _ _ => rfl)
    generalize hG : grownCap w (m + ys.length) (cap - off) e = G at hrun hcap
    generalize hblk : (olds ++ news ++ (Builtin.zeroCells zv.cells (G - (m + ys.length))).toList) = blk at hrun
    have hblen : blk.length = G * sz := by
      have e1 := hEE.len
      simp only [List.length_append, holen] at e1
      have e2 : (Builtin.zeroCells zv.cells (G - (m + ys.length))).toList.length = (G - (m + ys.length)) * sz := by simp [size_zeroCells, ← hzlen, hzl]
      rw [← hblk, List.length_append, List.length_append, e1, e2, Nat.sub_mul]
      have : (m + ys.length) * sz ≤ G * sz := Nat.mul_le_mul_right _ hcap
      omega
    have hnew : (w.drew.alloc (.cells blk.toArray e)).heap[w.heap.size]? = some (.cells blk.toArray e (0, 0)) := alloc_new w.drew _
    have ha2 : AtRows σ I (w.drew.alloc (.cells blk.toArray e)) w.heap.size 0 G sz ((es.drop off).take m ++ ys) := by
      refine ⟨hsz, by rw [List.length_append, holen]; exact hcap, hEE.wide, hEE.one, ?_⟩
      intro i' e1 he1 j d hd
      obtain ⟨z', hz1, hz2⟩ := hEE.rep _ e1 j d he1 hd
      have hlt2 := (List.getElem?_eq_some_iff.1 hz1).1
      refine ⟨z', ?_, hz2.mono (fun _ h => h) (fun bb hbb => alloc_old w.drew _ (hSd.ilt _ hbb))⟩
      simp only [World.cell?, hnew, Option.isSome_none, Bool.false_eq_true, if_false]
      rw [List.getElem?_toArray, ← hblk, Nat.zero_add, List.getElem?_append_left hlt2]
      exact hz1
    obtain ⟨k1, k2⟩ := hSd.upd (hkw := St.setHeap_dirty _ _ _ hd) (w' := w.drew.alloc (.cells blk.toArray e)) hq' (show (AObj.row ver sz es).live β _ = some (b, bo, cap) from hβ) (.row (ver + 1) sz ((es.drop off).take m ++ ys)) (ver + 1) w.heap.size 0 G
      (by simp) (fun z hz _ => alloc_old w.drew _ hz) (.inr (Nat.le_refl _)) (by simp) (fun z hz => (hnone z hz).elim)
      rfl rfl rfl (.inr ⟨sz, _, _, e, rfl, fun v' z hz => by have := hvd _ _ hz; omega, hnew, by simp [hblen], ha2⟩)
    refine yields_value (x := .slice (some ⟨w.heap.size, 0, none⟩) (m + ys.length) G) (w' := w.drew.alloc (.cells blk.toArray e)) ?_ ⟨_, I, (drew_ext β I Wr w).trans k1, by rw [St.setHeap_eq]; exact k2, ?_, put_keepw (St.setHeap_dirty _ _ _ hd)⟩
    · rw [exec_append, hρx]; simp only [Sem.run_bind, hrun, Result.andThen_ok]; rfl
    · have := RepF.ls (σ := σ) (β := β.put (q.abs st.base.length) (ver + 1) (w.heap.size, 0, G)) (I := I) (w := w.drew.alloc (.cells blk.toArray e)) (n := st.base.length)
        (p := q) (ver := ver + 1) (sz := sz) (off := 0) (len := m + ys.length) (o := 0) (Map.put_same _ _ _ _) (by omega) (by simp)
      simpa using this
end app
end Fi
