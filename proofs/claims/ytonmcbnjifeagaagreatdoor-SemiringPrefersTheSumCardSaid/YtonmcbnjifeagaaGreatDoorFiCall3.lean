/-
  A call of a function whose runs are known.
-/
import Derived.Test.YtonmcbnjifeagaaGreatDoorFiCall2
set_option linter.unusedVariables false
set_option linter.unusedSimpArgs false
namespace Fi
open Go

section sim
variable {σ : Nat → Option FuncId} {β : Map} {I Wr : Nat → Prop} {wd : Nat → Prop} {w : World} {n : Nat} {H : List AObj}

theorem AObj.toOld_live (o : AObj) (β : Map) (k : Nat) : (o.toOld n).live β k = o.live β k := by cases o <;> rfl
theorem AObj.toOld_row {o : AObj} {ver sz : Nat} {es : List D} (h : o.toOld n = .row ver sz es) : o = .row ver sz es := by cases o <;> simp_all [AObj.toOld]
theorem AObj.toOld_frz {o : AObj} {ver sz : Nat} {es : List D} (h : o.toOld n = .frz ver sz es) : o = .frz ver sz es := by cases o <;> simp_all [AObj.toOld]
theorem AObj.toOld_box {o : AObj} {cs : List FV} (h : o.toOld n = .box cs) : ∃ cs', o = .box cs' ∧ cs = cs'.map (FV.toOld n) := by
  cases o <;> simp_all [AObj.toOld, toOldL_eq]
theorem AObj.shift_live (o : AObj) (β : Map) (k : Nat) : (o.shift n).live β k = o.live β k := by cases o <;> rfl
theorem AObj.shift_row {o : AObj} {ver sz : Nat} {es : List D} (h : o.shift n = .row ver sz es) : o = .row ver sz es := by cases o <;> simp_all [AObj.shift]
theorem AObj.shift_frz {o : AObj} {ver sz : Nat} {es : List D} (h : o.shift n = .frz ver sz es) : o = .frz ver sz es := by cases o <;> simp_all [AObj.shift]
theorem AObj.shift_box {o : AObj} {cs : List FV} (h : o.shift n = .box cs) : ∃ cs', o = .box cs' ∧ cs = cs'.map (FV.shift n) := by
  cases o <;> simp_all [AObj.shift, shiftL_eq]

/-- The heap as it is for another call. -/
theorem SimH.old (h : SimH σ n β I Wr wd H w) {n' : Nat} {Wr' : Nat → Prop} {wd' : Nat → Prop} (hnew : ∀ b, w.heap.size ≤ b → Wr' b)
    (hw : ∀ (k : Nat) (o : AObj) b bo cap, H[k]? = some o → o.live β k = some (b, bo, cap) → wd' k → Wr' b) : SimH σ n' β I Wr' wd' (H.map (AObj.toOld n)) w := by
  have hget : ∀ (k : Nat) (o : AObj), (H.map (AObj.toOld n))[k]? = some o → ∃ o', H[k]? = some o' ∧ o'.toOld n = o := by
    intro k o hk
    simpa [List.getElem?_map, Option.map_eq_some_iff] using hk
  refine ⟨h.ilt, h.blt, hnew, fun k v x hx => by rw [List.length_map]; exact h.dom k v x hx, ?_, ?_, ?_, ?_, ?_, ?_⟩
  · intro k ver sz es v x h1 h2
    obtain ⟨o', h3, h4⟩ := hget k _ h1
    have := AObj.toOld_row h4; subst this
    exact h.vdom _ _ _ _ _ _ h3 h2
  · intro k o b bo cap h1 h2
    obtain ⟨o', h3, rfl⟩ := hget k _ h1
    rw [AObj.toOld_live] at h2
    exact ⟨hw k o' b bo cap h3 h2, (h.wr k o' b bo cap h3 h2).2⟩
  · intro k cs b bo cap h1 h2
    obtain ⟨o', h3, h4⟩ := hget k _ h1
    obtain ⟨cs', rfl, rfl⟩ := AObj.toOld_box h4
    obtain ⟨a0, c, e', a1, a2, a3⟩ := h.box k cs' b bo cap h3 h2
    refine ⟨a0, c, e', a1, by simpa using a2, fun j f x e1 e2 => ?_⟩
    simp only [List.getElem?_map, Option.map_eq_some_iff] at e1
    obtain ⟨f', e3, rfl⟩ := e1
    exact (a3 j f' x e3 e2).toOld n'
  · intro k ver sz es b bo cap h1 h2
    obtain ⟨o', h3, h4⟩ := hget k _ h1
    have := AObj.toOld_row h4; subst this
    exact h.row _ _ _ _ _ _ _ h3 h2
  · intro k ver sz es b bo cap h1 h2
    obtain ⟨o', h3, h4⟩ := hget k _ h1
    have := AObj.toOld_frz h4; subst this
    exact h.frz _ _ _ _ _ _ _ h3 h2
  · intro k k' o1 o2 b bo cap bo' cap' h1 h2 h3 h4
    obtain ⟨o1', h5, rfl⟩ := hget k _ h1
    obtain ⟨o2', h6, rfl⟩ := hget k' _ h2
    rw [AObj.toOld_live] at h3 h4
    exact h.inj k k' o1' o2' b bo cap bo' cap' h5 h6 h3 h4

theorem SimH.empty (n : Nat) {Wr : Nat → Prop} {wd : Nat → Prop} (hi : ∀ b, I b → b < w.heap.size) (hw : ∀ b, w.heap.size ≤ b → Wr b) : SimH σ n (fun _ _ => none) I Wr wd [] w := by
  constructor
  · exact hi
  · intro _ _ _ _ _ h; cases h
  · exact hw
  · intro _ _ _ h; cases h
  all_goals intros; simp at *

/-- Two heaps side by side. -/
def Map.join (β β' : Map) (m : Nat) : Map := fun k v => if k < m then β k v else β' (k - m) v

theorem Map.join_lt {β β' : Map} {m k v : Nat} (h : k < m) : Map.join β β' m k v = β k v := by simp [Map.join, h]
theorem Map.join_ge {β β' : Map} {m k v : Nat} (h : m ≤ k) : Map.join β β' m k v = β' (k - m) v := by simp [Map.join, Nat.not_lt.2 h]

/-- What a call in an empty heap has made is put behind what is there. -/
theorem SimH.merge {β' : Map} {I' : Nat → Prop} {w' : World} {B : List AObj} (h : SimH σ n β I Wr wd H w) (hn : n ≤ H.length) (k : SimH σ 0 β' I' (fun b => w.heap.size ≤ b) (fun _ => True) B w') (hx : Ext (fun _ _ => none) β' I I' (fun b => w.heap.size ≤ b) w w') :
    Ext β (Map.join β β' H.length) I I' Wr w w' ∧ SimH σ n (Map.join β β' H.length) I' Wr wd (H ++ B.map (AObj.shift (H.length - n))) w' := by
  have hbm : ∀ k v x, β k v = some x → Map.join β β' H.length k v = some x := fun k v x e => (Map.join_lt (h.dom k v x e)).trans e
  have hkeep : ∀ b, b < w.heap.size → w'.heap[b]? = w.heap[b]? := fun b hb => hx.keepW b hb (by omega)
  have hInew : ∀ b, I' b → b < w.heap.size → I b := fun b hb hlt => (hx.inew b hb).elim id (fun h => by omega)
  have hsh : ∀ i ver y, β' i ver = some y → Map.join β β' H.length (n + (H.length - n + i)) ver = some y := by
    intro i ver y hy
    rw [Map.join_ge (by omega), show n + (H.length - n + i) - H.length = i by omega]
    exact hy
  have hget : ∀ (j : Nat) (o : AObj), (H ++ B.map (AObj.shift (H.length - n)))[j]? = some o → (j < H.length ∧ H[j]? = some o) ∨ (H.length ≤ j ∧ ∃ o', B[j - H.length]? = some o' ∧ o'.shift (H.length - n) = o) := by
    intro j o hj
    rcases Nat.lt_or_ge j H.length with hl | hl
    · rw [List.getElem?_append_left hl] at hj; exact .inl ⟨hl, hj⟩
    · rw [List.getElem?_append_right hl, List.getElem?_map, Option.map_eq_some_iff] at hj
      exact .inr ⟨hl, hj⟩
  have hlive : ∀ (j : Nat) (o : AObj), j < H.length → o.live (Map.join β β' H.length) j = o.live β j := fun j o hj => by cases o <;> simp [AObj.live, Map.join_lt hj]
  have hlive' : ∀ (j : Nat) (o : AObj), H.length ≤ j → o.live (Map.join β β' H.length) j = o.live β' (j - H.length) := fun j o hj => by cases o <;> simp [AObj.live, Map.join_ge hj]
  refine ⟨⟨hbm, hx.im, fun b hb => (hx.inew b hb).imp id (h.wnew b), hx.size, hx.keepI, fun b hb _ => hkeep b hb, hx.os, hx.tape, hx.output⟩, ?_⟩
  refine ⟨k.ilt, ?_, fun b hb => h.wnew b (Nat.le_trans hx.size hb), ?_, ?_, ?_, ?_, ?_, ?_, ?_⟩
  · intro j v b bo cap hb
    unfold Map.join at hb
    split at hb
    · exact Nat.lt_of_lt_of_le (h.blt _ _ _ _ _ hb) hx.size
    · exact k.blt _ _ _ _ _ hb
  · intro j v x hb
    rw [List.length_append, List.length_map]
    unfold Map.join at hb
    split at hb
    · omega
    · have := k.dom _ _ _ hb; omega
  · intro j ver sz es v x h1 h2
    rcases hget j _ h1 with ⟨hl, h3⟩ | ⟨hl, o', h3, h4⟩
    · rw [Map.join_lt hl] at h2; exact h.vdom _ _ _ _ _ _ h3 h2
    · have := AObj.shift_row h4; subst this
      rw [Map.join_ge hl] at h2; exact k.vdom _ _ _ _ _ _ h3 h2
  · intro j o b bo cap h1 h2
    rcases hget j _ h1 with ⟨hl, h3⟩ | ⟨hl, o', h3, rfl⟩
    · rw [hlive _ _ hl] at h2
      obtain ⟨a1, a2⟩ := h.wr _ _ _ _ _ h3 h2
      exact ⟨a1, fun hb => a2 (hInew b hb (live_lt h h2))⟩
    · rw [AObj.shift_live, hlive' _ _ hl] at h2
      obtain ⟨a1, a2⟩ := k.wr _ _ _ _ _ h3 h2
      exact ⟨fun _ => h.wnew b (a1 trivial), a2⟩
  · intro j cs b bo cap h1 h2
    rcases hget j _ h1 with ⟨hl, h3⟩ | ⟨hl, o', h3, h4⟩
    · rw [Map.join_lt hl] at h2
      obtain ⟨a0, c, e', a1, a2, a3⟩ := h.box _ _ _ _ _ h3 h2
      exact ⟨a0, c, e', by rw [hkeep b (h.blt _ _ _ _ _ h2)]; exact a1, a2, fun i f x e1 e2 => (a3 i f x e1 e2).mono hbm hx.im hx.keepI⟩
    · obtain ⟨cs', rfl, rfl⟩ := AObj.shift_box h4
      rw [Map.join_ge hl] at h2
      obtain ⟨a0, c, e', a1, a2, a3⟩ := k.box _ _ _ _ _ h3 h2
      refine ⟨a0, c, e', a1, by simpa using a2, fun i f x e1 e2 => ?_⟩
      simp only [List.getElem?_map, Option.map_eq_some_iff] at e1
      obtain ⟨f', e3, rfl⟩ := e1
      exact (a3 i f' x e3 e2).shift hsh
  · intro j ver sz es b bo cap h1 h2
    rcases hget j _ h1 with ⟨hl, h3⟩ | ⟨hl, o', h3, h4⟩
    · rw [Map.join_lt hl] at h2
      obtain ⟨a0, c, e', a1, a2⟩ := h.row _ _ _ _ _ _ _ h3 h2
      have hb := hkeep b (h.blt _ _ _ _ _ h2)
      exact ⟨a0.mono hx.im hx.keepI hb, c, e', by rw [hb]; exact a1, a2⟩
    · have := AObj.shift_row h4; subst this
      rw [Map.join_ge hl] at h2
      exact k.row _ _ _ _ _ _ _ h3 h2
  · intro j ver sz es b bo cap h1 h2
    rcases hget j _ h1 with ⟨hl, h3⟩ | ⟨hl, o', h3, h4⟩
    · rw [Map.join_lt hl] at h2
      obtain ⟨a0, a1⟩ := h.frz _ _ _ _ _ _ _ h3 h2
      exact ⟨a0.mono hx.im hx.keepI (hx.keepI b a1), hx.im b a1⟩
    · have := AObj.shift_frz h4; subst this
      rw [Map.join_ge hl] at h2
      exact k.frz _ _ _ _ _ _ _ h3 h2
  · intro j j' o1 o2 b bo cap bo' cap' h1 h2 h3 h4
    rcases hget j _ h1 with ⟨hl, h5⟩ | ⟨hl, o1', h5, rfl⟩ <;> rcases hget j' _ h2 with ⟨hl', h6⟩ | ⟨hl', o2', h6, rfl⟩
    · rw [hlive _ _ hl] at h3; rw [hlive _ _ hl'] at h4
      exact h.inj _ _ _ _ _ _ _ _ _ h5 h6 h3 h4
    · rw [hlive _ _ hl] at h3; rw [AObj.shift_live, hlive' _ _ hl'] at h4
      have h7 := live_lt h h3
      have h8 : w.heap.size ≤ b := (k.wr _ _ _ _ _ h6 h4).1 trivial
      omega
    · rw [AObj.shift_live, hlive' _ _ hl] at h3; rw [hlive _ _ hl'] at h4
      have h7 := live_lt h h4
      have h8 : w.heap.size ≤ b := (k.wr _ _ _ _ _ h5 h3).1 trivial
      omega
    · rw [AObj.shift_live, hlive' _ _ hl] at h3; rw [AObj.shift_live, hlive' _ _ hl'] at h4
      have := k.inj _ _ _ _ _ _ _ _ _ h5 h6 h3 h4
      omega
end sim

section call
variable {P : Program} {E : Env} {σ : Nat → Option FuncId} {β : Map} {I Wr : Nat → Prop} {wd : Nat → Prop} {w : World} {st st' : St} {rec : Nat → List FV → List AObj → CallR} {draw : Bool} {v : FV}

theorem allD_rep {xs : List FV} {ds : List D} (h : allD xs = some ds) {n : Nat} {vs : List Value} (hr : RepC σ β I w n xs vs) (β' : Map) (n' : Nat) : RepC σ β' I w n' xs vs := by
  refine ⟨hr.1, fun i c x hc hx => ?_⟩
  have := hr.2 i c x hc hx
  have hd : ∀ (xs : List FV) (ds : List D), allD xs = some ds → ∀ c ∈ xs, ∃ y, c = .d y := by
    intro xs
    induction xs with
    | nil => intro _ _ c hc; simp at hc
    | cons z zs ih =>
      intro ds h c hc
      cases z <;> simp only [allD] at h <;> try (cases h; done)
      split at h <;> simp at h
      rcases List.mem_cons.1 hc with rfl | hc
      · exact ⟨_, rfl⟩
      · exact ih _ (by assumption) c hc
  obtain ⟨y, rfl⟩ := hd xs ds h c (List.mem_of_getElem? hc)
  cases this with | d h => exact .d h

theorem callPure_sound {g : Nat} {args xs : List FV} {f : FuncId} {vargs : Array Value} (hrec : RecOK P E σ rec) (hS : SimH σ st.base.length β I Wr wd (st.base ++ st.loc) w) (hG : Globs E σ I w) (hσ : σ g = some f)
    (hA : RepC σ β I w st.base.length args vargs.toList) (hl : leavesL st args = some xs) (hd : (allD xs).isSome = true) (h : callPure rec draw st g xs (args.flatMap FV.rows) = some (v, st')) (hdt : draw = false → MayW st.base.length st' wd) :
    Calls P f vargs w fun e w' => ∃ x, e = .returned x ∧ Post σ st.base.length (st.base ++ st.loc).length β I Wr wd w st' v x w' := by
  obtain ⟨ds, hds⟩ := Option.isSome_iff_exists.1 hd
  unfold callPure at h
  split at h
  · rename_i y hcall
    obtain ⟨I1, hf⟩ := frozen_all (args.flatMap FV.rows) hS
    have hx := leavesL_spec hS hl hA hf.im (hf.rowsIn hS)
    have := (hrec _ _ _ _ hcall).2 f hσ (fun _ _ => none) I1 w vargs (.empty _ hf.sim.ilt (fun _ h => h)) (allD_rep hds hx _ _) (hG.mono hf.im (fun _ _ => rfl))
    refine this.mono fun e w' ⟨x, y', I2, he, hy, hrx, hg⟩ => ⟨x, he, ?_⟩
    subst hy
    exact after_none hS hf hdt hrx hg h
  · rename_i y B hcall
    split at h
    · rename_i hrows
      cases h
      have hx := leavesL_spec (I' := I) hS hl hA (fun _ h => h) (by rw [hrows]; intro p hp; simp at hp)
      have := (hrec _ _ _ _ hcall).2 f hσ (fun _ _ => none) I (fun b => w.heap.size ≤ b) w vargs (.empty _ hS.ilt (fun _ h => h)) (allD_rep hds hx _ _) hG
      refine this.mono fun e w' ⟨x, β', I', he, hxt, hsm, hrx⟩ => ⟨x, he, ?_⟩
      have hlen : (st.base ++ st.loc).length - st.base.length = st.loc.length := by simp
      obtain ⟨m1, m2⟩ := hS.merge (by simp) (hsm 0 (fun _ => True)) hxt
      refine ⟨_, I', m1, ?_, (hrx 0).shift ?_, fun k u hk _ => Map.join_lt hk⟩
      · rw [hlen, List.append_assoc] at m2
        exact m2
      · intro i ver z hz
        rw [Map.join_ge (by rw [List.length_append]; omega), show st.base.length + (st.loc.length + i) - (st.base ++ st.loc).length = i by rw [List.length_append]; omega]
        exact hz
    · cases h
  · cases h

theorem callFull_sound {g : Nat} {args xs : List FV} {f : FuncId} {vargs : Array Value} (hrl : RecLen rec) (hrec : RecOK P E σ rec) (hS : SimH σ st.base.length β I Wr wd (st.base ++ st.loc) w) (hG : Globs E σ I w) (hσ : σ g = some f)
    (hA : RepC σ β I w st.base.length args vargs.toList) (hl : leavesL st args = some xs) (h : callFull rec draw st g xs (args.flatMap FV.rows) = some (v, st')) (hdt : draw = false → MayW st.base.length st' wd) :
    Calls P f vargs w fun e w' => ∃ x, e = .returned x ∧ Post σ st.base.length (st.base ++ st.loc).length β I Wr wd w st' v x w' := by
  obtain ⟨I1, hf⟩ := frozen_all (args.flatMap FV.rows) hS
  have hx := leavesL_spec hS hl hA hf.im (hf.rowsIn hS)
  have hx' : ∀ n', RepC σ β I1 w n' (FV.toOldL st.base.length xs) vargs.toList := by
    intro n'
    rw [toOldL_eq]
    refine ⟨by simpa using hx.1, fun i c x hc hy => ?_⟩
    simp only [List.getElem?_map, Option.map_eq_some_iff] at hc
    obtain ⟨d, hd, rfl⟩ := hc
    exact (hx.2 i d x hd hy).toOld n'
  have hlen : (((freezeAll st (args.flatMap FV.rows)).base ++ (freezeAll st (args.flatMap FV.rows)).loc).map (AObj.toOld st.base.length)).length = st.base.length + st.loc.length := by
    simp [hf.base, hf.len]
  unfold callFull at h
  split at h
  · rename_i y hcall
    have hold := hf.sim.old (n' := (((freezeAll st (args.flatMap FV.rows)).base ++ (freezeAll st (args.flatMap FV.rows)).loc).map (AObj.toOld st.base.length)).length) (Wr' := fun b => w.heap.size ≤ b) (wd' := fun k => (((freezeAll st (args.flatMap FV.rows)).base ++ (freezeAll st (args.flatMap FV.rows)).loc).map (AObj.toOld st.base.length)).length ≤ k) (fun _ h => h)
      (fun k o b bo cap h1 _ h2 => by
        have := (List.getElem?_eq_some_iff.1 h1).1
        simp only [List.length_map] at h2
        omega)
    have := (hrec _ _ _ _ hcall).2 f hσ β I1 w vargs hold (hx' _) (hG.mono hf.im (fun _ _ => rfl))
    refine this.mono fun e w' ⟨x, y', I2, he, hy, hrx, hg⟩ => ⟨x, he, ?_⟩
    subst hy
    exact after_none hS hf hdt hrx hg h
  · rename_i y B hcall
    split at h
    · cases h
    · rename_i hdr
      cases h
      have hwd := (hdt (by simpa using hdr)).2 rfl
      have hWr : ∀ (k : Nat) (o : AObj) b bo cap, ((freezeAll st (args.flatMap FV.rows)).base ++ (freezeAll st (args.flatMap FV.rows)).loc)[k]? = some o → o.live β k = some (b, bo, cap) → Wr b := fun k o b bo cap h1 h2 => (hf.sim.wr k o b bo cap h1 h2).1 (hwd k)
      have hold := hf.sim.old (n' := (((freezeAll st (args.flatMap FV.rows)).base ++ (freezeAll st (args.flatMap FV.rows)).loc).map (AObj.toOld st.base.length)).length) (Wr' := Wr) (wd' := fun _ => True) hS.wnew
        (fun k o b bo cap h1 h2 _ => hWr k o b bo cap h1 h2)
      have := (hrec _ _ _ _ hcall).2 f hσ β I1 Wr w vargs hold (hx' _) (hG.mono hf.im (fun _ _ => rfl))
      refine this.mono fun e w' ⟨x, β', I', he, hxt, hsm, hrx⟩ => ⟨x, he, β', I', ?_, ?_, hrx _, fun k u _ hn => (hn (hwd k)).elim⟩
      · refine ⟨hxt.bm, fun b hb => hxt.im b (hf.im b hb), fun b hb => ?_, hxt.size, fun b hb => hxt.keepI b (hf.im b hb), hxt.keepW, hxt.os, hxt.tape, hxt.output⟩
        rcases hxt.inew b hb with h | h
        · rcases hf.inew b h with h | ⟨k, o, bo, cap, h1, h2, h3⟩
          · exact .inl h
          · exact .inr ((hS.wr k o b bo cap h1 h2).1 (hwd k))
        · exact .inr h
      · have hBl := hrl _ _ _ _ _ hcall
        rw [hlen] at hBl
        simp only [List.take_append_drop]
        exact hsm _ _
  · cases h

theorem doCall_given {g : Nat} {args : List FV} (hrec : RecOK P E σ rec) (h : doCall rec draw st g args = some (v, st')) : Given E g := by
  unfold doCall at h
  split at h
  · cases h
  · split at h
    · unfold callPure at h
      split at h
      · rename_i hc; exact (hrec _ _ _ _ hc).1
      · rename_i hc; exact (hrec _ _ _ _ hc).1
      · cases h
    · unfold callFull at h
      split at h
      · rename_i hc; exact (hrec _ _ _ _ hc).1
      · rename_i hc; exact (hrec _ _ _ _ hc).1
      · cases h

theorem doCall_sound {g : Nat} {args : List FV} {f : FuncId} {vargs : Array Value} (hrl : RecLen rec) (hrec : RecOK P E σ rec) (hS : SimH σ st.base.length β I Wr wd (st.base ++ st.loc) w) (hG : Globs E σ I w) (hσ : σ g = some f)
    (hA : RepC σ β I w st.base.length args vargs.toList) (h : doCall rec draw st g args = some (v, st')) (hdt : draw = false → MayW st.base.length st' wd) :
    Calls P f vargs w fun e w' => ∃ x, e = .returned x ∧ Post σ st.base.length (st.base ++ st.loc).length β I Wr wd w st' v x w' := by
  unfold doCall at h
  split at h
  · cases h
  · rename_i xs hl
    split at h
    · rename_i hd
      exact callPure_sound hrec hS hG hσ hA hl hd h hdt
    · exact callFull_sound hrl hrec hS hG hσ hA hl h hdt
end call
end Fi
