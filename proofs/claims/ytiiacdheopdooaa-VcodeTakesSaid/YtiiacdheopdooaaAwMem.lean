/-
  The calculus: how a store's objects carry over, and what a new object, a store, an append make of it.
-/
import Derived.Test.YtiiacdheopdooaaAwOps
namespace Go.AW
open Go

theorem row_of_block {w w' : World} {base e size : Nat} {v : Value} {n : Nat} {xs : List Value} (h : w.ownsRow base e size v n xs)
    (hb : ∀ b, v.ownBlock = some b → w'.heap[b]? = w.heap[b]?) : w'.ownsRow base e size v n xs := by
  refine ⟨h.1, ?_⟩
  rcases h.2 with h2 | ⟨g, cap, cur, hv, hg, hh, r⟩
  · exact .inl h2
  · exact .inr ⟨g, cap, cur, hv, hg, (hb g (by rw [hv]; rfl)).trans hh, r⟩

theorem blk_row {E sz n : Nat} {cs : List D} (v : Value) (h : ∀ a, v ≠ .pointer a) : blk (.row E sz n cs) v = v.ownBlock := by
  cases v with
  | pointer a => exact absurd rfl (h a)
  | slice a _ _ => cases a <;> rfl
  | _ => rfl

theorem row_no_ptr {w : World} {base e size : Nat} {v : Value} {n : Nat} {xs : List Value} (h : w.ownsRow base e size v n xs) (a : Option Addr) : v ≠ .pointer a := by
  rcases h.2 with ⟨rfl, _⟩ | ⟨g, cap, cur, rfl, _⟩ <;> simp

section
variable {k B : Nat} {F F' : Nat → Prop} {σ σ' : List Ob} {μ μ' : List Value} {w w' : World}

theorem ObOk.mono {i : Nat} {ob : Ob} {h : Value} (hm : Mem F w F' w') (hl : μ.length = σ.length) (hk : Keep σ.length σ μ σ' μ')
    (hb : ∀ b, blk ob h = some b → w'.heap[b]? = w.heap[b]? ∧ (F b → F' b)) (ho : ObOk k B F σ μ w i ob h) : ObOk k B F' σ' μ' w' i ob h := by
  cases ob with
  | box T cs =>
    obtain ⟨b, arr, rfl, h1, h2, h3, h4⟩ := ho
    have := hb b rfl
    exact ⟨b, arr, rfl, this.1.trans h1, VRs.mono hm hl hk _ _ h2, this.2 h3, h4⟩
  | row E sz n cs =>
    obtain ⟨vs, h1, h2, h3⟩ := ho
    have hb' : ∀ b, h.ownBlock = some b → w'.heap[b]? = w.heap[b]? ∧ (F b → F' b) := fun b e => hb b ((blk_row h (row_no_ptr h1)).trans e)
    exact ⟨vs, row_of_block h1 fun b e => (hb' b e).1, DRs.mono hm _ _ h2, fun b e => (hb' b e).2 (h3 b e)⟩

theorem St.none_high (st : St k B F σ μ w) {i : Nat} {ob : Ob} {h : Value} {b : Nat} (h1 : σ[i]? = some ob) (h2 : μ[i]? = some h) (h3 : blk ob h = some b) : b < w.heap.size :=
  st.lt b (st.live_F ⟨i, ob, h, h1, h2, h3⟩)

/-- The same memory, drawn from. -/
theorem St.same (st : St k B F σ μ w) (hh : w'.heap = w.heap) : St k B F σ μ w' := by
  have hm : Mem F w F w' := ⟨by rw [hh]; exact Nat.le_refl _, fun b _ hf => ⟨by rw [hh], hf⟩⟩
  refine ⟨st.len, fun i ob h h1 h2 => ?_, st.sep, fun b hb => by rw [hh]; exact st.lt b hb, by rw [hh]; exact st.base⟩
  exact ObOk.mono hm st.len (Keep.refl _ _ _) (fun b _ => ⟨by rw [hh], fun hf => hf⟩) (st.obj i ob h h1 h2)

theorem Stp.same (hh : w'.heap = w.heap) (h1 : w'.os = w.os) (h2 : w'.tape = w.tape) (h3 : w'.output = w.output) : Stp k B F σ μ w F σ μ w' :=
  ⟨h1, h2, h3, by rw [hh]; exact Nat.le_refl _, fun b _ _ => by rw [hh], fun _ h => .inl h, fun _ _ h => h, fun _ h => .inl h, Keep.refl _ _ _, fun _ _ _ _ _ _ _ _ _ _ _ _ _ h1 _ h2 b hb => by
    rw [h1] at h2; obtain rfl := Option.some.inj h2; exact .inl hb⟩

/-- Object i and its place turn to others; nothing else moves. -/
theorem St.set (st : St k B F σ μ w) {i : Nat} {ob ob' : Ob} {h h' : Value} (hi : σ[i]? = some ob) (hh : μ[i]? = some h)
    (hos : w'.os = w.os) (htape : w'.tape = w.tape) (hout : w'.output = w.output) (hsize : w.heap.size ≤ w'.heap.size)
    (hmem : ∀ b, b < w.heap.size → blk ob h ≠ some b → w'.heap[b]? = w.heap[b]?)
    (hF : ∀ b, F b → F' b) (hF' : ∀ b, F' b → F b ∨ (w.heap.size ≤ b ∧ b < w'.heap.size))
    (hblk : ∀ b, blk ob' h' = some b → blk ob h = some b ∨ w.heap.size ≤ b)
    (hkeep : Keep σ.length σ μ (σ.set i ob') (μ.set i h'))
    (hob : ObOk k B F' (σ.set i ob') (μ.set i h') w' i ob' h') :
    St k B F' (σ.set i ob') (μ.set i h') w' ∧ Stp k B F σ μ w F' (σ.set i ob') (μ.set i h') w' ∧ Keep σ.length σ μ (σ.set i ob') (μ.set i h') ∧ Mem F w F' w' := by
  have hil : i < σ.length := (List.getElem?_eq_some_iff.1 hi).1
  have hjl : i < μ.length := by rw [st.len]; exact hil
  have si : (σ.set i ob')[i]? = some ob' := by simp [hil]
  have mi : (μ.set i h')[i]? = some h' := by simp [hjl]
  have sj : ∀ j, j ≠ i → (σ.set i ob')[j]? = σ[j]? := fun j e => by rw [List.getElem?_set_ne (Ne.symm e)]
  have mj : ∀ j, j ≠ i → (μ.set i h')[j]? = μ[j]? := fun j e => by rw [List.getElem?_set_ne (Ne.symm e)]
  have hm : Mem F w F' w' := ⟨hsize, fun b hb hf => ⟨hmem b hb fun e => hf (st.live_F ⟨i, ob, h, hi, hh, e⟩), fun hf' => by
    rcases hF' b hf' with h1 | h1
    · exact hf h1
    · omega⟩⟩
  have live : ∀ b, Live (σ.set i ob') (μ.set i h') b → Live σ μ b ∨ w.heap.size ≤ b := by
    rintro b ⟨j, ob1, h1, e1, e2, e3⟩
    by_cases e : j = i
    · subst e
      rw [si] at e1
      rw [mi] at e2
      obtain rfl := Option.some.inj e1
      obtain rfl := Option.some.inj e2
      rcases hblk b e3 with g | g
      · exact .inl ⟨j, ob, h, hi, hh, g⟩
      · exact .inr g
    · rw [sj j e] at e1
      rw [mj j e] at e2
      exact .inl ⟨j, ob1, h1, e1, e2, e3⟩
  have rows : ∀ (j E sz m : Nat) (cs : List D) (u : Value) (E' sz' m' : Nat) (cs' : List D) (u' : Value), j < k → σ[j]? = some (.row E sz m cs) → μ[j]? = some u → (σ.set i ob')[j]? = some (.row E' sz' m' cs') → (μ.set i h')[j]? = some u' →
      ∀ b, u'.ownBlock = some b → u.ownBlock = some b ∨ w.heap.size ≤ b := by
    intro j E sz m cs u E' sz' m' cs' u' _ a1 a2 a3 a4 b hb
    by_cases e : j = i
    · subst e
      rw [si] at a3
      rw [mi] at a4
      rw [hi] at a1
      rw [hh] at a2
      obtain rfl := Option.some.inj a3
      obtain rfl := Option.some.inj a4
      obtain rfl := Option.some.inj a1
      obtain rfl := Option.some.inj a2
      obtain ⟨vs, ho, _, _⟩ := st.obj j _ _ hi hh
      obtain ⟨vs', ho', _, _⟩ := hob
      have := hblk b (by rw [blk_row _ (row_no_ptr ho')]; exact hb)
      rw [blk_row _ (row_no_ptr ho)] at this
      exact this
    · rw [mj j e] at a4
      rw [a2] at a4
      obtain rfl := Option.some.inj a4
      exact .inl hb
  refine ⟨⟨by simp [st.len], fun j ob1 h1 e1 e2 => ?_, fun j l ob1 h1 ob2 h2 b e1 e2 e3 e4 e5 e6 => ?_, fun b hb => ?_, Nat.le_trans st.base hsize⟩,
    ⟨hos, htape, hout, hsize, fun b hb hl => hmem b hb fun e => hl ⟨i, ob, h, hi, hh, e⟩, fun b hb => (hF' b hb).imp id (·.1), fun b _ hf => hF b hf, live, hkeep.any, rows⟩, hkeep, hm⟩
  · by_cases e : j = i
    · subst e
      rw [si] at e1
      rw [mi] at e2
      obtain rfl := Option.some.inj e1
      obtain rfl := Option.some.inj e2
      exact hob
    · rw [sj j e] at e1
      rw [mj j e] at e2
      refine ObOk.mono hm st.len hkeep (fun b hb => ⟨hmem b (st.none_high e1 e2 hb) fun e3 => e (st.sep j i ob1 h1 ob h b e1 e2 hi hh hb e3), hF b⟩) (st.obj j ob1 h1 e1 e2)
  · have key : ∀ j ob1 h1, j ≠ i → σ[j]? = some ob1 → μ[j]? = some h1 → blk ob1 h1 = some b → blk ob' h' = some b → False := by
      intro j ob1 h1 e e1 e2 e3 e4
      rcases hblk b e4 with g | g
      · exact e (st.sep j i ob1 h1 ob h b e1 e2 hi hh e3 g)
      · have := st.none_high e1 e2 e3
        omega
    by_cases ej : j = i
    · by_cases el : l = i
      · rw [ej, el]
      · subst ej
        rw [si] at e1; rw [mi] at e2; rw [sj l el] at e3; rw [mj l el] at e4
        obtain rfl := Option.some.inj e1
        obtain rfl := Option.some.inj e2
        exact (key l ob2 h2 el e3 e4 e6 e5).elim
    · by_cases el : l = i
      · subst el
        rw [si] at e3; rw [mi] at e4; rw [sj j ej] at e1; rw [mj j ej] at e2
        obtain rfl := Option.some.inj e3
        obtain rfl := Option.some.inj e4
        exact (key j ob1 h1 ej e1 e2 e5 e6).elim
      · rw [sj j ej] at e1; rw [mj j ej] at e2; rw [sj l el] at e3; rw [mj l el] at e4
        exact st.sep j l ob1 h1 ob2 h2 b e1 e2 e3 e4 e5 e6
  · rcases hF' b hb with h1 | h1
    · exact Nat.lt_of_lt_of_le (st.lt b h1) hsize
    · exact h1.2

/-- A new object, behind the others. -/
theorem St.push (st : St k B F σ μ w) {ob' : Ob} {h' : Value}
    (hos : w'.os = w.os) (htape : w'.tape = w.tape) (hout : w'.output = w.output) (hsize : w.heap.size ≤ w'.heap.size)
    (hmem : ∀ b, b < w.heap.size → w'.heap[b]? = w.heap[b]?)
    (hF : ∀ b, F b → F' b) (hF' : ∀ b, F' b → F b ∨ (w.heap.size ≤ b ∧ b < w'.heap.size))
    (hblk : ∀ b, blk ob' h' = some b → w.heap.size ≤ b)
    (hob : ObOk k B F' (σ ++ [ob']) (μ ++ [h']) w' σ.length ob' h') :
    St k B F' (σ ++ [ob']) (μ ++ [h']) w' ∧ Stp k B F σ μ w F' (σ ++ [ob']) (μ ++ [h']) w' ∧ Keep σ.length σ μ (σ ++ [ob']) (μ ++ [h']) ∧ Mem F w F' w' := by
  have sl : (σ ++ [ob'])[σ.length]? = some ob' := by simp
  have ml : (μ ++ [h'])[σ.length]? = some h' := by rw [← st.len]; simp
  have sj : ∀ j, j < σ.length → (σ ++ [ob'])[j]? = σ[j]? := fun j e => List.getElem?_append_left e
  have mj : ∀ j, j < σ.length → (μ ++ [h'])[j]? = μ[j]? := fun j e => List.getElem?_append_left (by rw [st.len]; exact e)
  have hlt : ∀ j (x : Ob), (σ ++ [ob'])[j]? = some x → j < σ.length ∨ j = σ.length := fun j x e => by
    have := (List.getElem?_eq_some_iff.1 e).1
    simp at this
    omega
  have hkeep : Keep σ.length σ μ (σ ++ [ob']) (μ ++ [h']) := by
    refine ⟨fun i T cs u hi e1 e2 => ⟨⟨cs, (sj i hi).trans e1⟩, (mj i hi).trans e2⟩, fun i E sz m cs u hi e1 e2 => ⟨m, cs, u, (sj i hi).trans e1, (mj i hi).trans e2, Nat.le_refl _, fun _ => rfl⟩⟩
  have hm : Mem F w F' w' := ⟨hsize, fun b hb hf => ⟨hmem b hb, fun hf' => by
    rcases hF' b hf' with h1 | h1
    · exact hf h1
    · omega⟩⟩
  refine ⟨⟨by simp [st.len], fun j ob1 h1 e1 e2 => ?_, fun j l ob1 h1 ob2 h2 b e1 e2 e3 e4 e5 e6 => ?_, fun b hb => ?_, Nat.le_trans st.base hsize⟩,
    ⟨hos, htape, hout, hsize, fun b hb _ => hmem b hb, fun b hb => (hF' b hb).imp id (·.1), fun b _ hf => hF b hf, ?_, hkeep.any, fun i E sz m cs u E' sz' m' cs' u' _ a1 a2 a3 a4 b hb => by
      have hi := (List.getElem?_eq_some_iff.1 a1).1
      rw [mj i hi, a2] at a4
      obtain rfl := Option.some.inj a4
      exact .inl hb⟩, hkeep, hm⟩
  · rcases hlt j ob1 e1 with e | e
    · rw [sj j e] at e1
      rw [mj j e] at e2
      exact ObOk.mono hm st.len hkeep (fun b hb => ⟨hmem b (st.none_high e1 e2 hb), hF b⟩) (st.obj j ob1 h1 e1 e2)
    · subst e
      rw [sl] at e1; rw [ml] at e2
      obtain rfl := Option.some.inj e1
      obtain rfl := Option.some.inj e2
      exact hob
  · rcases hlt j ob1 e1 with ej | ej <;> rcases hlt l ob2 e3 with el | el
    · rw [sj j ej] at e1; rw [mj j ej] at e2; rw [sj l el] at e3; rw [mj l el] at e4
      exact st.sep j l ob1 h1 ob2 h2 b e1 e2 e3 e4 e5 e6
    · subst el
      rw [sl] at e3; rw [ml] at e4; rw [sj j ej] at e1; rw [mj j ej] at e2
      obtain rfl := Option.some.inj e3
      obtain rfl := Option.some.inj e4
      have g1 := hblk b e6
      have g2 := st.none_high e1 e2 e5
      omega
    · subst ej
      rw [sl] at e1; rw [ml] at e2; rw [sj l el] at e3; rw [mj l el] at e4
      obtain rfl := Option.some.inj e1
      obtain rfl := Option.some.inj e2
      have g1 := hblk b e5
      have g2 := st.none_high e3 e4 e6
      omega
    · omega
  · rcases hF' b hb with h1 | h1
    · exact Nat.lt_of_lt_of_le (st.lt b h1) hsize
    · exact h1.2
  · rintro b ⟨j, ob1, h1, e1, e2, e3⟩
    rcases hlt j ob1 e1 with e | e
    · rw [sj j e] at e1
      rw [mj j e] at e2
      exact .inl ⟨j, ob1, h1, e1, e2, e3⟩
    · subst e
      rw [sl] at e1; rw [ml] at e2
      obtain rfl := Option.some.inj e1
      obtain rfl := Option.some.inj e2
      exact .inr (hblk b e3)

theorem heap_setCell_at {w : World} {b off : Nat} {arr : Array Value} {T : TypeId} (h : w.heap[b]? = some (.cells arr T (0, 0))) (v : Value) :
    (w.setCell ⟨b, off, none⟩ v).heap[b]? = some (.cells (arr.setIfInBounds off v) T (0, 0)) := by
  simp [World.setCell, Array.getElem?_modify, h]

theorem VRs.length {F : Nat → Prop} {σ : List Ob} {μ : List Value} {w : World} : ∀ {xs : List V} {vs : List Value}, VRs F σ μ w xs vs → vs.length = xs.length
  | [], vs, h => by simp only [VRs] at h; simp [h]
  | x :: xs, vs, h => by
    simp only [VRs] at h
    obtain ⟨v, us, rfl, _, h2⟩ := h
    simp [VRs.length h2]

theorem VRs.get {F : Nat → Prop} {σ : List Ob} {μ : List Value} {w : World} : ∀ {xs : List V} {vs : List Value}, VRs F σ μ w xs vs → ∀ (i : Nat) (x : V), xs[i]? = some x → ∃ v, vs[i]? = some v ∧ VR F σ μ w x v
  | [], vs, h, i, x, hx => by simp at hx
  | y :: xs, vs, h, i, x, hx => by
    simp only [VRs] at h
    obtain ⟨v, us, rfl, h1, h2⟩ := h
    cases i with
    | zero => simp at hx; subst hx; exact ⟨v, rfl, h1⟩
    | succ i => simpa using VRs.get h2 i x (by simpa using hx)

theorem VRs.set {F : Nat → Prop} {σ : List Ob} {μ : List Value} {w : World} : ∀ {xs : List V} {vs : List Value}, VRs F σ μ w xs vs → ∀ (i : Nat) (x : V) (v : Value), VR F σ μ w x v → VRs F σ μ w (xs.set i x) (vs.set i v)
  | [], vs, h, i, x, v, hx => by simp only [VRs] at h; subst h; simp [VRs]
  | y :: xs, vs, h, i, x, v, hx => by
    simp only [VRs] at h
    obtain ⟨u, us, rfl, h1, h2⟩ := h
    cases i with
    | zero => exact ⟨v, us, rfl, hx, h2⟩
    | succ i => exact ⟨u, us.set i v, rfl, h1, VRs.set h2 i x v hx⟩

theorem VRs.drop {F : Nat → Prop} {σ : List Ob} {μ : List Value} {w : World} : ∀ {xs : List V} {vs : List Value}, VRs F σ μ w xs vs → ∀ n, VRs F σ μ w (xs.drop n) (vs.drop n)
  | [], vs, h, n => by simp only [VRs] at h; subst h; simp [VRs]
  | y :: xs, vs, h, n => by
    cases n with
    | zero => exact h
    | succ n =>
      simp only [VRs] at h
      obtain ⟨u, us, rfl, h1, h2⟩ := h
      simpa using VRs.drop h2 n

theorem VRs.take {F : Nat → Prop} {σ : List Ob} {μ : List Value} {w : World} : ∀ {xs : List V} {vs : List Value}, VRs F σ μ w xs vs → ∀ n, VRs F σ μ w (xs.take n) (vs.take n)
  | [], vs, h, n => by simp only [VRs] at h; subst h; simp [VRs]
  | y :: xs, vs, h, n => by
    cases n with
    | zero => simp [VRs]
    | succ n =>
      simp only [VRs] at h
      obtain ⟨u, us, rfl, h1, h2⟩ := h
      exact ⟨u, us.take n, by simp, h1, VRs.take h2 n⟩

theorem VRs.append {F : Nat → Prop} {σ : List Ob} {μ : List Value} {w : World} : ∀ {xs : List V} {vs : List Value} {ys : List V} {us : List Value}, VRs F σ μ w xs vs → VRs F σ μ w ys us → VRs F σ μ w (xs ++ ys) (vs ++ us)
  | [], vs, ys, us, h, g => by simp only [VRs] at h; subst h; simpa using g
  | y :: xs, vs, ys, us, h, g => by
    simp only [VRs] at h
    obtain ⟨v, vs', rfl, h1, h2⟩ := h
    exact ⟨v, vs' ++ us, rfl, h1, VRs.append h2 g⟩

theorem DRs.length {F : Nat → Prop} {w : World} : ∀ {xs : List D} {vs : List Value}, DRs F w xs vs → vs.length = xs.length
  | [], vs, h => by simp only [DRs] at h; simp [h]
  | x :: xs, vs, h => by
    simp only [DRs] at h
    obtain ⟨v, us, rfl, _, h2⟩ := h
    simp [DRs.length h2]

theorem DRs.drop {F : Nat → Prop} {w : World} : ∀ {xs : List D} {vs : List Value}, DRs F w xs vs → ∀ n, DRs F w (xs.drop n) (vs.drop n)
  | [], vs, h, n => by simp only [DRs] at h; subst h; simp [DRs]
  | y :: xs, vs, h, n => by
    cases n with
    | zero => exact h
    | succ n =>
      simp only [DRs] at h
      obtain ⟨u, us, rfl, h1, h2⟩ := h
      simpa using DRs.drop h2 n

theorem DRs.take {F : Nat → Prop} {w : World} : ∀ {xs : List D} {vs : List Value}, DRs F w xs vs → ∀ n, DRs F w (xs.take n) (vs.take n)
  | [], vs, h, n => by simp only [DRs] at h; subst h; simp [DRs]
  | y :: xs, vs, h, n => by
    cases n with
    | zero => simp [DRs]
    | succ n =>
      simp only [DRs] at h
      obtain ⟨u, us, rfl, h1, h2⟩ := h
      exact ⟨u, us.take n, by simp, h1, DRs.take h2 n⟩

theorem DRs.append {F : Nat → Prop} {w : World} : ∀ {xs : List D} {vs : List Value} {ys : List D} {us : List Value}, DRs F w xs vs → DRs F w ys us → DRs F w (xs ++ ys) (vs ++ us)
  | [], vs, ys, us, h, g => by simp only [DRs] at h; subst h; simpa using g
  | y :: xs, vs, ys, us, h, g => by
    simp only [DRs] at h
    obtain ⟨v, vs', rfl, h1, h2⟩ := h
    exact ⟨v, vs' ++ us, rfl, h1, DRs.append h2 g⟩

theorem DRs.toV {F : Nat → Prop} {σ : List Ob} {μ : List Value} {w : World} : ∀ {xs : List D} {vs : List Value}, DRs F w xs vs → VRs F σ μ w (xs.map .d) vs
  | [], vs, h => by simp only [DRs] at h; subst h; simp [VRs]
  | y :: xs, vs, h => by
    simp only [DRs] at h
    obtain ⟨u, us, rfl, h1, h2⟩ := h
    exact ⟨u, us, rfl, h1, DRs.toV h2⟩
end
end Go.AW
