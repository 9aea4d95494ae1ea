/-
  A calculus of small stores: values told as data, a call's own objects by number, all other memory by what it must not do. Core: relations and how they carry over.
-/
import Derived.WalkKit
import Derived.Orders
import Derived.Deep.LoopGhost
import Derived.Deep.MidRow
namespace Go.AW
open Go

/-- Data in memory that nobody writes: a cell is a value, or a slice over such cells. -/
inductive D where
  | s (v : Value)
  | l (n : Nat) (xs : List D)

/-- A value of a frame. -/
inductive V where
  | d (x : D)
  | a (cs : List V)
  | t (vs : List V)
  | p (i off : Nat)
  | c (xs : List D)
  | o (i n : Nat)
  | e (i n off : Nat)
  | f (fn : Fn) (fi ca : List V)
  | u

/-- An object of the frame's own store. -/
inductive Ob where
  | box (T : TypeId) (cs : List V)
  | row (E sz n : Nat) (cs : List D)

abbrev CellsAt (w : World) (b off : Nat) (vs : List Value) : Prop := w.rangeAt b off vs

mutual
def DR (F : Nat → Prop) (w : World) : D → Value → Prop
  | .s u, v => v = u
  | .l n xs, v => ∃ A cap, v = .slice A n cap ∧ n ≤ cap ∧ ((xs = [] ∧ n = 0) ∨ ∃ b off vs, A = some ⟨b, off, none⟩ ∧ b < w.heap.size ∧ ¬ F b ∧ CellsAt w b off vs ∧ DRs F w xs vs)
def DRs (F : Nat → Prop) (w : World) : List D → List Value → Prop
  | [], vs => vs = []
  | x :: xs, vs => ∃ v us, vs = v :: us ∧ DR F w x v ∧ DRs F w xs us
end

mutual
def VR (F : Nat → Prop) (σ : List Ob) (μ : List Value) (w : World) : V → Value → Prop
  | .d x, v => DR F w x v
  | .a xs, v => ∃ cs : Array Value, v = .agg cs ∧ VRs F σ μ w xs cs.toList
  | .t xs, v => ∃ cs : Array Value, v = .tuple cs ∧ VRs F σ μ w xs cs.toList
  | .p i off, v => ∃ b T cs, σ[i]? = some (.box T cs) ∧ μ[i]? = some (.pointer (some ⟨b, 0, none⟩)) ∧ v = .pointer (some ⟨b, off, none⟩)
  | .c xs, v => ∃ b off vs, v = .pointer (some ⟨b, off, none⟩) ∧ b < w.heap.size ∧ ¬ F b ∧ CellsAt w b off vs ∧ DRs F w xs vs
  | .o i n, v => ∃ E sz m cs h A cap, σ[i]? = some (.row E sz m cs) ∧ μ[i]? = some h ∧ v = .slice A n cap ∧ n ≤ m ∧ (n = m → v = h)
  | .e i n off, v => ∃ E sz m cs h b, σ[i]? = some (.row E sz m cs) ∧ μ[i]? = some h ∧ v = .pointer (some ⟨b, off, none⟩) ∧ n ≤ m ∧ (n = m → h.ownBlock = some b)
  | .f fn fi ca, v => ∃ x y : Array Value, v = .func fn x y ∧ VRs F σ μ w fi x.toList ∧ VRs F σ μ w ca y.toList
  | .u, _ => True
def VRs (F : Nat → Prop) (σ : List Ob) (μ : List Value) (w : World) : List V → List Value → Prop
  | [], vs => vs = []
  | x :: xs, vs => ∃ v us, vs = v :: us ∧ VR F σ μ w x v ∧ VRs F σ μ w xs us
end

def blk : Ob → Value → Option Nat
  | _, .pointer (some a) => some a.block
  | _, .slice (some a) _ _ => some a.block
  | _, _ => none

def Live (σ : List Ob) (μ : List Value) (b : Nat) : Prop := ∃ (i : Nat) (ob : Ob) (h : Value), σ[i]? = some ob ∧ μ[i]? = some h ∧ blk ob h = some b

def ObOk (k B : Nat) (F : Nat → Prop) (σ : List Ob) (μ : List Value) (w : World) (i : Nat) : Ob → Value → Prop
  | .box T cs, h => ∃ b arr, h = .pointer (some ⟨b, 0, none⟩) ∧ w.heap[b]? = some (.cells arr T (0, 0)) ∧ VRs F σ μ w cs arr.toList ∧ F b ∧ (k ≤ i → B ≤ b)
  | .row E sz n cs, h => ∃ vs, w.ownsRow (if k ≤ i then B else 0) E sz h n vs ∧ DRs F w cs vs ∧ ∀ b, h.ownBlock = some b → F b

structure St (k B : Nat) (F : Nat → Prop) (σ : List Ob) (μ : List Value) (w : World) : Prop where
  len : μ.length = σ.length
  obj : ∀ (i : Nat) (ob : Ob) (h : Value), σ[i]? = some ob → μ[i]? = some h → ObOk k B F σ μ w i ob h
  sep : ∀ (i j : Nat) (ob : Ob) (h : Value) (ob' : Ob) (h' : Value) (b : Nat), σ[i]? = some ob → μ[i]? = some h → σ[j]? = some ob' → μ[j]? = some h' → blk ob h = some b → blk ob' h' = some b → i = j
  lt : ∀ b, F b → b < w.heap.size
  base : B ≤ w.heap.size

/-- The store's objects go on: a box is a box in the same place, a row only grows. -/
structure Keep (k : Nat) (σ : List Ob) (μ : List Value) (σ' : List Ob) (μ' : List Value) : Prop where
  box : ∀ (i : Nat) (T : TypeId) (cs : List V) (h : Value), i < k → σ[i]? = some (.box T cs) → μ[i]? = some h → (∃ cs', σ'[i]? = some (.box T cs')) ∧ μ'[i]? = some h
  row : ∀ (i E sz m : Nat) (cs : List D) (h : Value), i < k → σ[i]? = some (.row E sz m cs) → μ[i]? = some h → ∃ m' cs' h', σ'[i]? = some (.row E sz m' cs') ∧ μ'[i]? = some h' ∧ m ≤ m' ∧ (m = m' → h' = h)

theorem Keep.refl (k : Nat) (σ : List Ob) (μ : List Value) : Keep k σ μ σ μ :=
  ⟨fun _ _ _ _ _ h h' => ⟨⟨_, h⟩, h'⟩, fun _ _ _ _ _ _ _ h h' => ⟨_, _, _, h, h', Nat.le_refl _, fun _ => rfl⟩⟩

theorem Keep.trans {k : Nat} {σ σ1 σ2 : List Ob} {μ μ1 μ2 : List Value} (h : Keep k σ μ σ1 μ1) (g : Keep k σ1 μ1 σ2 μ2) : Keep k σ μ σ2 μ2 := by
  refine ⟨fun i T cs u hi hs hm => ?_, fun i E sz m cs u hi hs hm => ?_⟩
  · obtain ⟨⟨c1, h1⟩, h2⟩ := h.box i T cs u hi hs hm
    exact g.box i T c1 u hi h1 h2
  · obtain ⟨m1, c1, u1, h1, h2, h3, h4⟩ := h.row i E sz m cs u hi hs hm
    obtain ⟨m2, c2, u2, g1, g2, g3, g4⟩ := g.row i E sz m1 c1 u1 hi h1 h2
    refine ⟨m2, c2, u2, g1, g2, Nat.le_trans h3 g3, fun e => ?_⟩
    rw [g4 (by omega), h4 (by omega)]

theorem Keep.mono {k k' : Nat} {σ σ1 : List Ob} {μ μ1 : List Value} (h : Keep k σ μ σ1 μ1) (hk : k' ≤ k) : Keep k' σ μ σ1 μ1 :=
  ⟨fun i T cs u hi => h.box i T cs u (by omega), fun i E sz m cs u hi => h.row i E sz m cs u (by omega)⟩

theorem Keep.any {k : Nat} {σ σ1 : List Ob} {μ μ1 : List Value} (h : Keep σ.length σ μ σ1 μ1) : Keep k σ μ σ1 μ1 :=
  ⟨fun i T cs u _ hs => h.box i T cs u (List.getElem?_eq_some_iff.1 hs).1 hs, fun i E sz m cs u _ hs => h.row i E sz m cs u (List.getElem?_eq_some_iff.1 hs).1 hs⟩

/-- What data read stays. -/
def Mem (F : Nat → Prop) (w : World) (F' : Nat → Prop) (w' : World) : Prop := w.heap.size ≤ w'.heap.size ∧ ∀ b, b < w.heap.size → ¬ F b → w'.heap[b]? = w.heap[b]? ∧ ¬ F' b

theorem cellsAt_of_block {w w' : World} {b off : Nat} {vs : List Value} (h : w'.heap[b]? = w.heap[b]?) (hc : CellsAt w b off vs) : CellsAt w' b off vs :=
  fun j v hv => (World.cell?_of_block (w := w) (a := ⟨b, off + j, none⟩) h).trans (hc j v hv)

mutual
theorem DR.mono {F F' : Nat → Prop} {w w' : World} (hm : Mem F w F' w') : ∀ (x : D) (v : Value), DR F w x v → DR F' w' x v
  | .s u, v, h => by simpa [DR] using h
  | .l n xs, v, h => by
    simp only [DR] at h ⊢
    obtain ⟨A, cap, hv, hn, h | ⟨b, off, vs, hA, hb, hF, hc, hd⟩⟩ := h
    · exact ⟨A, cap, hv, hn, .inl h⟩
    · have := hm.2 b hb hF
      exact ⟨A, cap, hv, hn, .inr ⟨b, off, vs, hA, Nat.lt_of_lt_of_le hb hm.1, this.2, cellsAt_of_block this.1 hc, DRs.mono hm xs vs hd⟩⟩
theorem DRs.mono {F F' : Nat → Prop} {w w' : World} (hm : Mem F w F' w') : ∀ (xs : List D) (vs : List Value), DRs F w xs vs → DRs F' w' xs vs
  | [], vs, h => by simpa [DRs] using h
  | x :: xs, vs, h => by
    simp only [DRs] at h ⊢
    obtain ⟨v, us, hv, h1, h2⟩ := h
    exact ⟨v, us, hv, DR.mono hm x v h1, DRs.mono hm xs us h2⟩
end

mutual
theorem VR.mono {F F' : Nat → Prop} {σ σ' : List Ob} {μ μ' : List Value} {w w' : World} (hm : Mem F w F' w') (hl : μ.length = σ.length) (hk : Keep σ.length σ μ σ' μ') :
    ∀ (x : V) (v : Value), VR F σ μ w x v → VR F' σ' μ' w' x v
  | .d x, v, h => by simp only [VR] at h ⊢; exact DR.mono hm x v h
  | .a xs, v, h => by
    simp only [VR] at h ⊢
    obtain ⟨cs, hv, h⟩ := h
    exact ⟨cs, hv, VRs.mono hm hl hk xs _ h⟩
  | .t xs, v, h => by
    simp only [VR] at h ⊢
    obtain ⟨cs, hv, h⟩ := h
    exact ⟨cs, hv, VRs.mono hm hl hk xs _ h⟩
  | .p i off, v, h => by
    simp only [VR] at h ⊢
    obtain ⟨b, T, cs, h1, h2, h3⟩ := h
    have hi : i < σ.length := (List.getElem?_eq_some_iff.1 h1).1
    obtain ⟨⟨cs', g1⟩, g2⟩ := hk.box i T cs _ hi h1 h2
    exact ⟨b, T, cs', g1, g2, h3⟩
  | .c xs, v, h => by
    simp only [VR] at h ⊢
    obtain ⟨b, off, vs, hv, hb, hF, hc, hd⟩ := h
    have := hm.2 b hb hF
    exact ⟨b, off, vs, hv, Nat.lt_of_lt_of_le hb hm.1, this.2, cellsAt_of_block this.1 hc, DRs.mono hm xs vs hd⟩
  | .o i n, v, h => by
    simp only [VR] at h ⊢
    obtain ⟨E, sz, m, cs, u, A, cap, h1, h2, h0, h3, h4⟩ := h
    have hi : i < σ.length := (List.getElem?_eq_some_iff.1 h1).1
    obtain ⟨m', cs', u', g1, g2, g3, g4⟩ := hk.row i E sz m cs u hi h1 h2
    refine ⟨E, sz, m', cs', u', A, cap, g1, g2, h0, Nat.le_trans h3 g3, fun e => ?_⟩
    rw [g4 (by omega)]
    exact h4 (by omega)
  | .e i n off, v, h => by
    simp only [VR] at h ⊢
    obtain ⟨E, sz, m, cs, u, b, h1, h2, h0, h3, h4⟩ := h
    have hi : i < σ.length := (List.getElem?_eq_some_iff.1 h1).1
    obtain ⟨m', cs', u', g1, g2, g3, g4⟩ := hk.row i E sz m cs u hi h1 h2
    refine ⟨E, sz, m', cs', u', b, g1, g2, h0, Nat.le_trans h3 g3, fun e => ?_⟩
    rw [g4 (by omega)]
    exact h4 (by omega)
  | .f fn fi ca, v, h => by
    simp only [VR] at h ⊢
    obtain ⟨x, y, hv, h1, h2⟩ := h
    exact ⟨x, y, hv, VRs.mono hm hl hk fi _ h1, VRs.mono hm hl hk ca _ h2⟩
  | .u, v, h => by simp [VR]
theorem VRs.mono {F F' : Nat → Prop} {σ σ' : List Ob} {μ μ' : List Value} {w w' : World} (hm : Mem F w F' w') (hl : μ.length = σ.length) (hk : Keep σ.length σ μ σ' μ') :
    ∀ (xs : List V) (vs : List Value), VRs F σ μ w xs vs → VRs F' σ' μ' w' xs vs
  | [], vs, h => by simpa [VRs] using h
  | x :: xs, vs, h => by
    simp only [VRs] at h ⊢
    obtain ⟨v, us, hv, h1, h2⟩ := h
    exact ⟨v, us, hv, VR.mono hm hl hk x v h1, VRs.mono hm hl hk xs us h2⟩
end

/-- What a piece of a run does to all that is not its own. -/
structure Stp (k B : Nat) (F : Nat → Prop) (σ : List Ob) (μ : List Value) (w : World) (F' : Nat → Prop) (σ' : List Ob) (μ' : List Value) (w' : World) : Prop where
  os : w'.os = w.os
  tape : w'.tape = w.tape
  output : w'.output = w.output
  size : w.heap.size ≤ w'.heap.size
  mem : ∀ b, b < w.heap.size → ¬ Live σ μ b → w'.heap[b]? = w.heap[b]?
  fnew : ∀ b, F' b → F b ∨ w.heap.size ≤ b
  fold : ∀ b, b < B → F b → F' b
  live : ∀ b, Live σ' μ' b → Live σ μ b ∨ w.heap.size ≤ b
  keep : Keep k σ μ σ' μ'
  rows : ∀ (i E sz m : Nat) (cs : List D) (h : Value) (E' sz' m' : Nat) (cs' : List D) (h' : Value), i < k → σ[i]? = some (.row E sz m cs) → μ[i]? = some h → σ'[i]? = some (.row E' sz' m' cs') → μ'[i]? = some h' →
    ∀ b, h'.ownBlock = some b → h.ownBlock = some b ∨ w.heap.size ≤ b

theorem Stp.refl (k B : Nat) (F : Nat → Prop) (σ : List Ob) (μ : List Value) (w : World) : Stp k B F σ μ w F σ μ w :=
  ⟨rfl, rfl, rfl, Nat.le_refl _, fun _ _ _ => rfl, fun _ h => .inl h, fun _ _ h => h, fun _ h => .inl h, Keep.refl _ _ _, fun _ _ _ _ _ _ _ _ _ _ _ _ _ h1 _ h2 b hb => by
    rw [h1] at h2; obtain rfl := Option.some.inj h2; exact .inl hb⟩

theorem Stp.trans {k B : Nat} {F F1 F2 : Nat → Prop} {σ σ1 σ2 : List Ob} {μ μ1 μ2 : List Value} {w w1 w2 : World} (h : Stp k B F σ μ w F1 σ1 μ1 w1) (g : Stp k B F1 σ1 μ1 w1 F2 σ2 μ2 w2) :
    Stp k B F σ μ w F2 σ2 μ2 w2 := by
  refine ⟨g.os.trans h.os, g.tape.trans h.tape, g.output.trans h.output, Nat.le_trans h.size g.size, fun b hb hl => ?_, fun b hb => ?_, fun b hb hf => g.fold b hb (h.fold b hb hf), fun b hb => ?_, h.keep.trans g.keep, fun i E sz m cs u E' sz' m' cs' u' hi a1 a2 a3 a4 b hb => ?_⟩
  · rw [g.mem b (Nat.lt_of_lt_of_le hb h.size) ?_, h.mem b hb hl]
    intro h1
    rcases h.live b h1 with h2 | h2
    · exact hl h2
    · omega
  · rcases g.fnew b hb with h1 | h1
    · exact h.fnew b h1
    · exact .inr (Nat.le_trans h.size h1)
  · rcases g.live b hb with h1 | h1
    · exact h.live b h1
    · exact .inr (Nat.le_trans h.size h1)
  · obtain ⟨m1, c1, u1, h1, h2, _⟩ := h.keep.row i E sz m cs u hi a1 a2
    rcases g.rows i E sz m1 c1 u1 E' sz' m' cs' u' hi h1 h2 a3 a4 b hb with e | e
    · exact h.rows i E sz m cs u E sz m1 c1 u1 hi a1 a2 h1 h2 b e
    · exact .inr (Nat.le_trans h.size e)

theorem ownBlock_of_row {w : World} {base e size : Nat} {v : Value} {n : Nat} {xs : List Value} (h : w.ownsRow base e size v n xs) : blk (.row e size n []) v = v.ownBlock := by
  rcases h.2 with ⟨rfl, _⟩ | ⟨g, cap, cur, rfl, _⟩ <;> rfl

theorem St.live_F {k B : Nat} {F : Nat → Prop} {σ : List Ob} {μ : List Value} {w : World} (h : St k B F σ μ w) {b : Nat} (hl : Live σ μ b) : F b := by
  obtain ⟨i, ob, u, h1, h2, h3⟩ := hl
  have := h.obj i ob u h1 h2
  cases ob with
  | box T cs =>
    obtain ⟨b', arr, rfl, _, _, hF, _⟩ := this
    simp [blk] at h3
    subst h3
    exact hF
  | row E sz n cs =>
    obtain ⟨vs, hown, _, hF⟩ := this
    rcases hown.2 with ⟨rfl, _⟩ | ⟨g, cap, cur, rfl, _⟩
    · simp [blk] at h3
    · simp [blk] at h3
      subst h3
      exact hF g rfl

/-- A step's memory, for data. -/
theorem Stp.memF {k B : Nat} {F F' : Nat → Prop} {σ σ' : List Ob} {μ μ' : List Value} {w w' : World} (st : St k B F σ μ w) (h : Stp k B F σ μ w F' σ' μ' w') : Mem F w F' w' :=
  ⟨h.size, fun b hb hF => ⟨h.mem b hb (fun hl => hF (st.live_F hl)), fun hF' => by
    rcases h.fnew b hF' with h1 | h1
    · exact hF h1
    · omega⟩⟩

end Go.AW
