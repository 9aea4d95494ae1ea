/-
  A calculus of small stores: values told as data, a call's own objects by number, all other memory by what it must not do. Core: relations and how they carry over.
-/
import Derived.WalkKit
import Derived.Orders
import Derived.Deep.LoopGhost
import Derived.Deep.MidRow
import Derived.Laws.AppendOwn
import Derived.Lib.AppendStr
import Derived.Lib.ConvBytes
import Derived.Laws.BytesArg
import Derived.Laws.StructEq
import Derived.ChangeKeysEq
set_option linter.unusedVariables false
set_option linter.unusedSimpArgs false
set_option maxHeartbeats 4000000
set_option maxRecDepth 10000
namespace Go.AW
open Go
inductive D where
  | s (v : Value)
  | l (n : Nat) (xs : List D)
inductive V where
  | d (x : D)
  | a (cs : List V)
  | t (vs : List V)
  | p (i off : Nat)
  | c (xs : List D)
  | o (i n : Nat)
  | e (i n off : Nat)
  | b (i off n : Nat)
  | g (i n : Nat)
  | f (fn : Fn) (fi ca : List V)
  | u
inductive Ob where
  | box (T : TypeId) (cs : List V)
  | row (E sz n : Nat) (cs : List D)
abbrev CellsAt (w : World) (b off : Nat) (vs : List Value) : Prop := w.rangeAt b off vs
mutual
def DR (F : Nat → Prop) (w : World) : D → Value → Prop
  | .s u, v => v = u
  | .l n xs, v => ∃ A cap, v = .slice A n cap ∧ n ≤ cap ∧ ((xs = [] ∧ n = 0) ∨ ∃ b off vs, A = some ⟨b, off, none⟩ ∧ b < w.heap.size ∧ ¬ F b ∧ CellsAt w b off vs ∧ DRs F w xs vs)
def DRs (F : Nat → Prop) (w : World) : List D → List Value → Prop
  | [], vs => vs = []
  | x :: xs, vs => ∃ v us, vs = v :: us ∧ DR F w x v ∧ DRs F w xs us
end
mutual
def VR (F : Nat → Prop) (σ : List Ob) (μ : List Value) (w : World) : V → Value → Prop
  | .d x, v => DR F w x v
  | .a xs, v => ∃ cs : Array Value, v = .agg cs ∧ VRs F σ μ w xs cs.toList
  | .t xs, v => ∃ cs : Array Value, v = .tuple cs ∧ VRs F σ μ w xs cs.toList
  | .p i off, v => ∃ b T cs, σ[i]? = some (.box T cs) ∧ μ[i]? = some (.pointer (some ⟨b, 0, none⟩)) ∧ v = .pointer (some ⟨b, off, none⟩)
  | .c xs, v => ∃ b off vs, v = .pointer (some ⟨b, off, none⟩) ∧ b < w.heap.size ∧ ¬ F b ∧ CellsAt w b off vs ∧ DRs F w xs vs
  | .o i n, v => ∃ E sz m cs h A cap, σ[i]? = some (.row E sz m cs) ∧ μ[i]? = some h ∧ v = .slice A n cap ∧ n ≤ m ∧ (n = m → v = h)
  | .b i off n, v => ∃ b T cs, σ[i]? = some (.box T cs) ∧ μ[i]? = some (.pointer (some ⟨b, 0, none⟩)) ∧ ∃ cap, v = .slice (some ⟨b, off, none⟩) n cap ∧ cap = n
  | .g i n, v => ∃ b T cs, σ[i]? = some (.box T cs) ∧ μ[i]? = some (.pointer (some ⟨b, 0, none⟩)) ∧ ∃ cap, v = .slice (some ⟨b, 0, none⟩) n cap ∧ n ≤ cap
  | .e i n off, v => ∃ E sz m cs h b, σ[i]? = some (.row E sz m cs) ∧ μ[i]? = some h ∧ v = .pointer (some ⟨b, off, none⟩) ∧ n ≤ m ∧ (n = m → h.ownBlock = some b)
  | .f fn fi ca, v => ∃ x y : Array Value, v = .func fn x y ∧ VRs F σ μ w fi x.toList ∧ VRs F σ μ w ca y.toList
  | .u, _ => True
def VRs (F : Nat → Prop) (σ : List Ob) (μ : List Value) (w : World) : List V → List Value → Prop
  | [], vs => vs = []
  | x :: xs, vs => ∃ v us, vs = v :: us ∧ VR F σ μ w x v ∧ VRs F σ μ w xs us
end
def blk : Ob → Value → Option Nat
  | _, .pointer (some a) => some a.block
  | _, .slice (some a) _ _ => some a.block
  | _, _ => none
def Live (σ : List Ob) (μ : List Value) (b : Nat) : Prop := ∃ (i : Nat) (ob : Ob) (h : Value), σ[i]? = some ob ∧ μ[i]? = some h ∧ blk ob h = some b
def VRx (F : Nat → Prop) (σ : List Ob) (μ : List Value) (w : World) (cs : List V) (vs : List Value) : Prop := ∃ l tl, vs = l ++ tl ∧ VRs F σ μ w cs l
theorem VRx.of {F : Nat → Prop} {σ : List Ob} {μ : List Value} {w : World} {cs : List V} {vs : List Value} (h : VRs F σ μ w cs vs) : VRx F σ μ w cs vs := ⟨vs, [], (List.append_nil _).symm, h⟩
theorem VRx.imp {F F' : Nat → Prop} {σ σ' : List Ob} {μ μ' : List Value} {w w' : World} {cs cs' : List V} {vs : List Value} (h : VRx F σ μ w cs vs) (f : ∀ l, VRs F σ μ w cs l → VRs F' σ' μ' w' cs' l) : VRx F' σ' μ' w' cs' vs := by
  obtain ⟨l, tl, e, h⟩ := h; exact ⟨l, tl, e, f l h⟩
def ObOk (k B : Nat) (F : Nat → Prop) (σ : List Ob) (μ : List Value) (w : World) (i : Nat) : Ob → Value → Prop
  | .box T cs, h => ∃ b arr, h = .pointer (some ⟨b, 0, none⟩) ∧ w.heap[b]? = some (.cells arr T (0, 0)) ∧ VRx F σ μ w cs arr.toList ∧ F b ∧ (k ≤ i → B ≤ b)
  | .row E sz n cs, h => ∃ vs, w.ownsRow (if k ≤ i then B else 0) E sz h n vs ∧ DRs F w cs vs ∧ ∀ b, h.ownBlock = some b → F b
structure St (k B : Nat) (F : Nat → Prop) (σ : List Ob) (μ : List Value) (w : World) : Prop where
  len : μ.length = σ.length
  obj : ∀ (i : Nat) (ob : Ob) (h : Value), σ[i]? = some ob → μ[i]? = some h → ObOk k B F σ μ w i ob h
  sep : ∀ (i j : Nat) (ob : Ob) (h : Value) (ob' : Ob) (h' : Value) (b : Nat), σ[i]? = some ob → μ[i]? = some h → σ[j]? = some ob' → μ[j]? = some h' → blk ob h = some b → blk ob' h' = some b → i = j
  lt : ∀ b, F b → b < w.heap.size
  base : B ≤ w.heap.size
structure Keep (k : Nat) (σ : List Ob) (μ : List Value) (σ' : List Ob) (μ' : List Value) : Prop where
  box : ∀ (i : Nat) (T : TypeId) (cs : List V) (h : Value), i < k → σ[i]? = some (.box T cs) → μ[i]? = some h → (∃ cs', σ'[i]? = some (.box T cs')) ∧ μ'[i]? = some h
  row : ∀ (i E sz m : Nat) (cs : List D) (h : Value), i < k → σ[i]? = some (.row E sz m cs) → μ[i]? = some h → ∃ m' cs' h', σ'[i]? = some (.row E sz m' cs') ∧ μ'[i]? = some h' ∧ m ≤ m' ∧ (m = m' → h' = h)
theorem Keep.refl (k : Nat) (σ : List Ob) (μ : List Value) : Keep k σ μ σ μ :=
  ⟨fun _ _ _ _ _ h h' => ⟨⟨_, h⟩, h'⟩, fun _ _ _ _ _ _ _ h h' => ⟨_, _, _, h, h', Nat.le_refl _, fun _ => rfl⟩⟩
theorem Keep.trans {k : Nat} {σ σ1 σ2 : List Ob} {μ μ1 μ2 : List Value} (h : Keep k σ μ σ1 μ1) (g : Keep k σ1 μ1 σ2 μ2) : Keep k σ μ σ2 μ2 := by
  refine ⟨fun i T cs u hi hs hm => ?_, fun i E sz m cs u hi hs hm => ?_⟩
  · obtain ⟨⟨c1, h1⟩, h2⟩ := h.box i T cs u hi hs hm
    exact g.box i T c1 u hi h1 h2
  · obtain ⟨m1, c1, u1, h1, h2, h3, h4⟩ := h.row i E sz m cs u hi hs hm
    obtain ⟨m2, c2, u2, g1, g2, g3, g4⟩ := g.row i E sz m1 c1 u1 hi h1 h2
    refine ⟨m2, c2, u2, g1, g2, Nat.le_trans h3 g3, fun e => ?_⟩
    rw [g4 (by omega), h4 (by omega)]
theorem Keep.mono {k k' : Nat} {σ σ1 : List Ob} {μ μ1 : List Value} (h : Keep k σ μ σ1 μ1) (hk : k' ≤ k) : Keep k' σ μ σ1 μ1 :=
  ⟨fun i T cs u hi => h.box i T cs u (by omega), fun i E sz m cs u hi => h.row i E sz m cs u (by omega)⟩
theorem Keep.any {k : Nat} {σ σ1 : List Ob} {μ μ1 : List Value} (h : Keep σ.length σ μ σ1 μ1) : Keep k σ μ σ1 μ1 :=
  ⟨fun i T cs u _ hs => h.box i T cs u (List.getElem?_eq_some_iff.1 hs).1 hs, fun i E sz m cs u _ hs => h.row i E sz m cs u (List.getElem?_eq_some_iff.1 hs).1 hs⟩
def Mem (F : Nat → Prop) (w : World) (F' : Nat → Prop) (w' : World) : Prop := w.heap.size ≤ w'.heap.size ∧ ∀ b, b < w.heap.size → ¬ F b → w'.heap[b]? = w.heap[b]? ∧ ¬ F' b
theorem cellsAt_of_block {w w' : World} {b off : Nat} {vs : List Value} (h : w'.heap[b]? = w.heap[b]?) (hc : CellsAt w b off vs) : CellsAt w' b off vs :=
  fun j v hv => (World.cell?_of_block (w := w) (a := ⟨b, off + j, none⟩) h).trans (hc j v hv)
mutual
theorem DR.mono {F F' : Nat → Prop} {w w' : World} (hm : Mem F w F' w') : ∀ (x : D) (v : Value), DR F w x v → DR F' w' x v
  | .s u, v, h => by simpa [DR] using h
  | .l n xs, v, h => by
    simp only [DR] at h ⊢
    obtain ⟨A, cap, hv, hn, h | ⟨b, off, vs, hA, hb, hF, hc, hd⟩⟩ := h
    · exact ⟨A, cap, hv, hn, .inl h⟩
    · have := hm.2 b hb hF
      exact ⟨A, cap, hv, hn, .inr ⟨b, off, vs, hA, Nat.lt_of_lt_of_le hb hm.1, this.2, cellsAt_of_block this.1 hc, DRs.mono hm xs vs hd⟩⟩
theorem DRs.mono {F F' : Nat → Prop} {w w' : World} (hm : Mem F w F' w') : ∀ (xs : List D) (vs : List Value), DRs F w xs vs → DRs F' w' xs vs
  | [], vs, h => by simpa [DRs] using h
  | x :: xs, vs, h => by
    simp only [DRs] at h ⊢
    obtain ⟨v, us, hv, h1, h2⟩ := h
    exact ⟨v, us, hv, DR.mono hm x v h1, DRs.mono hm xs us h2⟩
end
mutual
theorem VR.mono {F F' : Nat → Prop} {σ σ' : List Ob} {μ μ' : List Value} {w w' : World} (hm : Mem F w F' w') (hl : μ.length = σ.length) (hk : Keep σ.length σ μ σ' μ') :
    ∀ (x : V) (v : Value), VR F σ μ w x v → VR F' σ' μ' w' x v
  | .d x, v, h => by simp only [VR] at h ⊢; exact DR.mono hm x v h
  | .a xs, v, h => by
    simp only [VR] at h ⊢
    obtain ⟨cs, hv, h⟩ := h
    exact ⟨cs, hv, VRs.mono hm hl hk xs _ h⟩
  | .t xs, v, h => by
    simp only [VR] at h ⊢
    obtain ⟨cs, hv, h⟩ := h
    exact ⟨cs, hv, VRs.mono hm hl hk xs _ h⟩
  | .p i off, v, h => by
    simp only [VR] at h ⊢
    obtain ⟨b, T, cs, h1, h2, h3⟩ := h
    have hi : i < σ.length := (List.getElem?_eq_some_iff.1 h1).1
    obtain ⟨⟨cs', g1⟩, g2⟩ := hk.box i T cs _ hi h1 h2
    exact ⟨b, T, cs', g1, g2, h3⟩
  | .b i off n, v, h => by
    simp only [VR] at h ⊢
    obtain ⟨b, T, cs, h1, h2, h3⟩ := h
    have hi : i < σ.length := (List.getElem?_eq_some_iff.1 h1).1
    obtain ⟨⟨cs', g1⟩, g2⟩ := hk.box i T cs _ hi h1 h2
    exact ⟨b, T, cs', g1, g2, h3⟩
  | .g i n, v, h => by
    simp only [VR] at h ⊢
    obtain ⟨b, T, cs, h1, h2, h3⟩ := h
    have hi : i < σ.length := (List.getElem?_eq_some_iff.1 h1).1
    obtain ⟨⟨cs', g1⟩, g2⟩ := hk.box i T cs _ hi h1 h2
    exact ⟨b, T, cs', g1, g2, h3⟩
  | .c xs, v, h => by
    simp only [VR] at h ⊢
    obtain ⟨b, off, vs, hv, hb, hF, hc, hd⟩ := h
    have := hm.2 b hb hF
    exact ⟨b, off, vs, hv, Nat.lt_of_lt_of_le hb hm.1, this.2, cellsAt_of_block this.1 hc, DRs.mono hm xs vs hd⟩
  | .o i n, v, h => by
    simp only [VR] at h ⊢
    obtain ⟨E, sz, m, cs, u, A, cap, h1, h2, h0, h3, h4⟩ := h
    have hi : i < σ.length := (List.getElem?_eq_some_iff.1 h1).1
    obtain ⟨m', cs', u', g1, g2, g3, g4⟩ := hk.row i E sz m cs u hi h1 h2
    refine ⟨E, sz, m', cs', u', A, cap, g1, g2, h0, Nat.le_trans h3 g3, fun e => ?_⟩
    rw [g4 (by omega)]
    exact h4 (by omega)
  | .e i n off, v, h => by
    simp only [VR] at h ⊢
    obtain ⟨E, sz, m, cs, u, b, h1, h2, h0, h3, h4⟩ := h
    have hi : i < σ.length := (List.getElem?_eq_some_iff.1 h1).1
    obtain ⟨m', cs', u', g1, g2, g3, g4⟩ := hk.row i E sz m cs u hi h1 h2
    refine ⟨E, sz, m', cs', u', b, g1, g2, h0, Nat.le_trans h3 g3, fun e => ?_⟩
    rw [g4 (by omega)]
    exact h4 (by omega)
  | .f fn fi ca, v, h => by
    simp only [VR] at h ⊢
    obtain ⟨x, y, hv, h1, h2⟩ := h
    exact ⟨x, y, hv, VRs.mono hm hl hk fi _ h1, VRs.mono hm hl hk ca _ h2⟩
  | .u, v, h => by simp [VR]
theorem VRs.mono {F F' : Nat → Prop} {σ σ' : List Ob} {μ μ' : List Value} {w w' : World} (hm : Mem F w F' w') (hl : μ.length = σ.length) (hk : Keep σ.length σ μ σ' μ') :
    ∀ (xs : List V) (vs : List Value), VRs F σ μ w xs vs → VRs F' σ' μ' w' xs vs
  | [], vs, h => by simpa [VRs] using h
  | x :: xs, vs, h => by
    simp only [VRs] at h ⊢
    obtain ⟨v, us, hv, h1, h2⟩ := h
    exact ⟨v, us, hv, VR.mono hm hl hk x v h1, VRs.mono hm hl hk xs us h2⟩
end
structure Stp (k B : Nat) (F : Nat → Prop) (σ : List Ob) (μ : List Value) (w : World) (F' : Nat → Prop) (σ' : List Ob) (μ' : List Value) (w' : World) : Prop where
  os : w'.os = w.os
  tape : w'.tape = w.tape
  output : w'.output = w.output
  size : w.heap.size ≤ w'.heap.size
  mem : ∀ b, b < w.heap.size → ¬ Live σ μ b → w'.heap[b]? = w.heap[b]?
  fnew : ∀ b, F' b → F b ∨ w.heap.size ≤ b
  fold : ∀ b, b < B → F b → F' b
  live : ∀ b, Live σ' μ' b → Live σ μ b ∨ w.heap.size ≤ b
  keep : Keep k σ μ σ' μ'
  rows : ∀ (i E sz m : Nat) (cs : List D) (h : Value) (E' sz' m' : Nat) (cs' : List D) (h' : Value), i < k → σ[i]? = some (.row E sz m cs) → μ[i]? = some h → σ'[i]? = some (.row E' sz' m' cs') → μ'[i]? = some h' →
    ∀ b, h'.ownBlock = some b → h.ownBlock = some b ∨ w.heap.size ≤ b
theorem Stp.refl (k B : Nat) (F : Nat → Prop) (σ : List Ob) (μ : List Value) (w : World) : Stp k B F σ μ w F σ μ w :=
  ⟨rfl, rfl, rfl, Nat.le_refl _, fun _ _ _ => rfl, fun _ h => .inl h, fun _ _ h => h, fun _ h => .inl h, Keep.refl _ _ _, fun _ _ _ _ _ _ _ _ _ _ _ _ _ h1 _ h2 b hb => by
    rw [h1] at h2; obtain rfl := Option.some.inj h2; exact .inl hb⟩
theorem Stp.trans {k B : Nat} {F F1 F2 : Nat → Prop} {σ σ1 σ2 : List Ob} {μ μ1 μ2 : List Value} {w w1 w2 : World} (h : Stp k B F σ μ w F1 σ1 μ1 w1) (g : Stp k B F1 σ1 μ1 w1 F2 σ2 μ2 w2) :
    Stp k B F σ μ w F2 σ2 μ2 w2 := by
  refine ⟨g.os.trans h.os, g.tape.trans h.tape, g.output.trans h.output, Nat.le_trans h.size g.size, fun b hb hl => ?_, fun b hb => ?_, fun b hb hf => g.fold b hb (h.fold b hb hf), fun b hb => ?_, h.keep.trans g.keep, fun i E sz m cs u E' sz' m' cs' u' hi a1 a2 a3 a4 b hb => ?_⟩
  · rw [g.mem b (Nat.lt_of_lt_of_le hb h.size) ?_, h.mem b hb hl]
    intro h1
    rcases h.live b h1 with h2 | h2
    · exact hl h2
    · omega
  · rcases g.fnew b hb with h1 | h1
    · exact h.fnew b h1
    · exact .inr (Nat.le_trans h.size h1)
  · rcases g.live b hb with h1 | h1
    · exact h.live b h1
    · exact .inr (Nat.le_trans h.size h1)
  · obtain ⟨m1, c1, u1, h1, h2, _⟩ := h.keep.row i E sz m cs u hi a1 a2
    rcases g.rows i E sz m1 c1 u1 E' sz' m' cs' u' hi h1 h2 a3 a4 b hb with e | e
    · exact h.rows i E sz m cs u E sz m1 c1 u1 hi a1 a2 h1 h2 b e
    · exact .inr (Nat.le_trans h.size e)
theorem St.live_F {k B : Nat} {F : Nat → Prop} {σ : List Ob} {μ : List Value} {w : World} (h : St k B F σ μ w) {b : Nat} (hl : Live σ μ b) : F b := by
  obtain ⟨i, ob, u, h1, h2, h3⟩ := hl
  have := h.obj i ob u h1 h2
  cases ob with
  | box T cs =>
    obtain ⟨b', arr, rfl, _, _, hF, _⟩ := this
    simp [blk] at h3
    subst h3
    exact hF
  | row E sz n cs =>
    obtain ⟨vs, hown, _, hF⟩ := this
    rcases hown.2 with ⟨rfl, _⟩ | ⟨g, cap, cur, rfl, _⟩
    · simp [blk] at h3
    · simp [blk] at h3
      subst h3
      exact hF g rfl
theorem Stp.memF {k B : Nat} {F F' : Nat → Prop} {σ σ' : List Ob} {μ μ' : List Value} {w w' : World} (st : St k B F σ μ w) (h : Stp k B F σ μ w F' σ' μ' w') : Mem F w F' w' :=
  ⟨h.size, fun b hb hF => ⟨h.mem b hb (fun hl => hF (st.live_F hl)), fun hF' => by
    rcases h.fnew b hF' with h1 | h1
    · exact hF h1
    · omega⟩⟩
end Go.AW
namespace Go.AW
open Go
abbrev Tm := List (Nat × V)
def look : Tm → Nat → V
  | [], _ => .u
  | (n, x) :: T, t => if t = n then x else look T t
def TR (N : Nat) (F : Nat → Prop) (σ : List Ob) (μ : List Value) (w : World) (T : Tm) (tm : Array Value) : Prop :=
  N ≤ tm.size ∧ ∀ t, VR F σ μ w (look T t) (tm.getD t undef)
abbrev cvd (v : Value) : D := .s v
def cv : Value → V
  | .agg cs => .a (cs.toList.map fun v => .d (cvd v))
  | .tuple cs => .t (cs.toList.map fun v => .d (cvd v))
  | v => .d (cvd v)
def ev (T : Tm) : Operand → V
  | .tmp t => look T t
  | .const v => cv v
  | .func f => .f (.func f) [] []
  | .global _ => .u
def put (T : Tm) (dst : Option Tmp) (x : V) : Tm :=
  match dst with
  | some t => (t, x) :: T
  | none => T
section
variable {F : Nat → Prop} {σ : List Ob} {μ : List Value} {w : World}
theorem cvd_ok (v : Value) : DR F w (cvd v) v := rfl
theorem cvs_ok : ∀ l : List Value, VRs F σ μ w (l.map fun v => .d (cvd v)) l
  | [] => by simp [VRs]
  | v :: l => ⟨v, l, rfl, @cvd_ok F w v, cvs_ok l⟩
theorem cv_ok (v : Value) : VR F σ μ w (cv v) v := by
  unfold cv
  split
  · exact ⟨_, rfl, cvs_ok _⟩
  · exact ⟨_, rfl, cvs_ok _⟩
  · exact @cvd_ok F w v
theorem ev_ok {N : Nat} {T : Tm} {a : Act} (h : TR N F σ μ w T a.tmps) (x : Operand) : VR F σ μ w (ev T x) (a.eval x) := by
  cases x with
  | tmp t => exact h.2 t
  | const v => exact cv_ok v
  | func f => exact ⟨#[], #[], rfl, by simp [VRs], by simp [VRs]⟩
  | global g => trivial
theorem evs_ok {N : Nat} {T : Tm} {a : Act} (h : TR N F σ μ w T a.tmps) : ∀ l : List Operand, VRs F σ μ w (l.map (ev T)) (l.map a.eval)
  | [] => by simp [VRs]
  | x :: l => ⟨_, _, rfl, ev_ok h x, evs_ok h l⟩
theorem TR.mono {F' : Nat → Prop} {σ' : List Ob} {μ' : List Value} {w' : World} {N : Nat} {T : Tm} {tm : Array Value} (h : TR N F σ μ w T tm)
    (hm : Mem F w F' w') (hl : μ.length = σ.length) (hk : Keep σ.length σ μ σ' μ') : TR N F' σ' μ' w' T tm :=
  ⟨h.1, fun t => VR.mono hm hl hk _ _ (h.2 t)⟩
def dstOk (N : Nat) : Option Tmp → Bool
  | some t => decide (t < N)
  | none => true
theorem TR.put {N : Nat} {T : Tm} {a : Act} {dst : Option Tmp} {x : V} {v : Value} (h : TR N F σ μ w T a.tmps) (hd : dstOk N dst = true) (hv : VR F σ μ w x v) :
    TR N F σ μ w (put T dst x) (a.put dst v).tmps := by
  cases dst with
  | none => exact h
  | some t =>
    have ht : t < N := by simpa [dstOk] using hd
    have hs : t < a.tmps.size := Nat.lt_of_lt_of_le ht h.1
    refine ⟨by simpa [Act.put] using h.1, fun j => ?_⟩
    simp only [AW.put, look, Act.put]
    by_cases e : j = t
    · subst e
      simp [hs, hv]
    · rw [if_neg e]
      have : (a.tmps.setIfInBounds t v).getD j undef = a.tmps.getD j undef := by
        simp [Array.getD_eq_getD_getElem?, Array.getElem?_setIfInBounds_ne (Ne.symm e)]
      rw [this]
      exact h.2 j
theorem TR.sub {N : Nat} {T T' : Tm} {tm : Array Value} (h : TR N F σ μ w T tm) (hs : ∀ t, look T' t = .u ∨ look T' t = look T t) : TR N F σ μ w T' tm :=
  ⟨h.1, fun t => by
    rcases hs t with e | e
    · rw [e]; trivial
    · rw [e]; exact h.2 t⟩
end
def Lift (k B : Nat) (F : Nat → Prop) (σ : List Ob) (μ : List Value) (w : World) (Q : V → List Ob → Prop) (v : Value) (w' : World) : Prop :=
  ∃ x F' σ' μ', Q x σ' ∧ Stp k B F σ μ w F' σ' μ' w' ∧ St k B F' σ' μ' w' ∧ Keep σ.length σ μ σ' μ' ∧ VR F' σ' μ' w' x v ∧ ∀ b, F b → F' b
def AOp (P : Program) (N k : Nat) (o : Oper) (T : Tm) (σ : List Ob) (Q : V → List Ob → Prop) : Prop :=
  ∀ B F μ w (a : Act), St k B F σ μ w → TR N F σ μ w T a.tmps → ∀ (next : Act → World → Prop) (X : Exit → Act → World → Prop),
    (∀ v w', Lift k B F σ μ w Q v w' → next (a.put o.dst v) w') → o.wp P a w next X
section
variable {P : Program} {N k : Nat} {o : Oper} {T : Tm} {σ : List Ob} {Q : V → List Ob → Prop}
theorem AOp.mono {Q' : V → List Ob → Prop} (h : AOp P N k o T σ Q) (hq : ∀ x σ', Q x σ' → Q' x σ') : AOp P N k o T σ Q' :=
  fun B F μ w a st tr next X hn => h B F μ w a st tr next X fun v w' ⟨x, F', σ', μ', q, r⟩ => hn v w' ⟨x, F', σ', μ', hq _ _ q, r⟩
theorem Lift.here {B : Nat} {F : Nat → Prop} {μ : List Value} {w : World} {x : V} {v : Value} (st : St k B F σ μ w) (hq : Q x σ) (hv : VR F σ μ w x v) : Lift k B F σ μ w Q v w :=
  ⟨x, F, σ, μ, hq, Stp.refl _ _ _ _ _ _, st, Keep.refl _ _ _, hv, fun _ h => h⟩
theorem AOp.pure (x : V) (hq : Q x σ) (h : ∀ F μ w (a : Act), TR N F σ μ w T a.tmps → ∃ v, (execOp a.eval o).run P w = .ok (.value v) w ∧ VR F σ μ w x v) : AOp P N k o T σ Q := by
  intro B F μ w a st tr next X hn
  obtain ⟨v, hr, hv⟩ := h F μ w a tr
  unfold Oper.wp
  rw [hr]
  exact hn v w (Lift.here st hq hv)
end
end Go.AW
namespace Go.AW
open Go
theorem row_of_block {w w' : World} {base e size : Nat} {v : Value} {n : Nat} {xs : List Value} (h : w.ownsRow base e size v n xs)
    (hb : ∀ b, v.ownBlock = some b → w'.heap[b]? = w.heap[b]?) : w'.ownsRow base e size v n xs := by
  refine ⟨h.1, ?_⟩
  rcases h.2 with h2 | ⟨g, cap, cur, hv, hg, hh, r⟩
  · exact .inl h2
  · exact .inr ⟨g, cap, cur, hv, hg, (hb g (by rw [hv]; rfl)).trans hh, r⟩
theorem blk_row {E sz n : Nat} {cs : List D} (v : Value) (h : ∀ a, v ≠ .pointer a) : blk (.row E sz n cs) v = v.ownBlock := by
  cases v with
  | pointer a => exact absurd rfl (h a)
  | slice a _ _ => cases a <;> rfl
  | _ => rfl
theorem row_no_ptr {w : World} {base e size : Nat} {v : Value} {n : Nat} {xs : List Value} (h : w.ownsRow base e size v n xs) (a : Option Addr) : v ≠ .pointer a := by
  rcases h.2 with ⟨rfl, _⟩ | ⟨g, cap, cur, rfl, _⟩ <;> simp
section
variable {k B : Nat} {F F' : Nat → Prop} {σ σ' : List Ob} {μ μ' : List Value} {w w' : World}
theorem ObOk.mono {i : Nat} {ob : Ob} {h : Value} (hm : Mem F w F' w') (hl : μ.length = σ.length) (hk : Keep σ.length σ μ σ' μ')
    (hb : ∀ b, blk ob h = some b → w'.heap[b]? = w.heap[b]? ∧ (F b → F' b)) (ho : ObOk k B F σ μ w i ob h) : ObOk k B F' σ' μ' w' i ob h := by
  cases ob with
  | box T cs =>
    obtain ⟨b, arr, rfl, h1, h2, h3, h4⟩ := ho
    have := hb b rfl
    exact ⟨b, arr, rfl, this.1.trans h1, h2.imp fun _ => VRs.mono hm hl hk _ _, this.2 h3, h4⟩
  | row E sz n cs =>
    obtain ⟨vs, h1, h2, h3⟩ := ho
    have hb' : ∀ b, h.ownBlock = some b → w'.heap[b]? = w.heap[b]? ∧ (F b → F' b) := fun b e => hb b ((blk_row h (row_no_ptr h1)).trans e)
    exact ⟨vs, row_of_block h1 fun b e => (hb' b e).1, DRs.mono hm _ _ h2, fun b e => (hb' b e).2 (h3 b e)⟩
theorem St.none_high (st : St k B F σ μ w) {i : Nat} {ob : Ob} {h : Value} {b : Nat} (h1 : σ[i]? = some ob) (h2 : μ[i]? = some h) (h3 : blk ob h = some b) : b < w.heap.size :=
  st.lt b (st.live_F ⟨i, ob, h, h1, h2, h3⟩)
theorem St.same (st : St k B F σ μ w) (hh : w'.heap = w.heap) : St k B F σ μ w' := by
  have hm : Mem F w F w' := ⟨by rw [hh]; exact Nat.le_refl _, fun b _ hf => ⟨by rw [hh], hf⟩⟩
  refine ⟨st.len, fun i ob h h1 h2 => ?_, st.sep, fun b hb => by rw [hh]; exact st.lt b hb, by rw [hh]; exact st.base⟩
  exact ObOk.mono hm st.len (Keep.refl _ _ _) (fun b _ => ⟨by rw [hh], fun hf => hf⟩) (st.obj i ob h h1 h2)
theorem Stp.same (hh : w'.heap = w.heap) (h1 : w'.os = w.os) (h2 : w'.tape = w.tape) (h3 : w'.output = w.output) : Stp k B F σ μ w F σ μ w' :=
  ⟨h1, h2, h3, by rw [hh]; exact Nat.le_refl _, fun b _ _ => by rw [hh], fun _ h => .inl h, fun _ _ h => h, fun _ h => .inl h, Keep.refl _ _ _, fun _ _ _ _ _ _ _ _ _ _ _ _ _ h1 _ h2 b hb => by
    rw [h1] at h2; obtain rfl := Option.some.inj h2; exact .inl hb⟩
theorem St.set (st : St k B F σ μ w) {i : Nat} {ob ob' : Ob} {h h' : Value} (hi : σ[i]? = some ob) (hh : μ[i]? = some h)
    (hos : w'.os = w.os) (htape : w'.tape = w.tape) (hout : w'.output = w.output) (hsize : w.heap.size ≤ w'.heap.size)
    (hmem : ∀ b, b < w.heap.size → blk ob h ≠ some b → w'.heap[b]? = w.heap[b]?)
    (hF : ∀ b, F b → F' b) (hF' : ∀ b, F' b → F b ∨ (w.heap.size ≤ b ∧ b < w'.heap.size))
    (hblk : ∀ b, blk ob' h' = some b → blk ob h = some b ∨ w.heap.size ≤ b)
    (hkeep : Keep σ.length σ μ (σ.set i ob') (μ.set i h'))
    (hob : ObOk k B F' (σ.set i ob') (μ.set i h') w' i ob' h') :
    St k B F' (σ.set i ob') (μ.set i h') w' ∧ Stp k B F σ μ w F' (σ.set i ob') (μ.set i h') w' ∧ Keep σ.length σ μ (σ.set i ob') (μ.set i h') ∧ Mem F w F' w' := by
  have hil : i < σ.length := (List.getElem?_eq_some_iff.1 hi).1
  have hjl : i < μ.length := by rw [st.len]; exact hil
  have si : (σ.set i ob')[i]? = some ob' := by simp [hil]
  have mi : (μ.set i h')[i]? = some h' := by simp [hjl]
  have sj : ∀ j, j ≠ i → (σ.set i ob')[j]? = σ[j]? := fun j e => by rw [List.getElem?_set_ne (Ne.symm e)]
  have mj : ∀ j, j ≠ i → (μ.set i h')[j]? = μ[j]? := fun j e => by rw [List.getElem?_set_ne (Ne.symm e)]
  have hm : Mem F w F' w' := ⟨hsize, fun b hb hf => ⟨hmem b hb fun e => hf (st.live_F ⟨i, ob, h, hi, hh, e⟩), fun hf' => by
    rcases hF' b hf' with h1 | h1
    · exact hf h1
    · omega⟩⟩
  have live : ∀ b, Live (σ.set i ob') (μ.set i h') b → Live σ μ b ∨ w.heap.size ≤ b := by
    rintro b ⟨j, ob1, h1, e1, e2, e3⟩
    by_cases e : j = i
    · subst e
      rw [si] at e1
      rw [mi] at e2
      obtain rfl := Option.some.inj e1
      obtain rfl := Option.some.inj e2
      rcases hblk b e3 with g | g
      · exact .inl ⟨j, ob, h, hi, hh, g⟩
      · exact .inr g
    · rw [sj j e] at e1
      rw [mj j e] at e2
      exact .inl ⟨j, ob1, h1, e1, e2, e3⟩
  have rows : ∀ (j E sz m : Nat) (cs : List D) (u : Value) (E' sz' m' : Nat) (cs' : List D) (u' : Value), j < k → σ[j]? = some (.row E sz m cs) → μ[j]? = some u → (σ.set i ob')[j]? = some (.row E' sz' m' cs') → (μ.set i h')[j]? = some u' →
      ∀ b, u'.ownBlock = some b → u.ownBlock = some b ∨ w.heap.size ≤ b := by
    intro j E sz m cs u E' sz' m' cs' u' _ a1 a2 a3 a4 b hb
    by_cases e : j = i
    · subst e
      rw [si] at a3
      rw [mi] at a4
      rw [hi] at a1
      rw [hh] at a2
      obtain rfl := Option.some.inj a3
      obtain rfl := Option.some.inj a4
      obtain rfl := Option.some.inj a1
      obtain rfl := Option.some.inj a2
      obtain ⟨vs, ho, _, _⟩ := st.obj j _ _ hi hh
      obtain ⟨vs', ho', _, _⟩ := hob
      have := hblk b (by rw [blk_row _ (row_no_ptr ho')]; exact hb)
      rw [blk_row _ (row_no_ptr ho)] at this
      exact this
    · rw [mj j e] at a4
      rw [a2] at a4
      obtain rfl := Option.some.inj a4
      exact .inl hb
  refine ⟨⟨by simp [st.len], fun j ob1 h1 e1 e2 => ?_, fun j l ob1 h1 ob2 h2 b e1 e2 e3 e4 e5 e6 => ?_, fun b hb => ?_, Nat.le_trans st.base hsize⟩,
    ⟨hos, htape, hout, hsize, fun b hb hl => hmem b hb fun e => hl ⟨i, ob, h, hi, hh, e⟩, fun b hb => (hF' b hb).imp id (·.1), fun b _ hf => hF b hf, live, hkeep.any, rows⟩, hkeep, hm⟩
  · by_cases e : j = i
    · subst e
      rw [si] at e1
      rw [mi] at e2
      obtain rfl := Option.some.inj e1
      obtain rfl := Option.some.inj e2
      exact hob
    · rw [sj j e] at e1
      rw [mj j e] at e2
      refine ObOk.mono hm st.len hkeep (fun b hb => ⟨hmem b (st.none_high e1 e2 hb) fun e3 => e (st.sep j i ob1 h1 ob h b e1 e2 hi hh hb e3), hF b⟩) (st.obj j ob1 h1 e1 e2)
  · have key : ∀ j ob1 h1, j ≠ i → σ[j]? = some ob1 → μ[j]? = some h1 → blk ob1 h1 = some b → blk ob' h' = some b → False := by
      intro j ob1 h1 e e1 e2 e3 e4
      rcases hblk b e4 with g | g
      · exact e (st.sep j i ob1 h1 ob h b e1 e2 hi hh e3 g)
      · have := st.none_high e1 e2 e3
        omega
    by_cases ej : j = i
    · by_cases el : l = i
      · rw [ej, el]
      · subst ej
        rw [si] at e1; rw [mi] at e2; rw [sj l el] at e3; rw [mj l el] at e4
        obtain rfl := Option.some.inj e1
        obtain rfl := Option.some.inj e2
        exact (key l ob2 h2 el e3 e4 e6 e5).elim
    · by_cases el : l = i
      · subst el
        rw [si] at e3; rw [mi] at e4; rw [sj j ej] at e1; rw [mj j ej] at e2
        obtain rfl := Option.some.inj e3
        obtain rfl := Option.some.inj e4
        exact (key j ob1 h1 ej e1 e2 e5 e6).elim
      · rw [sj j ej] at e1; rw [mj j ej] at e2; rw [sj l el] at e3; rw [mj l el] at e4
        exact st.sep j l ob1 h1 ob2 h2 b e1 e2 e3 e4 e5 e6
  · rcases hF' b hb with h1 | h1
    · exact Nat.lt_of_lt_of_le (st.lt b h1) hsize
    · exact h1.2
theorem St.push (st : St k B F σ μ w) {ob' : Ob} {h' : Value}
    (hos : w'.os = w.os) (htape : w'.tape = w.tape) (hout : w'.output = w.output) (hsize : w.heap.size ≤ w'.heap.size)
    (hmem : ∀ b, b < w.heap.size → w'.heap[b]? = w.heap[b]?)
    (hF : ∀ b, F b → F' b) (hF' : ∀ b, F' b → F b ∨ (w.heap.size ≤ b ∧ b < w'.heap.size))
    (hblk : ∀ b, blk ob' h' = some b → w.heap.size ≤ b)
    (hob : ObOk k B F' (σ ++ [ob']) (μ ++ [h']) w' σ.length ob' h') :
    St k B F' (σ ++ [ob']) (μ ++ [h']) w' ∧ Stp k B F σ μ w F' (σ ++ [ob']) (μ ++ [h']) w' ∧ Keep σ.length σ μ (σ ++ [ob']) (μ ++ [h']) ∧ Mem F w F' w' := by
  have sl : (σ ++ [ob'])[σ.length]? = some ob' := by simp
  have ml : (μ ++ [h'])[σ.length]? = some h' := by rw [← st.len]; simp
  have sj : ∀ j, j < σ.length → (σ ++ [ob'])[j]? = σ[j]? := fun j e => List.getElem?_append_left e
  have mj : ∀ j, j < σ.length → (μ ++ [h'])[j]? = μ[j]? := fun j e => List.getElem?_append_left (by rw [st.len]; exact e)
  have hlt : ∀ j (x : Ob), (σ ++ [ob'])[j]? = some x → j < σ.length ∨ j = σ.length := fun j x e => by
    have := (List.getElem?_eq_some_iff.1 e).1
    simp at this
    omega
  have hkeep : Keep σ.length σ μ (σ ++ [ob']) (μ ++ [h']) := by
    refine ⟨fun i T cs u hi e1 e2 => ⟨⟨cs, (sj i hi).trans e1⟩, (mj i hi).trans e2⟩, fun i E sz m cs u hi e1 e2 => ⟨m, cs, u, (sj i hi).trans e1, (mj i hi).trans e2, Nat.le_refl _, fun _ => rfl⟩⟩
  have hm : Mem F w F' w' := ⟨hsize, fun b hb hf => ⟨hmem b hb, fun hf' => by
    rcases hF' b hf' with h1 | h1
    · exact hf h1
    · omega⟩⟩
  refine ⟨⟨by simp [st.len], fun j ob1 h1 e1 e2 => ?_, fun j l ob1 h1 ob2 h2 b e1 e2 e3 e4 e5 e6 => ?_, fun b hb => ?_, Nat.le_trans st.base hsize⟩,
    ⟨hos, htape, hout, hsize, fun b hb _ => hmem b hb, fun b hb => (hF' b hb).imp id (·.1), fun b _ hf => hF b hf, ?_, hkeep.any, fun i E sz m cs u E' sz' m' cs' u' _ a1 a2 a3 a4 b hb => by
      have hi := (List.getElem?_eq_some_iff.1 a1).1
      rw [mj i hi, a2] at a4
      obtain rfl := Option.some.inj a4
      exact .inl hb⟩, hkeep, hm⟩
  · rcases hlt j ob1 e1 with e | e
    · rw [sj j e] at e1
      rw [mj j e] at e2
      exact ObOk.mono hm st.len hkeep (fun b hb => ⟨hmem b (st.none_high e1 e2 hb), hF b⟩) (st.obj j ob1 h1 e1 e2)
    · subst e
      rw [sl] at e1; rw [ml] at e2
      obtain rfl := Option.some.inj e1
      obtain rfl := Option.some.inj e2
      exact hob
  · rcases hlt j ob1 e1 with ej | ej <;> rcases hlt l ob2 e3 with el | el
    · rw [sj j ej] at e1; rw [mj j ej] at e2; rw [sj l el] at e3; rw [mj l el] at e4
      exact st.sep j l ob1 h1 ob2 h2 b e1 e2 e3 e4 e5 e6
    · subst el
      rw [sl] at e3; rw [ml] at e4; rw [sj j ej] at e1; rw [mj j ej] at e2
      obtain rfl := Option.some.inj e3
      obtain rfl := Option.some.inj e4
      have g1 := hblk b e6
      have g2 := st.none_high e1 e2 e5
      omega
    · subst ej
      rw [sl] at e1; rw [ml] at e2; rw [sj l el] at e3; rw [mj l el] at e4
      obtain rfl := Option.some.inj e1
      obtain rfl := Option.some.inj e2
      have g1 := hblk b e5
      have g2 := st.none_high e3 e4 e6
      omega
    · omega
  · rcases hF' b hb with h1 | h1
    · exact Nat.lt_of_lt_of_le (st.lt b h1) hsize
    · exact h1.2
  · rintro b ⟨j, ob1, h1, e1, e2, e3⟩
    rcases hlt j ob1 e1 with e | e
    · rw [sj j e] at e1
      rw [mj j e] at e2
      exact .inl ⟨j, ob1, h1, e1, e2, e3⟩
    · subst e
      rw [sl] at e1; rw [ml] at e2
      obtain rfl := Option.some.inj e1
      obtain rfl := Option.some.inj e2
      exact .inr (hblk b e3)
theorem heap_setCell_at {w : World} {b off : Nat} {arr : Array Value} {T : TypeId} (h : w.heap[b]? = some (.cells arr T (0, 0))) (v : Value) :
    (w.setCell ⟨b, off, none⟩ v).heap[b]? = some (.cells (arr.setIfInBounds off v) T (0, 0)) := by
  simp [World.setCell, Array.getElem?_modify, h]
theorem VRs.length {F : Nat → Prop} {σ : List Ob} {μ : List Value} {w : World} : ∀ {xs : List V} {vs : List Value}, VRs F σ μ w xs vs → vs.length = xs.length
  | [], vs, h => by simp only [VRs] at h; simp [h]
  | x :: xs, vs, h => by
    simp only [VRs] at h
    obtain ⟨v, us, rfl, _, h2⟩ := h
    simp [VRs.length h2]
theorem VRs.get {F : Nat → Prop} {σ : List Ob} {μ : List Value} {w : World} : ∀ {xs : List V} {vs : List Value}, VRs F σ μ w xs vs → ∀ (i : Nat) (x : V), xs[i]? = some x → ∃ v, vs[i]? = some v ∧ VR F σ μ w x v
  | [], vs, h, i, x, hx => by simp at hx
  | y :: xs, vs, h, i, x, hx => by
    simp only [VRs] at h
    obtain ⟨v, us, rfl, h1, h2⟩ := h
    cases i with
    | zero => simp at hx; subst hx; exact ⟨v, rfl, h1⟩
    | succ i => simpa using VRs.get h2 i x (by simpa using hx)
theorem VRs.set {F : Nat → Prop} {σ : List Ob} {μ : List Value} {w : World} : ∀ {xs : List V} {vs : List Value}, VRs F σ μ w xs vs → ∀ (i : Nat) (x : V) (v : Value), VR F σ μ w x v → VRs F σ μ w (xs.set i x) (vs.set i v)
  | [], vs, h, i, x, v, hx => by simp only [VRs] at h; subst h; simp [VRs]
  | y :: xs, vs, h, i, x, v, hx => by
    simp only [VRs] at h
    obtain ⟨u, us, rfl, h1, h2⟩ := h
    cases i with
    | zero => exact ⟨v, us, rfl, hx, h2⟩
    | succ i => exact ⟨u, us.set i v, rfl, h1, VRs.set h2 i x v hx⟩
theorem VRs.drop {F : Nat → Prop} {σ : List Ob} {μ : List Value} {w : World} : ∀ {xs : List V} {vs : List Value}, VRs F σ μ w xs vs → ∀ n, VRs F σ μ w (xs.drop n) (vs.drop n)
  | [], vs, h, n => by simp only [VRs] at h; subst h; simp [VRs]
  | y :: xs, vs, h, n => by
    cases n with
    | zero => exact h
    | succ n =>
      simp only [VRs] at h
      obtain ⟨u, us, rfl, h1, h2⟩ := h
      simpa using VRs.drop h2 n
theorem VRs.take {F : Nat → Prop} {σ : List Ob} {μ : List Value} {w : World} : ∀ {xs : List V} {vs : List Value}, VRs F σ μ w xs vs → ∀ n, VRs F σ μ w (xs.take n) (vs.take n)
  | [], vs, h, n => by simp only [VRs] at h; subst h; simp [VRs]
  | y :: xs, vs, h, n => by
    cases n with
    | zero => simp [VRs]
    | succ n =>
      simp only [VRs] at h
      obtain ⟨u, us, rfl, h1, h2⟩ := h
      exact ⟨u, us.take n, by simp, h1, VRs.take h2 n⟩
theorem VRs.append {F : Nat → Prop} {σ : List Ob} {μ : List Value} {w : World} : ∀ {xs : List V} {vs : List Value} {ys : List V} {us : List Value}, VRs F σ μ w xs vs → VRs F σ μ w ys us → VRs F σ μ w (xs ++ ys) (vs ++ us)
  | [], vs, ys, us, h, g => by simp only [VRs] at h; subst h; simpa using g
  | y :: xs, vs, ys, us, h, g => by
    simp only [VRs] at h
    obtain ⟨v, vs', rfl, h1, h2⟩ := h
    exact ⟨v, vs' ++ us, rfl, h1, VRs.append h2 g⟩
theorem DRs.length {F : Nat → Prop} {w : World} : ∀ {xs : List D} {vs : List Value}, DRs F w xs vs → vs.length = xs.length
  | [], vs, h => by simp only [DRs] at h; simp [h]
  | x :: xs, vs, h => by
    simp only [DRs] at h
    obtain ⟨v, us, rfl, _, h2⟩ := h
    simp [DRs.length h2]
theorem DRs.drop {F : Nat → Prop} {w : World} : ∀ {xs : List D} {vs : List Value}, DRs F w xs vs → ∀ n, DRs F w (xs.drop n) (vs.drop n)
  | [], vs, h, n => by simp only [DRs] at h; subst h; simp [DRs]
  | y :: xs, vs, h, n => by
    cases n with
    | zero => exact h
    | succ n =>
      simp only [DRs] at h
      obtain ⟨u, us, rfl, h1, h2⟩ := h
      simpa using DRs.drop h2 n
theorem DRs.take {F : Nat → Prop} {w : World} : ∀ {xs : List D} {vs : List Value}, DRs F w xs vs → ∀ n, DRs F w (xs.take n) (vs.take n)
  | [], vs, h, n => by simp only [DRs] at h; subst h; simp [DRs]
  | y :: xs, vs, h, n => by
    cases n with
    | zero => simp [DRs]
    | succ n =>
      simp only [DRs] at h
      obtain ⟨u, us, rfl, h1, h2⟩ := h
      exact ⟨u, us.take n, by simp, h1, DRs.take h2 n⟩
theorem DRs.append {F : Nat → Prop} {w : World} : ∀ {xs : List D} {vs : List Value} {ys : List D} {us : List Value}, DRs F w xs vs → DRs F w ys us → DRs F w (xs ++ ys) (vs ++ us)
  | [], vs, ys, us, h, g => by simp only [DRs] at h; subst h; simpa using g
  | y :: xs, vs, ys, us, h, g => by
    simp only [DRs] at h
    obtain ⟨v, vs', rfl, h1, h2⟩ := h
    exact ⟨v, vs' ++ us, rfl, h1, DRs.append h2 g⟩
theorem DRs.toV {F : Nat → Prop} {σ : List Ob} {μ : List Value} {w : World} : ∀ {xs : List D} {vs : List Value}, DRs F w xs vs → VRs F σ μ w (xs.map .d) vs
  | [], vs, h => by simp only [DRs] at h; subst h; simp [VRs]
  | y :: xs, vs, h => by
    simp only [DRs] at h
    obtain ⟨u, us, rfl, h1, h2⟩ := h
    exact ⟨u, us, rfl, h1, DRs.toV h2⟩
end
end Go.AW
namespace Go.AW
open Go
abbrev bs (l : List UInt8) : ByteArray := ⟨l.toArray⟩
def shp (P : Program) (t : TypeId) : Option (Option Nat) :=
  match P.underlying t, P.info? t with
  | some d, some i => if d.isRow then some (some i.size) else if i.size = 1 then some none else none
  | _, _ => none
def V.one : V → Bool
  | .d (.s v) => v.oneCell'
  | .d (.l _ _) => true
  | .p _ _ => true
  | .c _ => true
  | .o _ _ => true
  | .e _ _ _ => true
  | .b _ _ _ => true
  | .g _ _ => true
  | .f _ _ _ => true
  | _ => false
def setAt {α : Type} : List α → Nat → List α → List α
  | cs, _, [] => cs
  | cs, off, y :: ys => setAt (cs.set off y) (off + 1) ys
def flat : V → List V
  | .a ys => ys
  | x => [x]
def rdV (P : Program) (t : TypeId) (cs : List V) : Option V :=
  match shp P t with
  | some (some sz) => if (cs.take sz).length = sz then some (.a (cs.take sz)) else none
  | some none => cs.head?
  | none => none
def rdD (P : Program) (t : TypeId) (xs : List D) : Option V :=
  match shp P t with
  | some (some sz) => if (xs.take sz).length = sz then some (.a ((xs.take sz).map .d)) else none
  | some none => xs.head?.map .d
  | none => none
def rdx (P : Program) (t : TypeId) (σ : List Ob) : V → Option V
  | .p i off => match σ[i]? with | some (.box _ cs) => rdV P t (cs.drop off) | _ => none
  | .e i n off => match σ[i]? with | some (.row _ _ m cs) => if n = m then rdD P t (cs.drop off) else none | _ => none
  | .c xs => rdD P t xs
  | _ => none
section
variable {P : Program} {F : Nat → Prop} {σ : List Ob} {μ : List Value} {w : World}
theorem shp_row {t sz : Nat} (h : shp P t = some (some sz)) : ∃ d, P.underlying t = some d ∧ d.isRow = true ∧ (P.info? t).map (·.size) = some sz := by
  unfold shp at h
  split at h
  · rename_i d i hd hi
    split at h
    · rename_i hr
      exact ⟨d, hd, hr, by simp [hi]; simpa using h⟩
    · split at h <;> simp at h
  · simp at h
theorem shp_one {t : Nat} (h : shp P t = some none) : ∃ d i, P.underlying t = some d ∧ d.isRow = false ∧ P.info? t = some i ∧ i.size = 1 := by
  unfold shp at h
  split at h
  · rename_i d i hd hi
    split at h
    · simp at h
    · rename_i hr
      split at h
      · rename_i h1
        exact ⟨d, i, hd, by simpa using hr, hi, h1⟩
      · simp at h
  · simp at h
theorem run_isAgg_one {t : Nat} {d : TypeDesc} (hu : P.underlying t = some d) (hd : d.isRow = false) : (isAgg t).run P w = .ok false w := by
  unfold isAgg
  rw [Sem.run_bind, run_underlying hu w]
  cases d <;> simp_all
theorem run_loadVar_one {t b o : Nat} {v : Value} (h : shp P t = some none) (hc : w.cell? ⟨b, o, none⟩ = some v) : (loadVar t ⟨b, o, none⟩).run P w = .ok v w := by
  obtain ⟨d, i, hu, hd, _, _⟩ := shp_one h
  simp [loadVar, Sem.run_bind, run_isAgg_one hu hd, load, Sem.run, hc]
theorem rangeAt_drop {b o : Nat} {vs : List Value} (h : w.rangeAt b o vs) (n : Nat) : w.rangeAt b (o + n) (vs.drop n) := fun j v hv => by
  rw [List.getElem?_drop] at hv
  rw [show o + n + j = o + (n + j) from by omega]
  exact h (n + j) v hv
theorem rangeAt_take {b o : Nat} {vs : List Value} (h : w.rangeAt b o vs) (n : Nat) : w.rangeAt b o (vs.take n) := fun j v hv => by
  rw [List.getElem?_take] at hv
  split at hv
  · exact h j v hv
  · simp at hv
theorem rangeAt_block {b : Nat} {arr : Array Value} {T : TypeId} {fr : Nat × Nat} (h : w.heap[b]? = some (.cells arr T fr)) : w.rangeAt b 0 arr.toList := fun j v hv => by
  rw [cell_of_row w b (0 + j) arr T fr h]
  simpa using hv
theorem run_rdV {t b o : Nat} {cs : List V} {vs : List Value} {x : V} (h : rdV P t cs = some x) (hv : VRs F σ μ w cs vs) (hr : w.rangeAt b o vs) :
    ∃ v, (loadVar t ⟨b, o, none⟩).run P w = .ok v w ∧ VR F σ μ w x v := by
  unfold rdV at h
  split at h
  · rename_i sz hs
    split at h
    · rename_i hl
      obtain rfl := Option.some.inj h
      obtain ⟨d, hu, hd, hi⟩ := shp_row hs
      have ht := VRs.take hv sz
      refine ⟨_, run_loadVar_mid w b o t (vs.take sz) d (rangeAt_take hr sz) hu hd ?_, ?_⟩
      · rw [hi, VRs.length ht, hl]
      · exact ⟨_, rfl, by simpa using ht⟩
    · simp at h
  · rename_i hs
    cases cs with
    | nil => simp at h
    | cons y ys =>
      simp at h
      subst h
      simp only [VRs] at hv
      obtain ⟨v, us, rfl, h1, _⟩ := hv
      exact ⟨v, run_loadVar_one hs (hr 0 v rfl), h1⟩
  · simp at h
theorem run_rdD {t b o : Nat} {xs : List D} {vs : List Value} {x : V} (h : rdD P t xs = some x) (hv : DRs F w xs vs) (hr : w.rangeAt b o vs) :
    ∃ v, (loadVar t ⟨b, o, none⟩).run P w = .ok v w ∧ VR F σ μ w x v := by
  refine run_rdV (cs := xs.map .d) (vs := vs) ?_ (DRs.toV hv) hr
  unfold rdD at h
  unfold rdV
  split at h
  · rename_i sz hs
    split at h
    · rename_i hl
      obtain rfl := Option.some.inj h
      have : ((xs.map V.d).take sz).length = sz := by simpa [List.length_take] using hl
      rw [if_pos this, List.map_take]
    · simp at h
  · cases xs <;> simp_all
  · simp at h
theorem row_range {base e size : Nat} {h : Value} {n : Nat} {xs : List Value} (hw : w.ownsRow base e size h n xs) {b : Nat} (hb : h.ownBlock = some b) : w.rangeAt b 0 xs := fun j v hv => by
  rcases hw.2 with ⟨rfl, _⟩ | ⟨g, cap, cur, rfl, _, hg, _, _, _, ht⟩
  · simp [Value.ownBlock] at hb
  · simp [Value.ownBlock] at hb
    subst hb
    rw [cell_of_row w g (0 + j) cur e (0, 0) hg]
    rw [← ht, List.getElem?_take] at hv
    split at hv
    · simpa using hv
    · simp at hv
theorem rangeAt_block' {b : Nat} {arr : Array Value} {T : TypeId} {fr : Nat × Nat} {l tl : List Value} (h : w.heap[b]? = some (.cells arr T fr)) (e : arr.toList = l ++ tl) : w.rangeAt b 0 l := fun j v hv =>
  rangeAt_block h j v (by rw [e, List.getElem?_append_left (List.getElem?_eq_some_iff.1 hv).1]; exact hv)
theorem run_rdx {k B t : Nat} {x y : V} {v : Value} (st : St k B F σ μ w) (h : rdx P t σ x = some y) (hv : VR F σ μ w x v) :
    ∃ u, (Instr.loadAt t v).run P w = .ok u w ∧ VR F σ μ w y u := by
  unfold rdx at h
  split at h
  · rename_i i off
    split at h
    · rename_i T cs hs
      simp only [VR] at hv
      obtain ⟨b, T', cs', h1, h2, rfl⟩ := hv
      obtain ⟨b', arr, e1, e2, ⟨l, tl, e6, e3⟩, _⟩ := st.obj i _ _ hs h2
      simp at e1
      subst e1
      have hr := rangeAt_drop (rangeAt_block' e2 e6) off
      rw [Nat.zero_add] at hr
      obtain ⟨u, r, g⟩ := run_rdV h (VRs.drop e3 off) hr
      exact ⟨u, by simp [Instr.loadAt, Instr.sureAddr, r], g⟩
    · simp at h
  · rename_i i n off
    split at h
    · rename_i E sz m cs hs
      split at h
      · rename_i hn
        subst hn
        simp only [VR] at hv
        obtain ⟨E', sz', m', cs', u, b, h1, h2, rfl, h3, h4⟩ := hv
        rw [hs] at h1
        simp at h1
        obtain ⟨rfl, rfl, rfl, rfl⟩ := h1
        obtain ⟨vs, e1, e2, e3⟩ := st.obj i _ _ hs h2
        have hr := rangeAt_drop (row_range e1 (h4 rfl)) off
        rw [Nat.zero_add] at hr
        obtain ⟨u, r, g⟩ := run_rdD h (DRs.drop e2 off) hr
        exact ⟨u, by simp [Instr.loadAt, Instr.sureAddr, r], g⟩
      · simp at h
    · simp at h
  · rename_i xs
    simp only [VR] at hv
    obtain ⟨b, off, vs, rfl, _, _, hc, hd⟩ := hv
    obtain ⟨u, r, g⟩ := run_rdD h hd hc
    exact ⟨u, by simp [Instr.loadAt, Instr.sureAddr, r], g⟩
  · simp at h
end
end Go.AW
namespace Go.AW
open Go
theorem setAt_length {α : Type} : ∀ (ys xs : List α) (off : Nat), (setAt xs off ys).length = xs.length
  | [], _, _ => rfl
  | y :: ys, xs, off => by simp [setAt, setAt_length ys]
section
variable {P : Program} {F : Nat → Prop} {σ : List Ob} {μ : List Value} {w : World}
theorem VRs.setAt : ∀ {ys : List V} {us : List Value} {xs : List V} {vs : List Value} (off : Nat), VRs F σ μ w xs vs → VRs F σ μ w ys us → VRs F σ μ w (setAt xs off ys) (setAt vs off us)
  | [], us, xs, vs, off, h, g => by simp only [VRs] at g; subst g; exact h
  | y :: ys, us, xs, vs, off, h, g => by
    simp only [VRs] at g
    obtain ⟨u, us', rfl, g1, g2⟩ := g
    exact VRs.setAt (off + 1) (VRs.set h off y u g1) g2
theorem DRs.set : ∀ {xs : List D} {vs : List Value}, DRs F w xs vs → ∀ (i : Nat) (x : D) (v : Value), DR F w x v → DRs F w (xs.set i x) (vs.set i v)
  | [], vs, h, i, x, v, hx => by simp only [DRs] at h; subst h; simp [DRs]
  | y :: xs, vs, h, i, x, v, hx => by
    simp only [DRs] at h
    obtain ⟨u, us, rfl, h1, h2⟩ := h
    cases i with
    | zero => exact ⟨v, us, rfl, hx, h2⟩
    | succ i => exact ⟨u, us.set i v, rfl, h1, DRs.set h2 i x v hx⟩
theorem DRs.setAt : ∀ {ys : List D} {us : List Value} {xs : List D} {vs : List Value} (off : Nat), DRs F w xs vs → DRs F w ys us → DRs F w (setAt xs off ys) (setAt vs off us)
  | [], us, xs, vs, off, h, g => by simp only [DRs] at g; subst g; exact h
  | y :: ys, us, xs, vs, off, h, g => by
    simp only [DRs] at g
    obtain ⟨u, us', rfl, g1, g2⟩ := g
    exact DRs.setAt (off + 1) (DRs.set h off y u g1) g2
theorem heap_setCells {b : Nat} {T : TypeId} : ∀ (vs : List Value) (off : Nat) (w : World) (arr : Array Value), w.heap[b]? = some (.cells arr T (0, 0)) →
    ∃ arr', (w.setCells b off vs).heap[b]? = some (.cells arr' T (0, 0)) ∧ arr'.toList = setAt arr.toList off vs
  | [], off, w, arr, h => ⟨arr, h, rfl⟩
  | v :: vs, off, w, arr, h => by
    obtain ⟨arr', h1, h2⟩ := heap_setCells vs (off + 1) (w.setCell ⟨b, off, none⟩ v) _ (heap_setCell_at h v)
    exact ⟨arr', h1, by rw [h2]; simp [AW.setAt]⟩
theorem setCells_rest (b : Nat) : ∀ (vs : List Value) (off : Nat) (w : World), (w.setCells b off vs).os = w.os ∧ (w.setCells b off vs).tape = w.tape ∧ (w.setCells b off vs).output = w.output ∧
    (w.setCells b off vs).heap.size = w.heap.size ∧ ∀ k, k ≠ b → (w.setCells b off vs).heap[k]? = w.heap[k]?
  | [], _, _ => ⟨rfl, rfl, rfl, rfl, fun _ _ => rfl⟩
  | v :: vs, off, w => by
    obtain ⟨h1, h2, h3, h4, h5⟩ := setCells_rest b vs (off + 1) (w.setCell ⟨b, off, none⟩ v)
    refine ⟨h1, h2, h3, by rw [World.setCells, h4]; simp [World.setCell], fun k hk => ?_⟩
    rw [World.setCells, h5 k hk]
    exact heap_setCell_other w _ k v hk
theorem V.one_ok : ∀ (x : V) (v : Value), VR F σ μ w x v → x.one = true → v.oneCell' = true := by
  intro x v h ho
  cases x with
  | d y =>
    cases y with
    | s u => simp only [VR, DR] at h; subst h; simpa [V.one] using ho
    | l n xs => simp only [VR, DR] at h; obtain ⟨A, cap, rfl, _⟩ := h; rfl
  | a cs => simp [V.one] at ho
  | t cs => simp [V.one] at ho
  | p i off => simp only [VR] at h; obtain ⟨b, T, cs, _, _, rfl⟩ := h; rfl
  | c xs => simp only [VR] at h; obtain ⟨b, off, vs, rfl, _⟩ := h; rfl
  | o i n => simp only [VR] at h; obtain ⟨E, sz, m, cs, u, A, cap, _, _, rfl, _⟩ := h; rfl
  | e i n off => simp only [VR] at h; obtain ⟨E, sz, m, cs, u, b, _, _, rfl, _⟩ := h; rfl
  | b i off n => simp only [VR] at h; obtain ⟨b, T, cs, _, _, cap, rfl, _⟩ := h; rfl
  | g i n => simp only [VR] at h; obtain ⟨b, T, cs, _, _, cap, rfl, _⟩ := h; rfl
  | f fn fi ca => simp only [VR] at h; obtain ⟨x, y, rfl, _⟩ := h; rfl
  | u => simp [V.one] at ho
def ones : List V → Bool
  | [] => true
  | x :: xs => x.one && ones xs
theorem ones_ok : ∀ (xs : List V) (vs : List Value), VRs F σ μ w xs vs → ones xs = true → ∀ v ∈ vs, v.oneCell' = true
  | [], vs, h, _ => by simp only [VRs] at h; subst h; simp
  | x :: xs, vs, h, ho => by
    simp only [VRs] at h
    obtain ⟨v, us, rfl, h1, h2⟩ := h
    simp only [ones, Bool.and_eq_true] at ho
    intro u hu
    rcases List.mem_cons.1 hu with rfl | hu
    · exact V.one_ok x _ h1 ho.1
    · exact ones_ok xs us h2 ho.2 u hu
theorem flat_ok {x : V} {v : Value} (h : VR F σ μ w x v) (ho : ones (flat x) = true) : VRs F σ μ w (flat x) v.cells.toList := by
  cases x with
  | a cs => simp only [VR] at h; obtain ⟨c, rfl, h⟩ := h; exact h
  | d y =>
    have : v.cells = #[v] := by
      cases y with
      | s u => simp only [VR, DR] at h; subst h; simp [flat, ones, V.one] at ho; cases v <;> simp_all [Value.cells, Value.oneCell']
      | l n xs => simp only [VR, DR] at h; obtain ⟨A, cap, rfl, _⟩ := h; rfl
    rw [this]; exact ⟨v, [], rfl, h, rfl⟩
  | t cs => simp [flat, ones, V.one] at ho
  | u => simp [flat, ones, V.one] at ho
  | p i off => have h' := h; simp only [VR] at h; obtain ⟨b, T, cs, _, _, rfl⟩ := h; exact ⟨_, [], rfl, h', rfl⟩
  | c xs => have h' := h; simp only [VR] at h; obtain ⟨b, off, vs, rfl, _⟩ := h; exact ⟨_, [], rfl, h', rfl⟩
  | o i n => have h' := h; simp only [VR] at h; obtain ⟨E, sz, m, cs, u, A, cap, _, _, rfl, _⟩ := h; exact ⟨_, [], rfl, h', rfl⟩
  | e i n off => have h' := h; simp only [VR] at h; obtain ⟨E, sz, m, cs, u, b, _, _, rfl, _⟩ := h; exact ⟨_, [], rfl, h', rfl⟩
  | b i off n => have h' := h; simp only [VR] at h; obtain ⟨b, T, cs, _, _, cap, rfl, _⟩ := h; exact ⟨_, [], rfl, h', rfl⟩
  | g i n => have h' := h; simp only [VR] at h; obtain ⟨b, T, cs, _, _, cap, rfl, _⟩ := h; exact ⟨_, [], rfl, h', rfl⟩
  | f fn fi ca => have h' := h; simp only [VR] at h; obtain ⟨x, y, rfl, _⟩ := h; exact ⟨_, [], rfl, h', rfl⟩
def wid (P : Program) (t : TypeId) : Option Nat := (P.info? t).map (·.size)
theorem run_store {b o t : Nat} {arr : Array Value} {T : TypeId} {v : Value} (hb : w.heap[b]? = some (.cells arr T (0, 0))) (hs : wid P t = some v.cells.size)
    (hfit : o + v.cells.size ≤ arr.size) (h1 : ∀ u ∈ v.cells.toList, u.oneCell' = true) :
    (Instr.storeAt t (.pointer (some ⟨b, o, none⟩)) v).run P w = .ok () (w.setCells b o v.cells.toList) := by
  have ht : w.there b o v.cells.size := fun j hj => by
    rw [cell_of_row w b (o + j) arr T (0, 0) hb, frozen_of_row w b (o + j) arr T hb]
    refine ⟨?_, rfl⟩
    rw [Array.getElem?_eq_getElem (by omega)]
    rfl
  have := run_storeVar_mid (P := P) w b o t v.cells ht hs (Array.all_eq_true_iff_forall_mem.2 fun u hu => h1 u (by simpa using hu))
  have hc : (Value.agg v.cells).cells = v.cells := rfl
  have e : (storeVar t ⟨b, o, none⟩ v).run P w = (storeVar t ⟨b, o, none⟩ (.agg v.cells)).run P w := by
    unfold storeVar
    rw [hc]
  simp [Instr.storeAt, Instr.sureAddr, e, this]
variable {k B : Nat}
theorem setAt_front {α : Type} : ∀ (us l tl : List α) (off : Nat), off + us.length ≤ l.length → AW.setAt (l ++ tl) off us = AW.setAt l off us ++ tl
  | [], l, tl, off, _ => rfl
  | u :: us, l, tl, off, h => by
    simp only [AW.setAt, List.length_cons] at h ⊢
    rw [List.set_append_left _ _ (by omega)]
    exact setAt_front us _ tl (off + 1) (by rw [List.length_set]; omega)
theorem set_box {i off b : Nat} {T : TypeId} {cs xs : List V} {us : List Value} (st : St k B F σ μ w) (hi : σ[i]? = some (.box T cs)) (h2 : μ[i]? = some (.pointer (some ⟨b, 0, none⟩))) (hf : VRs F σ μ w xs us) (hfit : off + us.length ≤ cs.length) :
    St k B F (σ.set i (.box T (setAt cs off xs))) μ (w.setCells b off us) ∧ Stp k B F σ μ w F (σ.set i (.box T (setAt cs off xs))) μ (w.setCells b off us) ∧ Keep σ.length σ μ (σ.set i (.box T (setAt cs off xs))) μ := by
  obtain ⟨b', arr, e1, e2, ⟨l, tl, e6, e3⟩, e4, e5⟩ := st.obj i _ _ hi h2
  simp at e1
  subst e1
  have hil : i < σ.length := (List.getElem?_eq_some_iff.1 hi).1
  obtain ⟨r1, r2, r3, r4, r5⟩ := setCells_rest b us off w
  obtain ⟨arr', g1, g2⟩ := heap_setCells us off w arr e2
  have hμ : μ.set i (.pointer (some ⟨b, 0, none⟩)) = μ := by
    apply List.ext_getElem?
    intro j
    by_cases e : i = j
    · subst e; rw [List.getElem?_set_self (by rw [st.len]; exact hil), h2]
    · rw [List.getElem?_set_ne e]
  have hkeep : Keep σ.length σ μ (σ.set i (.box T (setAt cs off xs))) μ := by
    refine ⟨fun j T1 c1 u hj a1 a2 => ⟨?_, a2⟩, fun j E sz m c1 u hj a1 a2 => ?_⟩
    · by_cases e : i = j
      · subst e; rw [hi] at a1; simp at a1; obtain ⟨rfl, rfl⟩ := a1; exact ⟨_, List.getElem?_set_self hj⟩
      · exact ⟨c1, by rw [List.getElem?_set_ne e]; exact a1⟩
    · have e : i ≠ j := by rintro rfl; rw [hi] at a1; simp at a1
      exact ⟨m, c1, u, by rw [List.getElem?_set_ne e]; exact a1, a2, Nat.le_refl _, fun _ => rfl⟩
  have hm : Mem F w F (w.setCells b off us) := ⟨Nat.le_of_eq r4.symm, fun c hc hF => ⟨r5 c (fun e => hF (e ▸ e4)), hF⟩⟩
  have := St.set (ob' := .box T (setAt cs off xs)) (h' := .pointer (some ⟨b, 0, none⟩)) (F' := F) (w' := w.setCells b off us) st hi h2 r1 r2 r3 (Nat.le_of_eq r4.symm)
    (fun c _ hc => r5 c (fun e => hc (by rw [e]; rfl))) (fun _ h => h) (fun _ h => .inl h) (fun c hc => .inl hc) (by rw [hμ]; exact hkeep)
    (by
      rw [hμ]
      refine ⟨b, arr', rfl, g1, ?_, e4, e5⟩
      rw [g2, e6, setAt_front _ _ _ _ (by rw [VRs.length e3]; exact hfit)]
      exact ⟨_, _, rfl, VRs.setAt off (VRs.mono hm st.len hkeep _ _ e3) (VRs.mono hm st.len hkeep _ _ hf)⟩)
  rw [hμ] at this
  exact ⟨this.1, this.2.1, this.2.2.1⟩
theorem store_box {i off t : Nat} {T : TypeId} {cs : List V} {x : V} {p v : Value} (st : St k B F σ μ w) (hi : σ[i]? = some (.box T cs)) (hp : VR F σ μ w (.p i off) p) (hv : VR F σ μ w x v)
    (hw : wid P t = some (flat x).length) (hfit : off + (flat x).length ≤ cs.length) (ho : ones (flat x) = true) :
    ∃ w', (Instr.storeAt t p v).run P w = .ok () w' ∧ St k B F (σ.set i (.box T (setAt cs off (flat x)))) μ w' ∧ Stp k B F σ μ w F (σ.set i (.box T (setAt cs off (flat x)))) μ w' ∧
      Keep σ.length σ μ (σ.set i (.box T (setAt cs off (flat x)))) μ := by
  simp only [VR] at hp
  obtain ⟨b, T', cs', h1, h2, rfl⟩ := hp
  obtain ⟨b', arr, e1, e2, ⟨l, tl, e6, e3⟩, e4, e5⟩ := st.obj i _ _ hi h2
  simp at e1
  subst e1
  have hf := flat_ok hv ho
  have hlen : v.cells.size = (flat x).length := by rw [← Array.length_toList]; exact VRs.length hf
  have hal : cs.length ≤ arr.size := by rw [← Array.length_toList, e6, List.length_append, VRs.length e3]; omega
  have hrun := run_store (P := P) (t := t) (o := off) (v := v) e2 (by rw [hw, hlen]) (by omega) (ones_ok _ _ hf ho)
  exact ⟨_, hrun, set_box st hi h2 hf (by rw [VRs.length hf]; exact hfit)⟩
theorem new_box {T : TypeId} {cs : List V} {arr : Array Value} (st : St k B F σ μ w) (hv : VRs F σ μ w cs arr.toList) :
    ∃ F' μ', St k B F' (σ ++ [.box T cs]) μ' (w.alloc (.cells arr T)) ∧ Stp k B F σ μ w F' (σ ++ [.box T cs]) μ' (w.alloc (.cells arr T)) ∧ Keep σ.length σ μ (σ ++ [.box T cs]) μ' ∧
      VR F' (σ ++ [.box T cs]) μ' (w.alloc (.cells arr T)) (.p σ.length 0) (.pointer (some ⟨w.heap.size, 0, none⟩)) ∧ ∀ b, F b → F' b := by
  have hsz : (w.alloc (.cells arr T)).heap.size = w.heap.size + 1 := by simp
  have hmem : ∀ b, b < w.heap.size → (w.alloc (.cells arr T)).heap[b]? = w.heap[b]? := fun b hb => heap_alloc_old w _ hb
  let F' : Nat → Prop := fun b => F b ∨ b = w.heap.size
  have hm : Mem F w F' (w.alloc (.cells arr T)) := ⟨by omega, fun b hb hF => ⟨hmem b hb, fun h => h.elim hF (by omega)⟩⟩
  have hkeep : Keep σ.length σ μ (σ ++ [.box T cs]) (μ ++ [.pointer (some ⟨w.heap.size, 0, none⟩)]) := by
    refine ⟨fun i T1 c1 u hi e1 e2 => ⟨⟨c1, (List.getElem?_append_left hi).trans e1⟩, (List.getElem?_append_left (by rw [st.len]; exact hi)).trans e2⟩,
      fun i E sz m c1 u hi e1 e2 => ⟨m, c1, u, (List.getElem?_append_left hi).trans e1, (List.getElem?_append_left (by rw [st.len]; exact hi)).trans e2, Nat.le_refl _, fun _ => rfl⟩⟩
  obtain ⟨g1, g2, g3, g4⟩ := St.push (ob' := .box T cs) (h' := .pointer (some ⟨w.heap.size, 0, none⟩)) (F' := F') (w' := w.alloc (.cells arr T)) st rfl rfl rfl (by omega) hmem (fun _ h => .inl h)
    (fun b hb => hb.imp id (fun e => ⟨by omega, by omega⟩)) (fun b hb => by simp [blk] at hb; omega)
    ⟨w.heap.size, arr, rfl, heap_alloc_new w _, VRx.of (VRs.mono hm st.len hkeep _ _ hv), .inr rfl, fun _ => st.base⟩
  exact ⟨F', _, g1, g2, g3, ⟨_, T, cs, by simp, by rw [← st.len]; simp, rfl⟩, fun _ h => .inl h⟩
end
end Go.AW
namespace Go.AW
open Go
structure Src (P : Program) (w : World) (u : TypeId) (size : Nat) (x : Value) (m : Nat) (news : List Value) : Prop where
  ty : (∃ e, P.underlying u = some (.slice e)) ∨ P.underlying u = some .string
  len : ∀ w', (Builtin.lenOf x).run P w' = .ok m w'
  cells : ∀ w', w'.heap = w.heap → (Builtin.firstCells size m x).run P w' = .ok news.toArray w'
  one : ∀ v ∈ news, v.oneCell' = true
  size : news.length = m * size
section
variable {P : Program} {w : World}
theorem Src.slice {u e : TypeId} {size b off m c : Nat} {news : List Value} (hu : P.underlying u = some (.slice e)) (hc : w.rangeAt b off news) (h1 : ∀ v ∈ news, v.oneCell' = true)
    (hl : news.length = m * size) : Src P w u size (.slice (some ⟨b, off, none⟩) m c) m news := by
  refine ⟨.inl ⟨e, hu⟩, fun w' => by simp [Builtin.lenOf], fun w' hh => ?_, h1, hl⟩
  refine run_firstCells_some (P := P) w' size m ⟨b, off, none⟩ m c news hl fun j v hv => ?_
  rw [Addr.add_mid, World.cell?_of_block (w := w) (by rw [hh])]
  exact hc j v hv
theorem Src.none {u e : TypeId} {size : Nat} (A : Option Addr) (c : Nat) (hu : P.underlying u = some (.slice e)) : Src P w u size (.slice A 0 c) 0 [] := by
  refine ⟨.inl ⟨e, hu⟩, fun w' => by simp [Builtin.lenOf], fun w' hh => ?_, by simp, by simp⟩
  cases A with
  | none => simp [Builtin.firstCells]
  | some a => simp [Builtin.firstCells, loadCells, loadCellsFrom]
theorem Src.string {u : TypeId} (s : ByteArray) (hu : P.underlying u = some .string) : Src P w u 1 (.string s) s.size (Lib.strCells s) :=
  ⟨.inr hu, fun w' => by simp [Builtin.lenOf], fun w' _ => Lib.run_firstCells_string w' 1 s, Lib.strCells_oneCell s, by rw [Lib.strCells_length, Nat.mul_one]⟩
def sliT (P : Program) (t : TypeId) : Option (Nat × Nat × Nat) :=
  match P.underlying t with
  | some (.slice e) => match P.info? e with
    | some i => match i.zero with
      | some z => if z.cells.size = i.size ∧ 0 < i.size ∧ 0 < i.bytes then some (e, i.size, i.bytes) else none
      | none => none
    | none => none
  | _ => none
theorem sliT_ok {t e sz by_ : Nat} (h : sliT P t = some (e, sz, by_)) : P.underlying t = some (.slice e) ∧ ∃ i z, P.info? e = some i ∧ i.zero = some z ∧ i.size = sz ∧ i.bytes = by_ ∧ z.cells.size = sz ∧ 0 < sz ∧ 0 < by_ := by
  unfold sliT at h
  split at h
  · rename_i e' hu
    split at h
    · rename_i i hi
      split at h
      · rename_i z hz
        split at h
        · rename_i hc
          simp at h
          obtain ⟨rfl, rfl, rfl⟩ := h
          exact ⟨hu, i, z, hi, hz, rfl, rfl, hc.1, hc.2.1, hc.2.2⟩
        · simp at h
      · simp at h
    · simp at h
  · simp at h
theorem run_append_src {base t u ty e sz by_ n m : Nat} {v x : Value} {xs news : List Value} (ht : sliT P t = some (e, sz, by_)) (hown : w.ownsRow base e sz v n xs) (src : Src P w u sz x m news)
    (hbytes : (n + m) * by_ ≤ 140737488355328) (hbase : base ≤ w.heap.size) :
    ∃ v' w', (Builtin.append_ #[t, u] ty #[v, x]).run P w = .ok v' w' ∧ w'.ownsRow base e sz v' (n + m) (xs ++ news) ∧ w.grownBy w' v.ownBlock ∧ (m = 0 → v' = v) ∧
      (∀ g, v'.ownBlock = some g → v.ownBlock = some g ∨ w.heap.size ≤ g) ∧ w.heap.size ≤ w'.heap.size := by
  obtain ⟨hu, i, z, hi, hz, rfl, rfl, hzs, hsz, hby⟩ := sliT_ok ht
  have hnm : n + m ≤ 140737488355328 := Nat.le_trans (Nat.le_mul_of_pos_right _ hby) hbytes
  have hmax : n + m ≤ maxLen := by simp only [maxLen]; omega
  have hlen : (xs ++ news).length = (n + m) * i.size := by rw [List.length_append, hown.1, src.size, Nat.add_mul]
  have h63' : ¬ (9223372036854775807 < ((n : Int) + (m : Int))) := by omega
  have hl := src.len
  have hcd := src.cells w.drew rfl
  have hc := src.cells w rfl
  have grown : ∀ (old : Nat), old < n + m → ∀ (row : Option Nat),
      (w.drew.alloc (.cells (xs.toArray ++ news.toArray ++ Builtin.zeroCells z.cells (grownCap w (n + m) old e - (n + m))) e)).ownsRow base e i.size
        (.slice (some ⟨w.heap.size, 0, none⟩) (n + m) (grownCap w (n + m) old e)) (n + m) (xs ++ news) ∧
      w.grownBy (w.drew.alloc (.cells (xs.toArray ++ news.toArray ++ Builtin.zeroCells z.cells (grownCap w (n + m) old e - (n + m))) e)) row := by
    intro old ho row
    have hge := grownCap_ge w (n + m) old e
    have hcm : grownCap w (n + m) old e ≤ maxLen := grownCap_le_maxLen w (n + m) old e hmax
    refine ⟨⟨hlen, .inr ⟨w.heap.size, _, _, rfl, hbase, heap_alloc_new w.drew _, hge, hcm, ?_, ?_⟩⟩, ⟨rfl, rfl, rfl, by simp, fun k hk _ => heap_alloc_old w.drew _ hk⟩⟩
    · simp only [Array.size_append, List.size_toArray, size_zeroCells, hzs, hown.1, src.size, ← Nat.add_mul]
      congr 1
      omega
    · simp only [Array.toList_append, List.append_assoc]
      rw [← List.append_assoc, ← hlen]
      exact List.take_left
  rcases hown.2 with ⟨rfl, rfl⟩ | ⟨g, cap, cur, rfl, hbg, hg, hnc, hcm, hcs, htake⟩
  · have hx : xs = [] := List.eq_nil_of_length_eq_zero (by simpa using hown.1)
    subst hx
    by_cases hm : m = 0
    · subst hm
      have hn : news = [] := List.eq_nil_of_length_eq_zero (by simpa using src.size)
      subst hn
      refine ⟨.slice none 0 0, w, ?_, World.ownsRow_nil w base e i.size, ⟨rfl, rfl, rfl, Nat.le_refl _, fun _ _ _ => rfl⟩, fun _ => rfl, fun g hg => .inl hg, Nat.le_refl _⟩
      rcases src.ty with ⟨e', hu'⟩ | hu' <;> simp [Builtin.append_, run_underlying hu, run_underlying hu', sizeOf, typeInfo, hi, hl, hc]
    · have h48' : ¬ (281474976710656 < Builtin.nextslicecap m 0 * i.bytes) := by rw [nextslicecap_zero (by omega)]; simp only [Nat.zero_add] at hbytes; omega
      have hgr := grown 0 (by omega) (Value.ownBlock (.slice none 0 0))
      simp only [Nat.zero_add, List.nil_append, Array.empty_append] at hgr ⊢
      simp only [Int.natCast_zero, Int.zero_add] at h63'
      refine ⟨_, _, ?_, hgr.1, hgr.2, fun h => absurd h hm, fun g hg => .inr ?_, by simp⟩
      · rcases src.ty with ⟨e', hu'⟩ | hu' <;>
          simp [Builtin.append_, run_underlying hu, run_underlying hu', sizeOf, typeInfo, zeroValue, hi, hz, hl, hm, h63', h48', Question.forced, run_firstCells_none, hcd, newRow, grownCap]
      · simp [Value.ownBlock] at hg; omega
  · by_cases hroom : n + m ≤ cap
    · have hfit : n * i.size + news.length ≤ cur.size := by rw [src.size, hcs, ← Nat.add_mul]; exact Nat.mul_le_mul_right _ hroom
      have hst := run_storeCells_at P g (n * i.size) e news 0 cur w hg (by simpa using hfit) src.one
      simp only [Nat.add_zero] at hst
      refine ⟨.slice (some ⟨g, 0, none⟩) (n + m) cap, w.setRow g (cur.toList.take (n * i.size) ++ news ++ cur.toList.drop (n * i.size + news.length)).toArray, ?_,
        ⟨hlen, .inr ⟨g, cap, _, rfl, hbg, setRow_heap w g cur _ e _ hg, hroom, hcm, ?_, ?_⟩⟩, ⟨rfl, rfl, rfl, by simp, fun k _ hk => setRow_other w g k _ (fun e => hk (by simp [Value.ownBlock, e]))⟩, fun h => by subst h; rfl, fun g' hg' => .inl hg', by simp⟩
      · rcases src.ty with ⟨e', hu'⟩ | hu' <;>
          simp [Builtin.append_, run_underlying hu, run_underlying hu', sizeOf, typeInfo, hi, hl, hroom, hc, Addr.add_lit, hst]
      · simp only [List.size_toArray, List.length_append, List.length_take, List.length_drop, Array.length_toList]
        omega
      · rw [htake, ← hlen]
        exact List.take_left
    · have holds : ∀ j u, xs[j]? = some u → w.cell? ((⟨g, 0, none⟩ : Addr).add j) = some u := hown.cells (g := g) rfl
      have h48' : ¬ (281474976710656 < Builtin.nextslicecap (n + m) cap * i.bytes) := by have := growslice_fits (need := n + m) (old := cap) (by omega) hbytes; omega
      have hfo := run_firstCells_some (P := P) w.drew i.size n ⟨g, 0, none⟩ n cap xs hown.1 (by simpa using holds)
      have hgr := grown cap (by omega) (Value.ownBlock (.slice (some ⟨g, 0, none⟩) n cap))
      refine ⟨_, _, ?_, hgr.1, hgr.2, fun h => absurd hroom (by subst h; omega), fun g' hg' => .inr ?_, by simp⟩
      · rcases src.ty with ⟨e', hu'⟩ | hu' <;>
          (simp [Builtin.append_, run_underlying hu, run_underlying hu', sizeOf, typeInfo, zeroValue, hi, hz, hl, hroom, h63', h48', Question.forced, hfo, hcd, newRow, grownCap]
           rw [← List.append_toArray, Array.append_assoc])
      · simp [Value.ownBlock] at hg'; omega
variable {F : Nat → Prop} {σ : List Ob} {μ : List Value} {k B : Nat}
def D.one : D → Bool
  | .s v => v.oneCell'
  | .l _ _ => true
def onesD : List D → Bool
  | [] => true
  | x :: xs => x.one && onesD xs
theorem onesD_ok : ∀ (xs : List D) (vs : List Value), DRs F w xs vs → onesD xs = true → ∀ v ∈ vs, v.oneCell' = true
  | [], vs, h, _ => by simp only [DRs] at h; subst h; simp
  | x :: xs, vs, h, ho => by
    simp only [DRs] at h
    obtain ⟨v, us, rfl, h1, h2⟩ := h
    simp only [onesD, Bool.and_eq_true] at ho
    intro u hu
    rcases List.mem_cons.1 hu with rfl | hu
    · cases x with
      | s v => simp only [DR] at h1; subst h1; exact ho.1
      | l n xs => simp only [DR] at h1; obtain ⟨A, cap, rfl, _⟩ := h1; rfl
    · exact onesD_ok xs us h2 ho.2 u hu
theorem DRs.mem {F' : Nat → Prop} {w' : World} (hm : Mem F w F' w') {xs : List D} {vs : List Value} (h : DRs F w xs vs) : DRs F' w' xs vs := DRs.mono hm xs vs h
theorem own_hdr (st : St k B F σ μ w) {i E sz n : Nat} {cs : List D} {v : Value} (hi : σ[i]? = some (.row E sz n cs)) (hv : VR F σ μ w (.o i n) v) :
    μ[i]? = some v ∧ ∃ vs, w.ownsRow (if k ≤ i then B else 0) E sz v n vs ∧ DRs F w cs vs ∧ ∀ b, v.ownBlock = some b → F b := by
  simp only [VR] at hv
  obtain ⟨E', sz', m, cs', h, A, cap, h1, h2, rfl, h3, h4⟩ := hv
  rw [hi] at h1
  simp at h1
  obtain ⟨rfl, rfl, rfl, rfl⟩ := h1
  obtain rfl := h4 rfl
  exact ⟨h2, st.obj i _ _ hi h2⟩
theorem append_row {i t u E sz n m by_ : Nat} {cs ys : List D} {v x : Value} {news : List Value} (ht : sliT P t = some (E, sz, by_)) (st : St k B F σ μ w)
    (hi : σ[i]? = some (.row E sz n cs)) (hv : VR F σ μ w (.o i n) v) (src : Src P w u sz x m news) (hys : DRs F w ys news) (hb : (n + m) * by_ ≤ 140737488355328) :
    ∃ v' w' F' μ', (Builtin.append_ #[t, u] t #[v, x]).run P w = .ok v' w' ∧ St k B F' (σ.set i (.row E sz (n + m) (cs ++ ys))) μ' w' ∧
      Stp k B F σ μ w F' (σ.set i (.row E sz (n + m) (cs ++ ys))) μ' w' ∧ Keep σ.length σ μ (σ.set i (.row E sz (n + m) (cs ++ ys))) μ' ∧
      VR F' (σ.set i (.row E sz (n + m) (cs ++ ys))) μ' w' (.o i (n + m)) v' ∧ ∀ b, F b → F' b := by
  obtain ⟨hμ, vs, hown, hd, hF⟩ := own_hdr st hi hv
  have hil : i < σ.length := (List.getElem?_eq_some_iff.1 hi).1
  obtain ⟨v', w', hr, ho', hg, hsame, hnew, hsz⟩ := run_append_src (P := P) (ty := t) ht hown src hb (by split; exact st.base; exact Nat.zero_le _)
  let F' : Nat → Prop := fun b => F b ∨ (w.heap.size ≤ b ∧ v'.ownBlock = some b)
  have hblk : blk (.row E sz n cs) v = v.ownBlock := blk_row v (row_no_ptr hown)
  have hblk' : blk (.row E sz (n + m) (cs ++ ys)) v' = v'.ownBlock := blk_row v' (row_no_ptr ho')
  have hlt : ∀ g, v'.ownBlock = some g → g < w'.heap.size := fun g e => (ho'.lt g e).2
  have hm : Mem F w F' w' := ⟨hsz, fun b hb hf => ⟨hg.block b hb (fun e => hf (hF b e.symm)), fun h => h.elim hf (fun h => by omega)⟩⟩
  have hml : i < μ.length := by rw [st.len]; exact hil
  have hkeep : Keep σ.length σ μ (σ.set i (.row E sz (n + m) (cs ++ ys))) (μ.set i v') := by
    refine ⟨fun j T1 c1 u1 hj a1 a2 => ?_, fun j E1 s1 m1 c1 u1 hj a1 a2 => ?_⟩
    · have e : i ≠ j := by rintro rfl; rw [hi] at a1; simp at a1
      exact ⟨⟨c1, by rw [List.getElem?_set_ne e]; exact a1⟩, by rw [List.getElem?_set_ne e]; exact a2⟩
    · by_cases e : i = j
      · subst e
        rw [hi] at a1
        simp at a1
        obtain ⟨rfl, rfl, rfl, rfl⟩ := a1
        rw [hμ] at a2
        obtain rfl := Option.some.inj a2
        exact ⟨n + m, cs ++ ys, v', List.getElem?_set_self hj, List.getElem?_set_self hml, by omega, fun e => hsame (by omega)⟩
      · exact ⟨m1, c1, u1, by rw [List.getElem?_set_ne e]; exact a1, by rw [List.getElem?_set_ne e]; exact a2, Nat.le_refl _, fun _ => rfl⟩
  have hslice : ∃ A cap, v' = .slice A (n + m) cap := by
    rcases ho'.2 with ⟨rfl, e⟩ | ⟨g, cap, cur, rfl, _⟩
    · exact ⟨none, 0, by rw [e]⟩
    · exact ⟨_, _, rfl⟩
  obtain ⟨A, cap, hA⟩ := hslice
  obtain ⟨g1, g2, g3, g4⟩ := St.set (ob' := .row E sz (n + m) (cs ++ ys)) (h' := v') (F' := F') (w' := w') st hi hμ hg.os hg.tape hg.output hsz
    (fun b hb hne => hg.block b hb (fun e => hne (by rw [hblk, e]))) (fun _ h => .inl h) (fun b hb => hb.imp id (fun h => ⟨h.1, hlt b h.2⟩))
    (fun b hb => by rw [hblk'] at hb; rw [hblk]; exact hnew b hb) hkeep
    ⟨vs ++ news, ho', DRs.append (DRs.mem hm hd) (DRs.mem hm hys), fun b e => by
      rcases hnew b e with h1 | h1
      · exact .inl (hF b h1)
      · exact .inr ⟨h1, e⟩⟩
  exact ⟨v', w', F', _, hr, g1, g2, g3, ⟨E, sz, n + m, cs ++ ys, v', A, cap, List.getElem?_set_self hil, List.getElem?_set_self hml, hA, Nat.le_refl _, fun _ => rfl⟩, fun _ h => .inl h⟩
theorem nil_row (E sz : Nat) (st : St k B F σ μ w) :
    St k B F (σ ++ [.row E sz 0 []]) (μ ++ [.slice none 0 0]) w ∧ Stp k B F σ μ w F (σ ++ [.row E sz 0 []]) (μ ++ [.slice none 0 0]) w ∧ Keep σ.length σ μ (σ ++ [.row E sz 0 []]) (μ ++ [.slice none 0 0]) ∧
      VR F (σ ++ [.row E sz 0 []]) (μ ++ [.slice none 0 0]) w (.o σ.length 0) (.slice none 0 0) := by
  obtain ⟨g1, g2, g3, _⟩ := St.push (ob' := .row E sz 0 []) (h' := .slice none 0 0) (F' := F) (w' := w) st rfl rfl rfl (Nat.le_refl _) (fun _ _ => rfl) (fun _ h => h) (fun _ h => .inl h)
    (fun b hb => by simp [blk] at hb) ⟨[], World.ownsRow_nil _ _ _ _, by simp [DRs], fun b hb => by simp [Value.ownBlock] at hb⟩
  exact ⟨g1, g2, g3, ⟨E, sz, 0, [], .slice none 0 0, none, 0, by simp, by rw [← st.len]; simp, rfl, Nat.le_refl _, fun _ => rfl⟩⟩
theorem ones_map : ∀ ys : List D, onesD ys = true → ones (ys.map .d) = true
  | [], _ => rfl
  | y :: ys, h => by
    simp only [onesD, Bool.and_eq_true] at h
    simp only [List.map_cons, ones, Bool.and_eq_true]
    exact ⟨by have := h.1; cases y <;> simp_all [V.one, D.one], ones_map ys h.2⟩
theorem DRs.ofV : ∀ (ys : List D) (vs : List Value), VRs F σ μ w (ys.map .d) vs → DRs F w ys vs
  | [], vs, h => by simpa [VRs, DRs] using h
  | y :: ys, vs, h => by
    simp only [List.map_cons, VRs, VR] at h
    obtain ⟨v, us, rfl, h1, h2⟩ := h
    exact ⟨v, us, rfl, h1, DRs.ofV ys us h2⟩
theorem setAt_under {α : Type} : ∀ (ys xs : List α) (off n : Nat), off + ys.length ≤ n → (setAt xs off ys).take n = setAt (xs.take n) off ys
  | [], _, _, _, _ => rfl
  | y :: ys, xs, off, n, h => by
    simp only [setAt, List.length_cons] at h ⊢
    rw [setAt_under ys _ _ n (by omega), List.take_set]
theorem store_row {i off t E sz n : Nat} {cs ys : List D} {x : V} {p v : Value} (st : St k B F σ μ w) (hi : σ[i]? = some (.row E sz n cs)) (hp : VR F σ μ w (.e i n off) p) (hv : VR F σ μ w x v)
    (hx : flat x = ys.map .d) (hw : wid P t = some ys.length) (hfit : off + ys.length ≤ cs.length) (ho : onesD ys = true) :
    ∃ w', (Instr.storeAt t p v).run P w = .ok () w' ∧ St k B F (σ.set i (.row E sz n (setAt cs off ys))) μ w' ∧ Stp k B F σ μ w F (σ.set i (.row E sz n (setAt cs off ys))) μ w' ∧
      Keep σ.length σ μ (σ.set i (.row E sz n (setAt cs off ys))) μ := by
  simp only [VR] at hp
  obtain ⟨E', sz', m, cs', h, b, h1, h2, rfl, h3, h4⟩ := hp
  rw [hi] at h1
  simp at h1
  obtain ⟨rfl, rfl, rfl, rfl⟩ := h1
  have hb := h4 rfl
  obtain ⟨vs, hown, hd, hF⟩ := st.obj i _ _ hi h2
  have hf := flat_ok hv (by rw [hx]; exact ones_map ys ho)
  rw [hx] at hf
  have hfd := DRs.ofV ys v.cells.toList hf
  have hlen : v.cells.size = ys.length := by rw [← Array.length_toList]; exact DRs.length hfd
  rcases hown.2 with ⟨rfl, _⟩ | ⟨g, cap, cur, rfl, hg, hh, hnc, hcm, hcs, htake⟩
  · simp [Value.ownBlock] at hb
  · simp [Value.ownBlock] at hb
    subst hb
    have hvl : vs.length = cs.length := DRs.length hd
    have hvn : vs.length = n * sz := hown.1
    have hncs : n * sz ≤ cap * sz := Nat.mul_le_mul_right _ hnc
    have hrun := run_store (P := P) (t := t) (o := off) (v := v) hh (by rw [hw, hlen]) (by omega) (onesD_ok _ _ hfd ho)
    obtain ⟨r1, r2, r3, r4, r5⟩ := setCells_rest g v.cells.toList off w
    obtain ⟨arr', g1, g2⟩ := heap_setCells v.cells.toList off w cur hh
    have hil : i < σ.length := (List.getElem?_eq_some_iff.1 hi).1
    have hμ : μ.set i (.slice (some ⟨g, 0, none⟩) n cap) = μ := by
      apply List.ext_getElem?
      intro j
      by_cases e : i = j
      · subst e; rw [List.getElem?_set_self (by rw [st.len]; exact hil), h2]
      · rw [List.getElem?_set_ne e]
    have hkeep : Keep σ.length σ μ (σ.set i (.row E sz n (setAt cs off ys))) μ := by
      refine ⟨fun j T1 c1 u hj a1 a2 => ⟨⟨c1, ?_⟩, a2⟩, fun j E1 s1 m1 c1 u hj a1 a2 => ?_⟩
      · have e : i ≠ j := by rintro rfl; rw [hi] at a1; simp at a1
        rw [List.getElem?_set_ne e]; exact a1
      · by_cases e : i = j
        · subst e
          rw [hi] at a1
          simp at a1
          obtain ⟨rfl, rfl, rfl, rfl⟩ := a1
          exact ⟨n, _, u, List.getElem?_set_self hj, a2, Nat.le_refl _, fun _ => rfl⟩
        · exact ⟨m1, c1, u, by rw [List.getElem?_set_ne e]; exact a1, a2, Nat.le_refl _, fun _ => rfl⟩
    have hm : Mem F w F (w.setCells g off v.cells.toList) := ⟨Nat.le_of_eq r4.symm, fun c hc hFc => ⟨r5 c (fun e => hFc (e ▸ hF g rfl)), hFc⟩⟩
    have hasz : arr'.size = cur.size := by rw [← Array.length_toList, g2, setAt_length, Array.length_toList]
    have htk : arr'.toList.take (n * sz) = setAt vs off v.cells.toList := by
      rw [g2, setAt_under _ _ _ _ (by rw [Array.length_toList, hlen, ← hvn, hvl]; exact hfit), htake]
    have := St.set (ob' := .row E sz n (setAt cs off ys)) (h' := .slice (some ⟨g, 0, none⟩) n cap) (F' := F) (w' := w.setCells g off v.cells.toList) st hi h2 r1 r2 r3 (Nat.le_of_eq r4.symm)
      (fun c _ hc => r5 c (fun e => hc (by rw [e]; rfl))) (fun _ h => h) (fun _ h => .inl h) (fun c hc => .inl hc) (by rw [hμ]; exact hkeep)
      (by
        rw [hμ]
        refine ⟨setAt vs off v.cells.toList, ⟨by rw [setAt_length]; exact hvn, .inr ⟨g, cap, arr', rfl, hg, g1, hnc, hcm, by rw [hasz]; exact hcs, htk⟩⟩, ?_, hF⟩
        exact DRs.setAt off (DRs.mem hm hd) (DRs.mem hm hfd))
    rw [hμ] at this
    exact ⟨_, hrun, this.1, this.2.1, this.2.2.1⟩
end
end Go.AW
namespace Go.AW
open Go
theorem foldl_setAt : ∀ (l : List Value) (k off : Nat) (cs : Array Value), ((l.zipIdx k).foldl (fun (cs : Array Value) (p : Value × Nat) => cs.setIfInBounds (off + p.2) p.1) cs).toList = setAt cs.toList (off + k) l
  | [], _, _, _ => rfl
  | v :: l, k, off, cs => by
    simp only [List.zipIdx_cons, List.foldl_cons, setAt]
    rw [foldl_setAt l (k + 1) off]
    simp [Nat.add_assoc]
theorem foldl_setAt' (v : Array Value) (off : Nat) (cs : Array Value) : (v.zipIdx.foldl (fun cs (c, j) => cs.setIfInBounds (off + j) c) cs).toList = setAt cs.toList off v.toList := by
  have := foldl_setAt v.toList 0 off cs
  rw [Nat.add_zero] at this
  rw [← this, ← Array.foldl_toList, Array.toList_zipIdx]
def fillV (zs : List V) (pl : List (Nat × Nat)) : List (Nat × V) → Option (List V)
  | [] => some zs
  | (i, x) :: r => match pl[i]? with
    | some (off, sz) => if (flat x).length = sz ∧ off + sz ≤ zs.length ∧ ones (flat x) = true then fillV (setAt zs off (flat x)) pl r else none
    | none => none
section
variable {P : Program} {F : Nat → Prop} {σ : List Ob} {μ : List Value} {w : World}
def VRp (F : Nat → Prop) (σ : List Ob) (μ : List Value) (w : World) : List (Nat × V) → List (Nat × Value) → Prop
  | [], ps => ps = []
  | (i, x) :: r, ps => ∃ v qs, ps = (i, v) :: qs ∧ VR F σ μ w x v ∧ VRp F σ μ w r qs
theorem fillV_ok (place : Nat → Option (Nat × Nat)) (pl : List (Nat × Nat)) (hp : ∀ i, place i = pl[i]?) : ∀ (parts : List (Nat × V)) (zs : List V) (ps : List (Nat × Value)) (cells : Array Value) (cs : List V),
    fillV zs pl parts = some cs → VRp F σ μ w parts ps → VRs F σ μ w zs cells.toList → ∃ out, Instr.fill place cells ps = some out ∧ VRs F σ μ w cs out.toList
  | [], zs, ps, cells, cs, h, hq, hz => by
    simp only [VRp] at hq
    subst hq
    simp only [fillV, Option.some.injEq] at h
    subst h
    exact ⟨cells, rfl, hz⟩
  | (i, x) :: r, zs, ps, cells, cs, h, hq, hz => by
    simp only [VRp] at hq
    obtain ⟨v, qs, rfl, hv, hr⟩ := hq
    simp only [fillV] at h
    split at h
    · rename_i off sz hpl
      split at h
      · rename_i hc
        obtain ⟨h1, h2, h3⟩ := hc
        have hf := flat_ok hv h3
        have hl : v.cells.size = sz := by rw [← Array.length_toList, VRs.length hf, h1]
        have hcl : cells.size = zs.length := by rw [← Array.length_toList]; exact VRs.length hz
        obtain ⟨out, g1, g2⟩ := fillV_ok place pl hp r _ qs (v.cells.zipIdx.foldl (fun cs (c, j) => cs.setIfInBounds (off + j) c) cells) cs h hr (by
          rw [foldl_setAt']
          exact VRs.setAt off hz hf)
        refine ⟨out, ?_, g2⟩
        simp only [Instr.fill, hp, hpl]
        rw [if_neg (by simp [hl]; omega)]
        exact g1
      · simp at h
    · simp at h
def plc (P : Program) (t : TypeId) : Option (List Value × List (Nat × Nat)) :=
  match P.info? t, P.underlying t with
  | some it, some (.struct fields) =>
    match it.zero, fields.toList.mapM (fun f => (P.info? f.type).map fun i => (f.offset, i.size)) with
    | some z, some places => some (z.cells.toList, places)
    | _, _ => none
  | _, _ => none
theorem run_build_V {t : TypeId} {zs : List Value} {pl : List (Nat × Nat)} {parts : List (Nat × V)} {ps : List (Nat × Value)} {cs : List V} (hp : plc P t = some (zs, pl))
    (h : fillV (zs.map fun v => .d (.s v)) pl parts = some cs) (hq : VRp F σ μ w parts ps) : ∃ v, (Instr.build t ps.toArray).run P w = .ok v w ∧ VR F σ μ w (.a cs) v := by
  unfold plc at hp
  split at hp
  · rename_i it fields hi hu
    split at hp
    · rename_i z places hz hpl
      simp at hp
      obtain ⟨rfl, rfl⟩ := hp
      obtain ⟨out, g1, g2⟩ := fillV_ok (places.toArray[·]?) places (fun i => by simp) parts _ ps z.cells cs h hq (cvs_ok _)
      simp only [List.getElem?_toArray] at g1
      exact ⟨_, run_build w t ps.toArray out (by simp [Program.built, hi, hu, hz, hpl]; exact g1), ⟨out, rfl, g2⟩⟩
    · simp at hp
  · simp at hp
def buildCells (sz : Nat) : Nat → List (Nat × V) → Option (List V)
  | _, [] => some []
  | i, (j, x) :: r => if j = i ∧ (flat x).length = sz ∧ ones (flat x) = true then (buildCells sz (i + 1) r).map (flat x ++ ·) else none
theorem setAt_mid {α : Type} : ∀ (ys xs : List α) (off : Nat), off + ys.length ≤ xs.length → (setAt xs off ys).take (off + ys.length) = xs.take off ++ ys
  | [], xs, off, _ => by simp [setAt]
  | y :: ys, xs, off, h => by
    simp only [setAt, List.length_cons] at h ⊢
    have := setAt_mid ys (xs.set off y) (off + 1) (by simp; omega)
    rw [show off + (ys.length + 1) = off + 1 + ys.length from by omega, this]
    rw [List.take_succ_eq_append_getElem (by simp; omega)]
    simp [List.take_set_of_le]
theorem buildCells_ok (sz : Nat) : ∀ (parts : List (Nat × V)) (i : Nat) (ps : List (Nat × Value)) (cells : Array Value) (cs : List V), buildCells sz i parts = some cs → VRp F σ μ w parts ps →
    cells.size = (i + parts.length) * sz → ∃ out vs, Instr.fill (fun i => some (i * sz, sz)) cells ps = some out ∧ out.toList = cells.toList.take (i * sz) ++ vs ∧ VRs F σ μ w cs vs
  | [], i, ps, cells, cs, h, hq, hc => by
    simp only [VRp] at hq
    subst hq
    simp only [buildCells, Option.some.injEq] at h
    subst h
    have hl : cells.toList.length ≤ i * sz := by simp at hc ⊢; omega
    exact ⟨cells, [], rfl, by rw [List.take_of_length_le hl]; simp, rfl⟩
  | (j, x) :: r, i, ps, cells, cs, h, hq, hc => by
    simp only [VRp] at hq
    obtain ⟨v, qs, rfl, hv, hr⟩ := hq
    simp only [buildCells] at h
    split at h
    · rename_i hcond
      obtain ⟨rfl, h1, h3⟩ := hcond
      have hf := flat_ok hv h3
      have hl : v.cells.size = sz := by rw [← Array.length_toList, VRs.length hf, h1]
      have hl' : v.cells.toList.length = sz := by rw [Array.length_toList, hl]
      cases hb : buildCells sz (j + 1) r with
      | none => simp [hb] at h
      | some cs' =>
        simp [hb] at h
        subst h
        have hfit : j * sz + sz ≤ cells.size := by
          rw [hc, ← Nat.succ_mul]
          exact Nat.mul_le_mul_right _ (by simp)
        have hsz : (v.cells.zipIdx.foldl (fun cs (c, k) => cs.setIfInBounds (j * sz + k) c) cells).size = cells.size := by
          rw [← Array.length_toList, foldl_setAt', setAt_length, Array.length_toList]
        obtain ⟨out, vs, g1, g2, g3⟩ := buildCells_ok sz r (j + 1) qs (v.cells.zipIdx.foldl (fun cs (c, k) => cs.setIfInBounds (j * sz + k) c) cells) cs' hb hr (by rw [hsz, hc]; simp; congr 1; omega)
        refine ⟨out, v.cells.toList ++ vs, ?_, ?_, VRs.append hf g3⟩
        · simp only [Instr.fill]
          rw [if_neg (by simp [hl]; omega)]
          exact g1
        · rw [g2, foldl_setAt', Nat.succ_mul]
          have := setAt_mid v.cells.toList cells.toList (j * sz) (by rw [hl', Array.length_toList]; exact hfit)
          rw [hl'] at this
          rw [this, List.append_assoc]
    · simp at h
theorem buildCells_length (sz : Nat) : ∀ (parts : List (Nat × V)) (i : Nat) (cs : List V), buildCells sz i parts = some cs → cs.length = parts.length * sz
  | [], i, cs, h => by simp only [buildCells, Option.some.injEq] at h; subst h; simp
  | (j, x) :: r, i, cs, h => by
    simp only [buildCells] at h
    split at h
    · rename_i hc
      cases hb : buildCells sz (i + 1) r with
      | none => simp [hb] at h
      | some cs' =>
        simp [hb] at h
        subst h
        rw [List.length_append, buildCells_length sz r (i + 1) cs' hb, hc.2.1]
        simp [Nat.add_mul, Nat.add_comm]
    · simp at h
theorem run_buildSlice_V {t e sz by_ : Nat} {parts : List (Nat × V)} {ps : List (Nat × Value)} {cs : List V} (ht : sliT P t = some (e, sz, by_)) (h : buildCells sz 0 parts = some cs) (hq : VRp F σ μ w parts ps)
    (hn : parts.length * sz ≤ 16777216) :
    ∃ arr : Array Value, (Instr.buildSlice t parts.length ps.toArray).run P w = .ok (.slice (some ⟨w.heap.size, 0, none⟩) parts.length parts.length) (w.alloc (.cells arr e)) ∧ VRs F σ μ w cs arr.toList ∧ arr.size = parts.length * sz := by
  obtain ⟨hu, i, z, hi, hz, hs, hb, hzs, hsz, _⟩ := sliT_ok ht
  subst hs
  have hlen : ∀ arr : Array Value, VRs F σ μ w cs arr.toList → arr.size = parts.length * i.size := fun arr ha => by
    rw [← Array.length_toList, VRs.length ha, buildCells_length _ _ _ _ h]
  cases parts with
  | nil =>
    simp only [VRp] at hq
    subst hq
    simp only [buildCells, Option.some.injEq] at h
    subst h
    refine ⟨#[], ?_, rfl, by simp⟩
    simp [Instr.buildSlice, run_underlying hu, sizeOf, typeInfo, hi, newRow, Instr.fill]
    congr 2
    apply Array.ext'
    simp
  | cons p r =>
    generalize hp : (p :: r : List (Nat × V)) = parts at *
    have h0 : ¬ (parts.length * i.size = 0) := by
      have : 0 < parts.length := by rw [← hp]; simp
      have := Nat.mul_pos this hsz
      omega
    obtain ⟨out, vs, g1, g2, g3⟩ := buildCells_ok (F := F) (σ := σ) (μ := μ) (w := w) i.size parts 0 ps ((Array.range (parts.length * i.size)).map (fun k => z.cells[k % z.cells.size]!)) cs h hq (by simp)
    simp at g2
    have h24 : ¬ (16777216 < parts.length * i.size) := by omega
    rw [← g2] at g3
    refine ⟨out, ?_, g3, hlen out g3⟩
    simp [Instr.buildSlice, run_underlying hu, sizeOf, typeInfo, zeroValue, hi, hz, h24, newRow]
    rw [if_neg h0, g1]
    simp
end
end Go.AW
namespace Go.AW
open Go
abbrev iv (k : IntKind) (n : Int) : V := .d (.s (.int k n))
abbrev bv (b : Bool) : V := .d (.s (.bool b))
abbrev sv (s : ByteArray) : V := .d (.s (.string s))
theorem bs_size (l : List UInt8) : (⟨l.toArray⟩ : ByteArray).size = l.length := by show l.toArray.size = _; simp
theorem bs_append (l m : List UInt8) : (⟨l.toArray⟩ : ByteArray) ++ ⟨m.toArray⟩ = ⟨(l ++ m).toArray⟩ := by
  apply ByteArray.ext
  simp
theorem bs_extract (l : List UInt8) (i j : Nat) : (⟨l.toArray⟩ : ByteArray).extract i j = ⟨((l.drop i).take (j - i)).toArray⟩ := by
  apply ByteArray.ext
  simp
theorem bs_data (l : List UInt8) : (⟨l.toArray⟩ : ByteArray).data.toList = l := rfl
def bitI (op : BinOp) (k : IntKind) (a b : Int) : Int :=
  match op with
  | .and => k.wrap ((BitVec.ofInt k.bits a &&& BitVec.ofInt k.bits b).toNat : Int)
  | .or => k.wrap ((BitVec.ofInt k.bits a ||| BitVec.ofInt k.bits b).toNat : Int)
  | .xor => k.wrap ((BitVec.ofInt k.bits a ^^^ BitVec.ofInt k.bits b).toNat : Int)
  | _ => k.wrap ((BitVec.ofInt k.bits a &&& ~~~BitVec.ofInt k.bits b).toNat : Int)
def ibin (op : BinOp) (k : IntKind) (a b : Int) (K : V → Prop) : Prop :=
  match op with
  | .add => K (iv k (k.wrap (a + b)))
  | .sub => K (iv k (k.wrap (a - b)))
  | .mul => K (iv k (k.wrap (a * b)))
  | .quo => b ≠ 0 ∧ K (iv k (k.wrap (a.tdiv b)))
  | .rem => b ≠ 0 ∧ K (iv k (a.tmod b))
  | .and => K (iv k (bitI .and k a b))
  | .or => K (iv k (bitI .or k a b))
  | .xor => K (iv k (bitI .xor k a b))
  | .andNot => K (iv k (bitI .andNot k a b))
  | .eql => K (bv (decide (a = b)))
  | .neq => K (bv (!decide (a = b)))
  | .lss => K (bv (decide (a < b)))
  | .leq => K (bv (decide (a ≤ b)))
  | .gtr => K (bv (decide (a > b)))
  | .geq => K (bv (decide (a ≥ b)))
  | _ => False
def shf (op : BinOp) (k : IntKind) (a b : Int) (K : V → Prop) : Prop :=
  match op with
  | .shl => 0 ≤ b ∧ K (iv k (k.wrap (a * 2 ^ (min b.toNat k.bits))))
  | .shr => 0 ≤ b ∧ K (iv k (a.fdiv (2 ^ (min b.toNat k.bits))))
  | _ => False
def sbin (op : BinOp) (a b : ByteArray) (K : V → Prop) : Prop :=
  match op with
  | .add => a.size + b.size ≤ 9223372036854775807 ∧ K (sv (a ++ b))
  | .eql => K (bv (decide (a.data.toList = b.data.toList)))
  | .neq => K (bv (!decide (a.data.toList = b.data.toList)))
  | .lss => K (bv (Op.bytesLess a.data.toList b.data.toList))
  | .leq => K (bv (Op.bytesLess a.data.toList b.data.toList || decide (a.data.toList = b.data.toList)))
  | .gtr => K (bv (!(Op.bytesLess a.data.toList b.data.toList || decide (a.data.toList = b.data.toList))))
  | .geq => K (bv (!Op.bytesLess a.data.toList b.data.toList))
  | _ => False
def isB (P : Program) (t : TypeId) : Bool := match P.underlying t with | some .bool => true | _ => false
def isS (P : Program) (t : TypeId) : Bool := match P.underlying t with | some .string => true | _ => false
def isP (P : Program) (t : TypeId) : Bool := match P.underlying t with | some (.pointer _) => true | _ => false
def isF (P : Program) (t : TypeId) : Bool := match P.underlying t with | some (.func _ _ _) => true | _ => false
def intT (P : Program) (t : TypeId) : Option IntKind := match P.underlying t with | some (.int k) => some k | _ => none
def isK (P : Program) (t : TypeId) : Bool := (P.underlying t).isSome
def eqn (op : BinOp) (b : Bool) (K : V → Prop) : Prop :=
  match op with
  | .eql => K (bv b)
  | .neq => K (bv (!b))
  | _ => False
inductive K3 where
  | i
  | s
  | b
def eqL (P : Program) : List Field → Nat → Option (List K3)
  | [], _ => some []
  | f :: fs, off => if f.name ≠ "_" ∧ f.offset = off then (match P.underlying f.type with | some (.int _) => (eqL P fs (off + 1)).map (K3.i :: ·) | some .string => (eqL P fs (off + 1)).map (K3.s :: ·) | some .bool => (eqL P fs (off + 1)).map (K3.b :: ·) | _ => none) else none
def eqT (P : Program) (t : TypeId) : Option (List K3) :=
  match P.underlying t with
  | some (.struct fs) => if P.stoodInHeld t = false ∧ P.eqGuardType P.depth t = false then eqL P fs.toList 0 else none
  | _ => none
def eqV : List K3 → List V → List V → Option Bool
  | [], [], [] => some true
  | .i :: ks, .d (.s (.int k a)) :: xs, .d (.s (.int k' b)) :: ys => if k = k' then (eqV ks xs ys).map (decide (a = b) && ·) else none
  | .s :: ks, .d (.s (.string a)) :: xs, .d (.s (.string b)) :: ys => (eqV ks xs ys).map (decide (a.data.toList = b.data.toList) && ·)
  | .b :: ks, .d (.s (.bool a)) :: xs, .d (.s (.bool b)) :: ys => (eqV ks xs ys).map (decide (a = b) && ·)
  | _, _, _ => none
def bin (P : Program) (op : BinOp) (t : TypeId) (x y : V) (K : V → Prop) : Prop :=
  match x, y with
  | .d (.s (.int k a)), .d (.s (.int k' b)) => if op = .shl ∨ op = .shr then shf op k a b K else k = k' ∧ ibin op k a b K
  | .d (.s (.string a)), .d (.s (.string b)) => sbin op a b K
  | .d (.s (.bool a)), .d (.s (.bool b)) => isB P t = true ∧ eqn op (decide (a = b)) K
  | .p _ _, .d (.s (.pointer none)) => isP P t = true ∧ eqn op false K
  | .d (.s (.pointer none)), .d (.s (.pointer none)) => isP P t = true ∧ eqn op true K
  | .f _ _ _, .d (.s .nilFunc) => isF P t = true ∧ eqn op false K
  | .d (.s .nilFunc), .d (.s .nilFunc) => isF P t = true ∧ eqn op true K
  | .d (.l n _), .d (.s (.slice none 0 0)) => (sliT P t).isSome = true ∧ ∀ b, (b = true → n = 0) → eqn op b K
  | .a xs, .a ys => ∃ ks b, eqT P t = some ks ∧ eqV ks xs ys = some b ∧ eqn op b K
  | _, _ => False
section
variable {P : Program} {F : Nat → Prop} {σ : List Ob} {μ : List Value} {w : World}
theorem run_ibin {op : BinOp} {t : TypeId} {k : IntKind} {a b : Int} {K : V → Prop} (h : ibin op k a b K) :
    ∃ x v, K x ∧ (binOp op t (.int k a) (.int k b)).run P w = .ok v w ∧ VR F σ μ w x v := by
  cases op <;> simp only [ibin] at h <;> first
    | exact ⟨_, _, h, by simp [binOp, Op.intArith, Op.intBits, Op.intCmp, bitI]; try rfl, rfl⟩
    | exact ⟨_, _, h.2, by simp [binOp, Op.intDiv, h.1], rfl⟩
    | exact h.elim
theorem run_shf {op : BinOp} {t : TypeId} {k k' : IntKind} {a b : Int} {K : V → Prop} (h : shf op k a b K) :
    ∃ x v, K x ∧ (binOp op t (.int k a) (.int k' b)).run P w = .ok v w ∧ VR F σ μ w x v := by
  cases op <;> simp only [shf] at h <;> first
    | exact ⟨_, _, h.2, by simp [binOp, Op.shift, show ¬ b < 0 from by omega], rfl⟩
    | exact h.elim
theorem run_sbin {op : BinOp} {t : TypeId} {a b : ByteArray} {K : V → Prop} (h : sbin op a b K) :
    ∃ x v, K x ∧ (binOp op t (.string a) (.string b)).run P w = .ok v w ∧ VR F σ μ w x v := by
  have e : (a.data.toList == b.data.toList) = decide (a.data.toList = b.data.toList) := by
    rw [Bool.eq_iff_iff]; simp
  cases op <;> simp only [sbin] at h <;> first
    | exact ⟨_, _, h, by simp only [binOp, Op.stringOp, ByteArray.toList_eq, e]; rfl, rfl⟩
    | (refine ⟨_, _, h.2, ?_, rfl⟩
       simp [binOp, Op.stringOp]
       have := h.1
       omega)
    | exact h.elim
theorem run_eqn {op : BinOp} {t : TypeId} {u v : Value} {b : Bool} {K : V → Prop} (h : eqn op b K)
    (he : binOp .eql t u v = do pure (.bool (← Op.equal t u v))) (hn : binOp .neq t u v = do pure (.bool (!(← Op.equal t u v)))) (hq : ∀ d, (Op.equalIn (d + 1) t u v).run P w = .ok b w) :
    ∃ x r, K x ∧ (binOp op t u v).run P w = .ok r w ∧ VR F σ μ w x r := by
  have hq' : (Op.equal t u v).run P w = .ok b w := hq 9999
  cases op <;> simp only [eqn] at h <;> first
    | exact ⟨_, _, h, by rw [he]; simp [hq'], rfl⟩
    | exact ⟨_, _, h, by rw [hn]; simp [hq'], rfl⟩
    | exact h.elim
theorem run_eqn' {op : BinOp} {t : TypeId} {u v : Value} {b : Bool} {K : V → Prop} (h : eqn op b K)
    (he : binOp .eql t u v = do pure (.bool (← Op.equal t u v))) (hn : binOp .neq t u v = do pure (.bool (!(← Op.equal t u v)))) (hq' : (Op.equal t u v).run P w = .ok b w) :
    ∃ x r, K x ∧ (binOp op t u v).run P w = .ok r w ∧ VR F σ μ w x r := by
  cases op <;> simp only [eqn] at h <;> first
    | exact ⟨_, _, h, by rw [he]; simp [hq'], rfl⟩
    | exact ⟨_, _, h, by rw [hn]; simp [hq'], rfl⟩
    | exact h.elim
theorem run_eqV (d : Nat) : ∀ (fs : List Field) (off : Nat) (ks : List K3) (xs ys : List V) (b : Bool) (cs ds : Array Value), eqL P fs off = some ks → eqV ks xs ys = some b → VRs F σ μ w xs (cs.toList.drop off) → VRs F σ μ w ys (ds.toList.drop off) →
    (Op.eqFields (d + 1) cs ds fs).run P w = .ok b w
  | [], off, ks, xs, ys, b, cs, ds, h1, h2, _, _ => by
    simp only [eqL, Option.some.injEq] at h1
    subst h1
    unfold eqV at h2
    split at h2
    · simp at h2; subst h2; simp [Op.eqFields]
    · contradiction
    · contradiction
    · contradiction
    · cases h2
  | f :: fs, off, ks, xs, ys, b, cs, ds, h1, h2, hx, hy => by
    unfold eqL at h1
    split at h1
    case isFalse => cases h1
    rename_i hf
    obtain ⟨hn, ho⟩ := hf
    have cell : ∀ (zs : List V) (es : Array Value) (z : V), VRs F σ μ w (z :: zs) (es.toList.drop off) → ∃ v, es[off]? = some v ∧ VR F σ μ w z v ∧ VRs F σ μ w zs (es.toList.drop (off + 1)) := by
      intro zs es z h
      simp only [VRs] at h
      obtain ⟨v, us, e, k1, k2⟩ := h
      refine ⟨v, ?_, k1, ?_⟩
      · have := congrArg List.head? e
        rw [List.head?_drop] at this
        simpa using this
      · have := congrArg List.tail e
        rw [List.tail_drop] at this
        rw [this]; exact k2
    have go : ∀ (u v : Value) (r : Bool) (zs zs' : List V) (ks' : List K3) (b' : Bool), P.plainKey f.type = true → cs[off]? = some u → ds[off]? = some v → (Op.equalIn (d + 1) f.type u v).run P w = .ok r w → eqL P fs (off + 1) = some ks' → eqV ks' zs zs' = some b' → VRs F σ μ w zs (cs.toList.drop (off + 1)) → VRs F σ μ w zs' (ds.toList.drop (off + 1)) →
        (Op.eqFields (d + 1) cs ds (f :: fs)).run P w = .ok (r && b') w := by
      intro u v r zs zs' ks' b' hp hu hv hr g1 g2 g3 g4
      have ih := run_eqV d fs (off + 1) ks' zs zs' b' cs ds g1 g2 g3 g4
      unfold Op.eqFields
      rw [if_pos hn, ho]
      simp only [Sem.run_bind, run_part_plain w hp hu, Result.andThen_ok, run_part_plain w hp hv, hr]
      cases r
      · simp
      · simpa using ih
    split at h1
    · rename_i kd hu
      cases he : eqL P fs (off + 1) with
      | none => rw [he] at h1; simp at h1
      | some ks' =>
        rw [he] at h1
        simp at h1
        subst h1
        unfold eqV at h2
        split at h2
        · (exfalso; simp_all; done)
        · rename_i k a xs' k' b' ys' h
          cases h
          obtain ⟨u, c1, c2, c3⟩ := cell _ _ _ hx
          obtain ⟨v, d1, d2, d3⟩ := cell _ _ _ hy
          simp only [VR, DR] at c2 d2
          subst c2 d2
          split at h2
          · rename_i hk
            subst hk
            obtain ⟨b1, hb, rfl⟩ := Option.map_eq_some_iff.1 h2
            refine go _ _ (decide (a = b')) xs' ys' _ b1 (by unfold Program.plainKey; rw [hu]) c1 d1 ?_ he hb c3 d3
            rw [run_equalIn_int w d f.type k kd a b' hu]
            congr 1
          · cases h2
        · (exfalso; simp_all; done)
        · (exfalso; simp_all; done)
        · cases h2
    · rename_i hu
      cases he : eqL P fs (off + 1) with
      | none => rw [he] at h1; simp at h1
      | some ks' =>
        rw [he] at h1
        simp at h1
        subst h1
        unfold eqV at h2
        split at h2
        · (exfalso; simp_all; done)
        · (exfalso; simp_all; done)
        · rename_i a xs' b' ys' h
          cases h
          obtain ⟨u, c1, c2, c3⟩ := cell _ _ _ hx
          obtain ⟨v, d1, d2, d3⟩ := cell _ _ _ hy
          simp only [VR, DR] at c2 d2
          subst c2 d2
          obtain ⟨b1, hb, rfl⟩ := Option.map_eq_some_iff.1 h2
          refine go _ _ (decide (a.data.toList = b'.data.toList)) xs' ys' _ b1 (by unfold Program.plainKey; rw [hu]) c1 d1 ?_ he hb c3 d3
          rw [run_equalIn_string w d f.type a b' hu, ByteArray.toList_eq, ByteArray.toList_eq, Bool.beq_eq_decide_eq]
        · (exfalso; simp_all; done)
        · cases h2
    · rename_i hu
      cases he : eqL P fs (off + 1) with
      | none => rw [he] at h1; simp at h1
      | some ks' =>
        rw [he] at h1
        simp at h1
        subst h1
        unfold eqV at h2
        split at h2
        · (exfalso; simp_all; done)
        · (exfalso; simp_all; done)
        · (exfalso; simp_all; done)
        · rename_i a xs' b' ys' h
          cases h
          obtain ⟨u, c1, c2, c3⟩ := cell _ _ _ hx
          obtain ⟨v, d1, d2, d3⟩ := cell _ _ _ hy
          simp only [VR, DR] at c2 d2
          subst c2 d2
          obtain ⟨b1, hb, rfl⟩ := Option.map_eq_some_iff.1 h2
          refine go _ _ (decide (a = b')) xs' ys' _ b1 (by unfold Program.plainKey; rw [hu]) c1 d1 ?_ he hb c3 d3
          rw [run_equalIn_bool w d f.type a b' hu]
          cases a <;> cases b' <;> rfl
        · cases h2
    · cases h1
theorem run_bin {op : BinOp} {t : TypeId} {x y : V} {u v : Value} {K : V → Prop} (h : bin P op t x y K) (hu : VR F σ μ w x u) (hv : VR F σ μ w y v) (ox oy : Operand) :
    ∃ z r, K z ∧ (do eqGuard op t ox oy u v; binOp op t u v : Sem Value).run P w = .ok r w ∧ VR F σ μ w z r := by
  have guard : (∀ cs ds, ¬ (u = .agg cs ∧ v = .agg ds)) → (¬ (u = .nilIface ∧ v = .nilIface)) → (eqGuard op t ox oy u v).run P w = .ok () w := by
    intro h1 h2
    unfold eqGuard
    cases op <;> (try simp) <;> (cases u <;> (try simp) <;> (cases v <;> simp_all))
  have close : (eqGuard op t ox oy u v).run P w = .ok () w → (∃ z r, K z ∧ (binOp op t u v).run P w = .ok r w ∧ VR F σ μ w z r) →
      ∃ z r, K z ∧ (do eqGuard op t ox oy u v; binOp op t u v : Sem Value).run P w = .ok r w ∧ VR F σ μ w z r := fun hg ⟨z, r, hz, hr, hzr⟩ => ⟨z, r, hz, by simp [Sem.run_bind, hg, hr], hzr⟩
  unfold bin at h
  split at h
  · rename_i k a k' b
    simp only [VR, DR] at hu hv
    subst hu; subst hv
    refine close (guard (by simp) (by simp)) ?_
    split at h
    · exact run_shf h
    · obtain ⟨rfl, h⟩ := h
      exact run_ibin h
  · simp only [VR, DR] at hu hv
    subst hu; subst hv
    exact close (guard (by simp) (by simp)) (run_sbin h)
  · rename_i a b
    simp only [VR, DR] at hu hv
    subst hu; subst hv
    obtain ⟨ht, h⟩ := h
    have hb : P.underlying t = some .bool := by unfold isB at ht; split at ht <;> simp_all
    have e : (a == b) = decide (a = b) := by cases a <;> cases b <;> rfl
    exact close (guard (by simp) (by simp)) (run_eqn h rfl rfl fun d => by simp [Op.equalIn, run_underlying hb, e])
  · rename_i i off
    simp only [VR, DR] at hv
    subst hv
    simp only [VR] at hu
    obtain ⟨b, T, cs, _, _, rfl⟩ := hu
    obtain ⟨ht, h⟩ := h
    obtain ⟨e, hb⟩ : ∃ e, P.underlying t = some (.pointer e) := by unfold isP at ht; split at ht <;> simp_all
    exact close (guard (by simp) (by simp)) (run_eqn h rfl rfl fun d => by simp [Op.equalIn, run_underlying hb])
  · simp only [VR, DR] at hu hv
    subst hu; subst hv
    obtain ⟨ht, h⟩ := h
    obtain ⟨e, hb⟩ : ∃ e, P.underlying t = some (.pointer e) := by unfold isP at ht; split at ht <;> simp_all
    exact close (guard (by simp) (by simp)) (run_eqn h rfl rfl fun d => by simp [Op.equalIn, run_underlying hb])
  · simp only [VR, DR] at hv
    subst hv
    simp only [VR] at hu
    obtain ⟨a1, a2, rfl, _, _⟩ := hu
    obtain ⟨ht, h⟩ := h
    obtain ⟨e1, e2, e3, hb⟩ : ∃ e1 e2 e3, P.underlying t = some (.func e1 e2 e3) := by unfold isF at ht; split at ht <;> simp_all
    exact close (guard (by simp) (by simp)) (run_eqn h rfl rfl fun d => by simp [Op.equalIn, run_underlying hb])
  · simp only [VR, DR] at hu hv
    subst hu; subst hv
    obtain ⟨ht, h⟩ := h
    obtain ⟨e1, e2, e3, hb⟩ : ∃ e1 e2 e3, P.underlying t = some (.func e1 e2 e3) := by unfold isF at ht; split at ht <;> simp_all
    exact close (guard (by simp) (by simp)) (run_eqn h rfl rfl fun d => by simp [Op.equalIn, run_underlying hb])
  · rename_i n ys
    simp only [VR, DR] at hu hv
    subst hv
    obtain ⟨A, cap, rfl, _, hd⟩ := hu
    obtain ⟨ht, h⟩ := h
    obtain ⟨⟨e, sz, by_⟩, ht⟩ := Option.isSome_iff_exists.1 ht
    have hb := (sliT_ok ht).1
    refine close (guard (by simp) (by simp)) (run_eqn (h A.isNone fun hA => ?_) rfl rfl fun d => by cases A <;> simp [Op.equalIn, run_underlying hb])
    rcases hd with ⟨_, h0⟩ | ⟨b, off, vs, rfl, _⟩
    · exact h0
    · simp at hA
  · rename_i xs ys
    simp only [VR] at hu hv
    obtain ⟨cs, rfl, hu⟩ := hu
    obtain ⟨ds, rfl, hv⟩ := hv
    obtain ⟨ks, b, ht, hb, h⟩ := h
    unfold eqT at ht
    split at ht
    case h_2 => cases ht
    rename_i fs hus
    split at ht
    case isFalse => cases ht
    rename_i hh
    have hfo : P.fieldsOf t = fs := by unfold Program.fieldsOf; rw [hus]
    refine close (run_eqGuard_agg w op t ox oy cs ds hh.2) (run_eqn' h rfl rfl ?_)
    show (Op.equalIn (9998 + 1 + 1) t (.agg cs) (.agg ds)).run P w = _
    rw [run_equalIn_struct w (9998 + 1) t cs ds (by rw [hfo]; exact hus) hh.1, hfo]
    exact run_eqV 9998 fs.toList 0 ks xs ys b cs ds ht hb (by simpa using hu) (by simpa using hv)
  · exact h.elim
end
end Go.AW
namespace Go.AW
open Go
def onB (x : V) (K : Bool → Prop) : Prop := match x with | .d (.s (.bool b)) => K b | _ => False
def onI (x : V) (K : IntKind → Int → Prop) : Prop := match x with | .d (.s (.int k n)) => K k n | _ => False
def strD (s : ByteArray) : List D := s.data.toList.map fun b => .s (.int .u8 b.toNat)
def toDs : List V → Option (List D)
  | [] => some []
  | .d x :: xs => (toDs xs).map (x :: ·)
  | _ => none
def elems (σ : List Ob) (x : V) : Option (Nat × List D) :=
  match x with
  | .d (.l m ys) => some (m, ys)
  | .d (.s (.slice none 0 0)) => some (0, [])
  | .o j m => match σ[j]? with | some (.row _ _ n cs) => if m = n then some (m, cs) else none | _ => none
  | .b j off m => match σ[j]? with | some (.box _ cs) => (toDs ((cs.drop off).take m)).map fun l => (m, l) | _ => none
  | _ => none
def srcOf (P : Program) (u : TypeId) (sz : Nat) (σ : List Ob) (x : V) : Option (Nat × List D) :=
  match x with
  | .d (.s (.string s)) => if isS P u = true ∧ sz = 1 then some (s.size, strD s) else none
  | x => if (sliT P u).isSome = true then elems σ x else none
def fldOff (P : Program) (t : TypeId) (j : Nat) : Option Nat :=
  match P.underlying t with
  | some (.struct fs) => match fs[j]? with
    | some f => match P.info? f.type with
      | some i => if i.size = 0 then none else some f.offset
      | none => none
    | none => none
  | _ => none
def arrT (P : Program) (t : TypeId) : Option (Nat × Nat) :=
  match P.underlying t with
  | some (.array n e) => match P.info? e with
    | some i => if 2 ≤ n then some (n, i.size) else none
    | none => none
  | _ => none
def arrS (P : Program) (t : TypeId) : Option Nat :=
  match P.underlying t with
  | some (.array n e) => if shp P e = some none then some n else none
  | _ => none
def zr (P : Program) (t : TypeId) : Option (List Value) :=
  match P.info? t with
  | some i => match i.zero with
    | some z => some z.cells.toList
    | none => none
  | none => none
def add (x : V) (n : Nat) (K : V → Prop) : Prop :=
  match x with
  | .p i off => K (.p i (off + n))
  | .e i m off => K (.e i m (off + n))
  | .c xs => K (.c (xs.drop n))
  | _ => False
def srcB (σ : List Ob) (x : V) : Option (Nat × List V) :=
  match x with
  | .b j off m => match σ[j]? with | some (.box _ cs) => some (m, cs.drop off) | _ => none
  | .g j m => match σ[j]? with | some (.box _ cs) => some (m, cs) | _ => none
  | _ => none
def apB (P : Program) (σ : List Ob) (Q : V → List Ob → Prop) (i off n : Nat) (x : V) (t u : TypeId) : Prop :=
  ∃ e sz by_ m ys T' cs, sliT P t = some (e, sz, by_) ∧ (sliT P u).isSome = true ∧ srcB σ x = some (m, ys) ∧ σ[i]? = some (.box T' cs) ∧ 0 < m ∧ m * sz ≤ ys.length ∧ off + n * sz ≤ cs.length ∧ (n + m) * by_ ≤ 140737488355328 ∧
    Q (.g σ.length (n + m)) (σ ++ [.box e ((cs.drop off).take (n * sz) ++ ys.take (m * sz))])
def ao (P : Program) (T : Tm) (σ : List Ob) (Q : V → List Ob → Prop) (op : Op) : Prop :=
  match op with
  | .move x => Q (ev T x) σ
  | .assign x => Q (ev T x) σ
  | .pick c a b => onB (ev T c) fun t => Q (if t = true then ev T a else ev T b) σ
  | .binOp op t x y _ => bin P op t (ev T x) (ev T y) fun z => Q z σ
  | .unOp .not _ x => onB (ev T x) fun b => Q (bv (!b)) σ
  | .unOp .neg _ x => onI (ev T x) fun k n => Q (iv k (k.wrap (0 - n))) σ
  | .unOp .xor _ x => onI (ev T x) fun k n => Q (iv k (bitI .xor k (if k.signed = true then -1 else k.max) n)) σ
  | .convert s d x => match ev T x with
    | .d (.s (.int _ n)) => ∃ k, isK P s = true ∧ intT P d = some k ∧ Q (iv k (k.wrap n)) σ
    | .d (.s (.string b)) => isK P s = true ∧ isS P d = true ∧ Q (sv b) σ
    | x => ∃ e sz by_ n l, sliT P s = some (e, sz, by_) ∧ intT P e = some .u8 ∧ isS P d = true ∧ elems σ x = some (n, l) ∧ ∃ ns : List Int, l = ns.map (fun n => .s (.int .u8 n)) ∧ n = ns.length ∧ Q (sv (strOfNums ns)) σ
  | .index t x i => match ev T x, ev T i with
    | .d (.s (.string s)), .d (.s (.int _ n)) => isS P t = true ∧ (0 ≤ n ∧ n < s.size) ∧ Q (iv .u8 (s.data.toList.getD n.toNat 0).toNat) σ
    | .a cs, .d (.s (.int _ n)) => ∃ m y, arrS P t = some m ∧ cs[n.toNat]? = some y ∧ (0 ≤ n ∧ n < m) ∧ Q y σ
    | _, _ => False
  | .nilCheck x => match ev T x with
    | .p i off => Q (.p i off) σ
    | .e i n off => Q (.e i n off) σ
    | .c xs => Q (.c xs) σ
    | .f (.func g) a b => Q (.f (.func g) a b) σ
    | _ => False
  | .fieldAddr t x j => ∃ n, fldOff P t j = some n ∧ add (ev T x) n fun z => Q z σ
  | .indexAddr t x i => onI (ev T i) fun _ n => match ev T x with
    | .d (.l m ys) => ∃ e sz by_, sliT P t = some (e, sz, by_) ∧ (0 ≤ n ∧ n < m) ∧ Q (.c (ys.drop (n.toNat * sz))) σ
    | .o j m => ∃ e sz by_ cs, sliT P t = some (e, sz, by_) ∧ σ[j]? = some (.row e sz m cs) ∧ (0 ≤ n ∧ n < m) ∧ Q (.e j m (n.toNat * sz)) σ
    | .p j off => ∃ m sz, arrT P t = some (m, sz) ∧ (0 ≤ n ∧ n < m) ∧ Q (.p j (off + n.toNat * sz)) σ
    | .b j off m => ∃ e sz by_, sliT P t = some (e, sz, by_) ∧ (0 ≤ n ∧ n < m) ∧ Q (.p j (off + n.toNat * sz)) σ
    | .g j m => ∃ e sz by_, sliT P t = some (e, sz, by_) ∧ (0 ≤ n ∧ n < m) ∧ Q (.p j (n.toNat * sz)) σ
    | _ => False
  | .load t x => ∃ y, rdx P t σ (ev T x) = some y ∧ Q y σ
  | .store t a x => match ev T a with
    | .p i off => ∃ T' cs, σ[i]? = some (.box T' cs) ∧ wid P t = some (flat (ev T x)).length ∧ off + (flat (ev T x)).length ≤ cs.length ∧ ones (flat (ev T x)) = true ∧ Q (.t []) (σ.set i (.box T' (setAt cs off (flat (ev T x)))))
    | .e i n off => ∃ E sz cs ys, σ[i]? = some (.row E sz n cs) ∧ toDs (flat (ev T x)) = some ys ∧ wid P t = some ys.length ∧ off + ys.length ≤ cs.length ∧ onesD ys = true ∧ Q (.t []) (σ.set i (.row E sz n (setAt cs off ys)))
    | _ => False
  | .alloc t => ∃ z, zr P t = some z ∧ Q (.p σ.length 0) (σ ++ [.box t (z.map fun v => .d (.s v))])
  | .box t x => ones (flat (ev T x)) = true ∧ Q (.p σ.length 0) (σ ++ [.box t (flat (ev T x))])
  | .build t ps => ∃ zs pl cs, plc P t = some (zs, pl) ∧ fillV (zs.map fun v => .d (.s v)) pl (ps.toList.map fun p => (p.1, ev T p.2)) = some cs ∧ Q (.a cs) σ
  | .buildSlice t n ps => if ps.size = 0 then n = 0 ∧ ∃ e sz by_, sliT P t = some (e, sz, by_) ∧ Q (.o σ.length 0) (σ ++ [.row e sz 0 []]) else ∃ e sz by_ cs, sliT P t = some (e, sz, by_) ∧ n = ps.size ∧ ps.size * sz ≤ 16777216 ∧ buildCells sz 0 (ps.toList.map fun p => (p.1, ev T p.2)) = some cs ∧ (match toDs cs with | some ys => Q (.d (.l n ys)) σ | none => Q (.b σ.length 0 n) (σ ++ [.box e cs]))
  | .makeSlice t l c => onI (ev T l) fun _ a => onI (ev T c) fun _ b => ∃ e by_ z, sliT P t = some (e, 1, by_) ∧ zr P e = some [z] ∧ (0 ≤ a ∧ b = a ∧ (by_ : Int) * a ≤ 281474976710656) ∧ Q (.o σ.length a.toNat) (σ ++ [.row e 1 a.toNat (List.replicate a.toNat (.s z))])
  | .slice t x lo hi none => match ev T x with
    | .d (.s (.string s)) => isS P t = true ∧
      (match lo, hi with
       | none, none => Q (sv s) σ
       | some l, none => onI (ev T l) fun _ a => (0 ≤ a ∧ a ≤ s.size) ∧ Q (sv (s.extract a.toNat s.size)) σ
       | none, some h => onI (ev T h) fun _ b => (0 ≤ b ∧ b ≤ s.size) ∧ Q (sv (s.extract 0 b.toNat)) σ
       | some l, some h => onI (ev T l) fun _ a => onI (ev T h) fun _ b => (0 ≤ a ∧ a ≤ b ∧ b ≤ s.size) ∧ Q (sv (s.extract a.toNat b.toNat)) σ)
    | .d (.l n ys) => ∃ e sz by_, sliT P t = some (e, sz, by_) ∧
      (match lo, hi with
       | some l, none => onI (ev T l) fun _ a => (0 ≤ a ∧ a ≤ n) ∧ ys.length = n * sz ∧ Q (.d (.l (n - a.toNat) (ys.drop (a.toNat * sz)))) σ
       | none, some h => onI (ev T h) fun _ b => (0 ≤ b ∧ b ≤ n) ∧ Q (.d (.l b.toNat (ys.take (b.toNat * sz)))) σ
       | some l, some h => onI (ev T l) fun _ a => onI (ev T h) fun _ b => (0 ≤ a ∧ a ≤ b ∧ b ≤ n) ∧ Q (.d (.l (b.toNat - a.toNat) ((ys.drop (a.toNat * sz)).take ((b.toNat - a.toNat) * sz)))) σ
       | none, none => ys.length = n * sz ∧ Q (.d (.l n ys)) σ)
    | .p i off => off = 0 ∧ ∃ m, arrS P t = some m ∧
      (match lo, hi with
       | some l, none => onI (ev T l) fun _ a => (0 ≤ a ∧ a < m) ∧ Q (.b i a.toNat (m - a.toNat)) σ
       | none, none => 0 < m ∧ Q (.b i 0 m) σ
       | _, _ => False)
    | _ => False
  | .extract x j => match ev T x with
    | .t vs => ∃ v, vs[j]? = some v ∧ Q v σ
    | _ => False
  | .field t x j => match ev T x with
    | .a cs => ∃ n f, fldOff P t j = some n ∧ fldT P t j = some f ∧ ∃ y, rdV P f (cs.drop n) = some y ∧ Q y σ
    | _ => False
  | .makeFunc fn fi ca => Q (.f fn (fi.toList.map (ev T)) (ca.toList.map (ev T))) σ
  | .call { callee := .builtin .len, args, argTypes } => match args.toList, argTypes.toList with
    | [x], [t] => match ev T x with
      | .d (.s (.string s)) => isS P t = true ∧ Q (iv .i64 s.size) σ
      | .d (.l n _) => (sliT P t).isSome = true ∧ Q (iv .i64 n) σ
      | .d (.s (.slice none 0 0)) => (sliT P t).isSome = true ∧ Q (iv .i64 0) σ
      | .o _ n => (sliT P t).isSome = true ∧ Q (iv .i64 n) σ
      | .b _ _ n => (sliT P t).isSome = true ∧ Q (iv .i64 n) σ
      | .g _ n => (sliT P t).isSome = true ∧ Q (iv .i64 n) σ
      | _ => False
    | _, _ => False
  | .call { callee := .builtin .append, args, argTypes } => match args.toList, argTypes.toList with
    | [s, x], [t, u] => match ev T s with
      | .b i off n => apB P σ Q i off n (ev T x) t u
      | s' => ∃ e sz by_ m ys, sliT P t = some (e, sz, by_) ∧ srcOf P u sz σ (ev T x) = some (m, ys) ∧ ys.length = m * sz ∧ onesD ys = true ∧
        (match s' with
         | .o i n => ∃ cs, σ[i]? = some (.row e sz n cs) ∧ (n + m) * by_ ≤ 140737488355328 ∧ Q (.o i (n + m)) (σ.set i (.row e sz (n + m) (cs ++ ys)))
         | .d (.s (.slice none 0 0)) => m * by_ ≤ 140737488355328 ∧ Q (.o σ.length m) (σ ++ [.row e sz m ys])
         | _ => False)
    | _, _ => False
  | .call { callee := .builtin .copy, args, argTypes } => match args.toList, argTypes.toList with
    | [d, s], [t, _] => ∃ e by_, sliT P t = some (e, 1, by_) ∧
      (match ev T d, ev T s with
       | .b i off n, .d (.s (.string x)) => ∃ T' cs, σ[i]? = some (.box T' cs) ∧ (x.size ≤ n ∧ off + x.size ≤ cs.length) ∧ Q (iv .i64 x.size) (σ.set i (.box T' (setAt cs off ((strD x).map .d))))
       | _, _ => False)
    | _, _ => False
  | .call { callee := .builtin .min, args, .. } => match args.toList with
    | [x, y] => onI (ev T x) fun k a => onI (ev T y) fun _ b => Q (iv k (if b < a then b else a)) σ
    | _ => False
  | .call { callee := .builtin .max, args, .. } => match args.toList with
    | [x, y] => onI (ev T x) fun k a => onI (ev T y) fun _ b => Q (iv k (if b > a then b else a)) σ
    | _ => False
  | _ => False
where
  fldT (P : Program) (t : TypeId) (j : Nat) : Option TypeId :=
    match P.underlying t with
    | some (.struct fs) => (fs[j]?).map (·.type)
    | _ => none
end Go.AW
