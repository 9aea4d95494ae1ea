/-
  The calculus: each operation that the program uses, told over data.
-/
import Derived.Test.YtiiacdheopdooaaAwMem
import Derived.Laws.AppendOwn
import Derived.Lib.AppendStr
import Derived.Lib.ConvBytes
namespace Go.AW
open Go

/-- A text out of its bytes. -/
abbrev bs (l : List UInt8) : ByteArray := ⟨l.toArray⟩

/-- A type's shape: no row (one cell), or a row of so many cells. -/
def shp (P : Program) (t : TypeId) : Option (Option Nat) :=
  match P.underlying t, P.info? t with
  | some d, some i => if d.isRow then some (some i.size) else if i.size = 1 then some none else none
  | _, _ => none

def V.one : V → Bool
  | .d (.s v) => v.oneCell'
  | .d (.l _ _) => true
  | .p _ _ => true
  | .c _ => true
  | .o _ _ => true
  | .e _ _ _ => true
  | .f _ _ _ => true
  | _ => false

def setAt {α : Type} : List α → Nat → List α → List α
  | cs, _, [] => cs
  | cs, off, y :: ys => setAt (cs.set off y) (off + 1) ys

def flat : V → List V
  | .a ys => ys
  | x => [x]

def rdV (P : Program) (t : TypeId) (cs : List V) : Option V :=
  match shp P t with
  | some (some sz) => if (cs.take sz).length = sz then some (.a (cs.take sz)) else none
  | some none => cs.head?
  | none => none
def rdD (P : Program) (t : TypeId) (xs : List D) : Option V :=
  match shp P t with
  | some (some sz) => if (xs.take sz).length = sz then some (.a ((xs.take sz).map .d)) else none
  | some none => xs.head?.map .d
  | none => none

def rdx (P : Program) (t : TypeId) (σ : List Ob) : V → Option V
  | .p i off => match σ[i]? with | some (.box _ cs) => rdV P t (cs.drop off) | _ => none
  | .e i n off => match σ[i]? with | some (.row _ _ m cs) => if n = m then rdD P t (cs.drop off) else none | _ => none
  | .c xs => rdD P t xs
  | _ => none

section
variable {P : Program} {F : Nat → Prop} {σ : List Ob} {μ : List Value} {w : World}

theorem shp_row {t sz : Nat} (h : shp P t = some (some sz)) : ∃ d, P.underlying t = some d ∧ d.isRow = true ∧ (P.info? t).map (·.size) = some sz := by
  unfold shp at h
  split at h
  · rename_i d i hd hi
    split at h
    · rename_i hr
      exact ⟨d, hd, hr, by simp [hi]; simpa using h⟩
    · split at h <;> simp at h
  · simp at h

theorem shp_one {t : Nat} (h : shp P t = some none) : ∃ d i, P.underlying t = some d ∧ d.isRow = false ∧ P.info? t = some i ∧ i.size = 1 := by
  unfold shp at h
  split at h
  · rename_i d i hd hi
    split at h
    · simp at h
    · rename_i hr
      split at h
      · rename_i h1
        exact ⟨d, i, hd, by simpa using hr, hi, h1⟩
      · simp at h
  · simp at h

theorem run_isAgg_one {t : Nat} {d : TypeDesc} (hu : P.underlying t = some d) (hd : d.isRow = false) : (isAgg t).run P w = .ok false w := by
  unfold isAgg
  rw [Sem.run_bind, run_underlying hu w]
  cases d <;> simp_all

theorem run_loadVar_one {t b o : Nat} {v : Value} (h : shp P t = some none) (hc : w.cell? ⟨b, o, none⟩ = some v) : (loadVar t ⟨b, o, none⟩).run P w = .ok v w := by
  obtain ⟨d, i, hu, hd, _, _⟩ := shp_one h
  simp [loadVar, Sem.run_bind, run_isAgg_one hu hd, load, Sem.run, hc]

theorem rangeAt_drop {b o : Nat} {vs : List Value} (h : w.rangeAt b o vs) (n : Nat) : w.rangeAt b (o + n) (vs.drop n) := fun j v hv => by
  rw [List.getElem?_drop] at hv
  rw [show o + n + j = o + (n + j) from by omega]
  exact h (n + j) v hv

theorem rangeAt_take {b o : Nat} {vs : List Value} (h : w.rangeAt b o vs) (n : Nat) : w.rangeAt b o (vs.take n) := fun j v hv => by
  rw [List.getElem?_take] at hv
  split at hv
  · exact h j v hv
  · simp at hv

theorem rangeAt_block {b : Nat} {arr : Array Value} {T : TypeId} {fr : Nat × Nat} (h : w.heap[b]? = some (.cells arr T fr)) : w.rangeAt b 0 arr.toList := fun j v hv => by
  rw [cell_of_row w b (0 + j) arr T fr h]
  simpa using hv

/-- A read out of cells. -/
theorem run_rdV {t b o : Nat} {cs : List V} {vs : List Value} {x : V} (h : rdV P t cs = some x) (hv : VRs F σ μ w cs vs) (hr : w.rangeAt b o vs) :
    ∃ v, (loadVar t ⟨b, o, none⟩).run P w = .ok v w ∧ VR F σ μ w x v := by
  unfold rdV at h
  split at h
  · rename_i sz hs
    split at h
    · rename_i hl
      obtain rfl := Option.some.inj h
      obtain ⟨d, hu, hd, hi⟩ := shp_row hs
      have ht := VRs.take hv sz
      refine ⟨_, run_loadVar_mid w b o t (vs.take sz) d (rangeAt_take hr sz) hu hd ?_, ?_⟩
      · rw [hi, VRs.length ht, hl]
      · exact ⟨_, rfl, by simpa using ht⟩
    · simp at h
  · rename_i hs
    cases cs with
    | nil => simp at h
    | cons y ys =>
      simp at h
      subst h
      simp only [VRs] at hv
      obtain ⟨v, us, rfl, h1, _⟩ := hv
      exact ⟨v, run_loadVar_one hs (hr 0 v rfl), h1⟩
  · simp at h

theorem run_rdD {t b o : Nat} {xs : List D} {vs : List Value} {x : V} (h : rdD P t xs = some x) (hv : DRs F w xs vs) (hr : w.rangeAt b o vs) :
    ∃ v, (loadVar t ⟨b, o, none⟩).run P w = .ok v w ∧ VR F σ μ w x v := by
  refine run_rdV (cs := xs.map .d) (vs := vs) ?_ (DRs.toV hv) hr
  unfold rdD at h
  unfold rdV
  split at h
  · rename_i sz hs
    split at h
    · rename_i hl
      obtain rfl := Option.some.inj h
      have : ((xs.map V.d).take sz).length = sz := by simpa [List.length_take] using hl
      rw [if_pos this, List.map_take]
    · simp at h
  · cases xs <;> simp_all
  · simp at h

theorem row_range {base e size : Nat} {h : Value} {n : Nat} {xs : List Value} (hw : w.ownsRow base e size h n xs) {b : Nat} (hb : h.ownBlock = some b) : w.rangeAt b 0 xs := fun j v hv => by
  rcases hw.2 with ⟨rfl, _⟩ | ⟨g, cap, cur, rfl, _, hg, _, _, _, ht⟩
  · simp [Value.ownBlock] at hb
  · simp [Value.ownBlock] at hb
    subst hb
    rw [cell_of_row w g (0 + j) cur e (0, 0) hg]
    rw [← ht, List.getElem?_take] at hv
    split at hv
    · simpa using hv
    · simp at hv

theorem run_rdx {k B t : Nat} {x y : V} {v : Value} (st : St k B F σ μ w) (h : rdx P t σ x = some y) (hv : VR F σ μ w x v) :
    ∃ u, (Instr.loadAt t v).run P w = .ok u w ∧ VR F σ μ w y u := by
  unfold rdx at h
  split at h
  · rename_i i off
    split at h
    · rename_i T cs hs
      simp only [VR] at hv
      obtain ⟨b, T', cs', h1, h2, rfl⟩ := hv
      obtain ⟨b', arr, e1, e2, e3, _⟩ := st.obj i _ _ hs h2
      simp at e1
      subst e1
      have hr := rangeAt_drop (rangeAt_block e2) off
      rw [Nat.zero_add] at hr
      obtain ⟨u, r, g⟩ := run_rdV h (VRs.drop e3 off) hr
      exact ⟨u, by simp [Instr.loadAt, Instr.sureAddr, r], g⟩
    · simp at h
  · rename_i i n off
    split at h
    · rename_i E sz m cs hs
      split at h
      · rename_i hn
        subst hn
        simp only [VR] at hv
        obtain ⟨E', sz', m', cs', u, b, h1, h2, rfl, h3, h4⟩ := hv
        rw [hs] at h1
        simp at h1
        obtain ⟨rfl, rfl, rfl, rfl⟩ := h1
        obtain ⟨vs, e1, e2, e3⟩ := st.obj i _ _ hs h2
        have hr := rangeAt_drop (row_range e1 (h4 rfl)) off
        rw [Nat.zero_add] at hr
        obtain ⟨u, r, g⟩ := run_rdD h (DRs.drop e2 off) hr
        exact ⟨u, by simp [Instr.loadAt, Instr.sureAddr, r], g⟩
      · simp at h
    · simp at h
  · rename_i xs
    simp only [VR] at hv
    obtain ⟨b, off, vs, rfl, _, _, hc, hd⟩ := hv
    obtain ⟨u, r, g⟩ := run_rdD h hd hc
    exact ⟨u, by simp [Instr.loadAt, Instr.sureAddr, r], g⟩
  · simp at h
end
end Go.AW
