/-
  The calculus: a law's arguments.
-/
import Derived.Test.YtiiacdheopdooaaAwEntry
import Derived.WideShapes
namespace Go.AW
open Go Go.RowKit

section
variable {H : Type} {enc : TypeId × Value → H} {P : Program} {w : World} {t : TypeId} {F : Nat → Prop} {σ : List Ob} {μ : List Value}

theorem VR_one {x : D} {v : Value} (h : DRs F w [x] [v]) : VR F σ μ w (.d x) v := by
  simp only [DRs] at h
  obtain ⟨v', us, e, h1, rfl⟩ := h
  obtain ⟨rfl, _⟩ := List.cons.inj e
  exact h1
theorem VR_agg {xs : List D} {cs : Array Value} (h : DRs F w xs cs.toList) : VR F σ μ w (.a (xs.map .d)) (.agg cs) := by
  refine ⟨cs, rfl, ?_⟩
  have : ∀ (xs : List D) (vs : List Value), DRs F w xs vs → VRs F σ μ w (xs.map .d) vs := by
    intro xs
    induction xs with
    | nil => intro vs h; simpa [DRs, VRs] using h
    | cons x xs ih =>
      intro vs h
      simp only [DRs] at h
      obtain ⟨v, us, rfl, h1, h2⟩ := h
      exact ⟨v, us, rfl, h1, ih us h2⟩
  exact this xs _ h
theorem okWide_agg {r : Reach} {base : Nat} {v : Value} {fs : Array Field} (ht : P.underlying t = some (.struct fs)) (h : Value.okWide P w r base t v) : ∃ cs, v = .agg cs := by
  unfold Value.okWide at h
  rw [ht] at h
  obtain ⟨cs, h, _⟩ := h
  exact ⟨cs, h⟩

theorem wf_i64 {n : Int} (h : (Lit.int .i64 n).wf = true) : -9223372036854775808 ≤ n ∧ n ≤ 9223372036854775807 := by
  simp [Lit.wf, IntKind.min, IntKind.max, IntKind.bits, IntKind.signed] at h
  omega
theorem wf_u64 {n : Int} (h : (Lit.int .u64 n).wf = true) : 0 ≤ n ∧ n ≤ 18446744073709551615 := by
  simp [Lit.wf, IntKind.min, IntKind.max, IntKind.bits, IntKind.signed] at h
  omega
theorem wf_u8 {n : Int} (h : (Lit.int .u8 n).wf = true) : 0 ≤ n ∧ n ≤ 255 := by
  simp [Lit.wf, IntKind.min, IntKind.max, IntKind.bits, IntKind.signed] at h
  omega

/-- A slice's elements, each by its plain form. -/
theorem Rd.list {α : Type} {e sz : Nat} {f : α → List D} {ok : α → Prop} (hu : P.underlying t = some (.slice e)) (hsz : P.cellsOf e = sz) (h0 : 0 < sz) (hS : Rd enc P w e fun xs => ∃ x, xs = f x ∧ ok x) :
    Rd enc P w t fun xs => ∃ l : List α, xs = [.l l.length (l.map f).flatten] ∧ (∀ x ∈ l, ok x) ∧ l.length ≤ maxLen := by
  refine Rd.mono (Rd.slice hu hsz h0 hS) fun xs h => ?_
  obtain ⟨yss, h1, rfl, h2⟩ := h
  suffices H : ∃ l : List α, l.map f = yss ∧ ∀ x ∈ l, ok x by
    obtain ⟨l, rfl, e2⟩ := H
    exact ⟨l, by simp, e2, by simpa using h2⟩
  clear h2
  induction yss with
  | nil => exact ⟨[], rfl, by simp⟩
  | cons ys yss ih =>
    obtain ⟨l, e1, e2⟩ := ih fun z hz => h1 z (List.mem_cons_of_mem _ hz)
    obtain ⟨⟨x, rfl, hx⟩, _⟩ := h1 ys List.mem_cons_self
    refine ⟨x :: l, by simp [e1], fun y hy => ?_⟩
    rcases List.mem_cons.1 hy with rfl | hy
    · exact hx
    · exact e2 y hy
end
end Go.AW
