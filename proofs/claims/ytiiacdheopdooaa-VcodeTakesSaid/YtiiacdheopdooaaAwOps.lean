/-
  The calculus: frames, one operation, what an operation does to frame and store.
-/
import Derived.Test.YtiiacdheopdooaaAwCore
namespace Go.AW
open Go

abbrev Tm := List (Nat × V)

def look : Tm → Nat → V
  | [], _ => .u
  | (n, x) :: T, t => if t = n then x else look T t

def TR (N : Nat) (F : Nat → Prop) (σ : List Ob) (μ : List Value) (w : World) (T : Tm) (tm : Array Value) : Prop :=
  N ≤ tm.size ∧ ∀ t, VR F σ μ w (look T t) (tm.getD t undef)

abbrev cvd (v : Value) : D := .s v
def cv : Value → V
  | .agg cs => .a (cs.toList.map fun v => .d (cvd v))
  | .tuple cs => .t (cs.toList.map fun v => .d (cvd v))
  | v => .d (cvd v)
def ev (T : Tm) : Operand → V
  | .tmp t => look T t
  | .const v => cv v
  | .func f => .f (.func f) [] []
  | .global _ => .u

def put (T : Tm) (dst : Option Tmp) (x : V) : Tm :=
  match dst with
  | some t => (t, x) :: T
  | none => T

section
variable {F : Nat → Prop} {σ : List Ob} {μ : List Value} {w : World}

theorem cvd_ok (v : Value) : DR F w (cvd v) v := rfl

theorem cvs_ok : ∀ l : List Value, VRs F σ μ w (l.map fun v => .d (cvd v)) l
  | [] => by simp [VRs]
  | v :: l => ⟨v, l, rfl, @cvd_ok F w v, cvs_ok l⟩

theorem cv_ok (v : Value) : VR F σ μ w (cv v) v := by
  unfold cv
  split
  · exact ⟨_, rfl, cvs_ok _⟩
  · exact ⟨_, rfl, cvs_ok _⟩
  · exact @cvd_ok F w v

theorem ev_ok {N : Nat} {T : Tm} {a : Act} (h : TR N F σ μ w T a.tmps) (x : Operand) : VR F σ μ w (ev T x) (a.eval x) := by
  cases x with
  | tmp t => exact h.2 t
  | const v => exact cv_ok v
  | func f => exact ⟨#[], #[], rfl, by simp [VRs], by simp [VRs]⟩
  | global g => trivial

theorem evs_ok {N : Nat} {T : Tm} {a : Act} (h : TR N F σ μ w T a.tmps) : ∀ l : List Operand, VRs F σ μ w (l.map (ev T)) (l.map a.eval)
  | [] => by simp [VRs]
  | x :: l => ⟨_, _, rfl, ev_ok h x, evs_ok h l⟩

theorem TR.mono {F' : Nat → Prop} {σ' : List Ob} {μ' : List Value} {w' : World} {N : Nat} {T : Tm} {tm : Array Value} (h : TR N F σ μ w T tm)
    (hm : Mem F w F' w') (hl : μ.length = σ.length) (hk : Keep σ.length σ μ σ' μ') : TR N F' σ' μ' w' T tm :=
  ⟨h.1, fun t => VR.mono hm hl hk _ _ (h.2 t)⟩

def dstOk (N : Nat) : Option Tmp → Bool
  | some t => decide (t < N)
  | none => true

theorem TR.put {N : Nat} {T : Tm} {a : Act} {dst : Option Tmp} {x : V} {v : Value} (h : TR N F σ μ w T a.tmps) (hd : dstOk N dst = true) (hv : VR F σ μ w x v) :
    TR N F σ μ w (put T dst x) (a.put dst v).tmps := by
  cases dst with
  | none => exact h
  | some t =>
    have ht : t < N := by simpa [dstOk] using hd
    have hs : t < a.tmps.size := Nat.lt_of_lt_of_le ht h.1
    refine ⟨by simpa [Act.put] using h.1, fun j => ?_⟩
    simp only [AW.put, look, Act.put]
    by_cases e : j = t
    · subst e
      simp [hs, hv]
    · rw [if_neg e]
      have : (a.tmps.setIfInBounds t v).getD j undef = a.tmps.getD j undef := by
        simp [Array.getD_eq_getD_getElem?, Array.getElem?_setIfInBounds_ne (Ne.symm e)]
      rw [this]
      exact h.2 j

theorem TR.sub {N : Nat} {T T' : Tm} {tm : Array Value} (h : TR N F σ μ w T tm) (hs : ∀ t, look T' t = .u ∨ look T' t = look T t) : TR N F σ μ w T' tm :=
  ⟨h.1, fun t => by
    rcases hs t with e | e
    · rw [e]; trivial
    · rw [e]; exact h.2 t⟩
end

/-- A state that goes on from another one. -/
def Lift (k B : Nat) (F : Nat → Prop) (σ : List Ob) (μ : List Value) (w : World) (Q : V → List Ob → Prop) (v : Value) (w' : World) : Prop :=
  ∃ x F' σ' μ', Q x σ' ∧ Stp k B F σ μ w F' σ' μ' w' ∧ St k B F' σ' μ' w' ∧ Keep σ.length σ μ σ' μ' ∧ VR F' σ' μ' w' x v

/-- One operation. -/
def AOp (P : Program) (N k : Nat) (o : Oper) (T : Tm) (σ : List Ob) (Q : V → List Ob → Prop) : Prop :=
  ∀ B F μ w (a : Act), St k B F σ μ w → TR N F σ μ w T a.tmps → ∀ (next : Act → World → Prop) (X : Exit → Act → World → Prop),
    (∀ v w', Lift k B F σ μ w Q v w' → next (a.put o.dst v) w') → o.wp P a w next X

section
variable {P : Program} {N k : Nat} {o : Oper} {T : Tm} {σ : List Ob} {Q : V → List Ob → Prop}

theorem AOp.mono {Q' : V → List Ob → Prop} (h : AOp P N k o T σ Q) (hq : ∀ x σ', Q x σ' → Q' x σ') : AOp P N k o T σ Q' :=
  fun B F μ w a st tr next X hn => h B F μ w a st tr next X fun v w' ⟨x, F', σ', μ', q, r⟩ => hn v w' ⟨x, F', σ', μ', hq _ _ q, r⟩

theorem Lift.here {B : Nat} {F : Nat → Prop} {μ : List Value} {w : World} {x : V} {v : Value} (st : St k B F σ μ w) (hq : Q x σ) (hv : VR F σ μ w x v) : Lift k B F σ μ w Q v w :=
  ⟨x, F, σ, μ, hq, Stp.refl _ _ _ _ _ _, st, Keep.refl _ _ _, hv⟩

/-- An operation that only computes. -/
theorem AOp.pure (x : V) (hq : Q x σ) (h : ∀ F μ w (a : Act), TR N F σ μ w T a.tmps → ∃ v, (execOp a.eval o).run P w = .ok (.value v) w ∧ VR F σ μ w x v) : AOp P N k o T σ Q := by
  intro B F μ w a st tr next X hn
  obtain ⟨v, hr, hv⟩ := h F μ w a tr
  unfold Oper.wp
  rw [hr]
  exact hn v w (Lift.here st hq hv)
end
end Go.AW
