/-
  The calculus: own rows that nobody writes any more become data; loops over such; strings compared by the runtime.
-/
import Derived.Test.YtidkhiomlljfiaaAwGo
import Derived.Test.YtidkhiomlljfiaaMc
import Derived.Laws.Externs
import Derived.Lib.Bytealg
namespace Go.AW
open Go
set_option linter.unusedVariables false

def fzT (σ : List Ob) (m : Nat) : Tm → Tm
  | [] => []
  | (n, x) :: T => (n, fz σ m x) :: fzT σ m T
attribute [go_sem] fzT
theorem look_fzT (σ : List Ob) (m : Nat) : ∀ (T : Tm) (t : Nat), look (fzT σ m T) t = fz σ m (look T t)
  | [], t => rfl
  | (n, x) :: T, t => by
    simp only [fzT, look]
    split
    · rfl
    · exact look_fzT σ m T t
section
variable {P : Program} {N k : Nat} {T : Tm} {σ : List Ob}
theorem AW.freeze {c : Code} {Q : Ex → Tm → List Ob → Prop} (ts : List Nat) (m : Nat) (hk : k ≤ m) (ho : obsLt m (σ.take m) = true) (ht : tLt m (fzT σ m (keepT T ts)) = true)
    (h : AW P N k c Q (fzT σ m (keepT T ts)) (σ.take m)) : AW P N k c Q T σ := by
  intro B F μ w a st tr hd
  obtain ⟨F', g0, g1, g2, g3⟩ := St.cut st hk ho
  refine wp_mono (h B F' (μ.take m) w a g1 ⟨tr.1, fun t => ?_⟩ hd) (APost.trans g2)
  have hl := look_lt t ht
  rw [look_fzT] at hl ⊢
  refine fz_ok st hk (fun b hb => (g0 b).1 hb) g3 _ _ hl ?_
  rcases look_keepT T ts t with e | e
  · rw [e]; trivial
  · rw [e]; exact tr.2 t

/-- A loop whose slots and store are those of a thing x, up to what is data by then. -/
theorem AW.roundsF {Q : Ex → Tm → List Ob → Prop} {X : Type} {c : Code} (ts : List Nat) (Tf : X → Tm) (σf : X → List Ob) (Pf : X → Prop) (μf : X → Nat) (x0 : X) (h0 : Pf x0) (hT : fzT σ (σf x0).length (keepT T ts) = Tf x0) (hσ : σ.take (σf x0).length = σf x0)
    (hk : ∀ x, Pf x → k ≤ (σf x).length) (ho : ∀ x, Pf x → obsLt (σf x).length (σf x) = true) (ht : ∀ x, Pf x → tLt (σf x).length (Tf x) = true)
    (round : ∀ x, Pf x → ∀ J : Tm → List Ob → Prop, (∀ x' T' σ', μf x' < μf x → Pf x' → fzT σ' (σf x').length (keepT T' ts) = Tf x' → σ'.take (σf x').length = σf x' → J T' σ') → AW P N k c (thenQ J Q) (Tf x) (σf x)) : AW P N k (.loop c) Q T σ := by
  refine AW.loop (fun n T σ => ∃ x, μf x = n ∧ Pf x ∧ fzT σ (σf x).length (keepT T ts) = Tf x ∧ σ.take (σf x).length = σf x) (μf x0) ⟨x0, rfl, h0, hT, hσ⟩ ?_
  rintro n T σ ⟨x, rfl, hp, hT, hσ⟩ J hJ
  refine AW.freeze ts (σf x).length (hk x hp) (by rw [hσ]; exact ho x hp) (by rw [hT]; exact ht x hp) ?_
  rw [hT, hσ]
  exact round x hp J fun x' T' σ' h1 h2 h3 h4 => hJ (μf x') T' σ' h1 ⟨x', rfl, h2, h3, h4⟩

/-- A call of the runtime's comparison of strings. -/
theorem AOp.cmp {Q : V → List Ob → Prop} {f : FuncId} {fn : Func} {x y : Operand} {ts : Array TypeId} {ty : TypeId} {pos : String} {af : Array Edge} {gd : Option (Nat × Bool)} {dst : Option Tmp} {a b : ByteArray}
    (hf : P.funcs[f]? = some fn) (hname : (fn.name == "runtime.NumGoroutine") = false) (hb : fn.body.isNone = true) (hn : Extern.findNext fn = none) (he : Extern.find fn = some Extern.BytealgCompare.compare)
    (h1 : ev T x = sv a) (h2 : ev T y = sv b) (hq : Q (iv .i64 (Go.Lib.compareBytes a.data.toList b.data.toList)) σ) :
    AOp P N k ⟨dst, .call { callee := .value (.func f), args := #[x, y], argTypes := ts }, ty, pos, af, gd⟩ T σ Q :=
  AOp.val fun B F μ w c st tr => by
    have e1 := ev_ok tr x
    have e2 := ev_ok tr y
    rw [h1] at e1
    rw [h2] at e2
    simp only [VR, DR] at e1 e2
    have hr : (callFunc f #[.string a, .string b]).run P w = .ok (.value (.int .i64 (Go.Lib.compareBytes a.data.toList b.data.toList))) w := by
      rw [run_callFunc_extern hf hname hb hn he, Go.Lib.run_compareString]; rfl
    refine ⟨_, .int .i64 (Go.Lib.compareBytes a.data.toList b.data.toList), hq, ?_, rfl⟩
    have e3 : c.eval (.func f) = .func (.func f) #[] #[] := rfl
    simp [execOp, resolve, Deferred.ofValue, invoke, e1, e2, e3, hr]
end
theorem cmp_less : ∀ x y : List UInt8, decide (Go.Lib.compareBytes x y < 0) = lessB x y
  | [], [] => rfl
  | [], b :: y => by
    rw [show lessB [] (b :: y) = true from less_nil_cons b y]; rfl
  | a :: x, [] => by
    rw [show lessB (a :: x) [] = false from less_nil _]; rfl
  | a :: x, b :: y => by
    have ih := cmp_less x y
    unfold lessB at ih ⊢
    rw [less_cons, ← ih, show Go.Lib.compareBytes (a :: x) (b :: y) = if a < b then -1 else if b < a then 1 else Go.Lib.compareBytes x y from rfl]
    by_cases h1 : a < b
    · simp [h1]
    · by_cases h2 : b < a
      · have h3 : (a == b) = false := by
          rw [beq_eq_false_iff_ne]; rintro rfl; exact h1 h2
        simp [h1, h2, h3]
      · have h3 : a = b := UInt8.le_antisymm (UInt8.not_lt.1 h2) (UInt8.not_lt.1 h1)
        subst h3
        simp [h1]
theorem cmp_range (x y : List UInt8) : Go.Lib.compareBytes x y = 0 ∨ Go.Lib.compareBytes x y = 1 ∨ Go.Lib.compareBytes x y = -1 := by
  induction x generalizing y with
  | nil => cases y <;> simp [Go.Lib.compareBytes]
  | cons a x ih =>
    cases y with
    | nil => simp [Go.Lib.compareBytes]
    | cons b y =>
      unfold Go.Lib.compareBytes
      split
      · simp
      split
      · simp
      · exact ih y
end Go.AW
