/-
  The calculus: a call over the whole store, as it stands (closures, whose captured variables are among the frame's objects).
-/
import Derived.Test.YtidkhiomlljfiaaMb
namespace Go.AW
open Go

section
variable {P : Program} {N k : Nat} {T : Tm} {σ : List Ob}
theorem AOp.cS {T' : Tm} {R Qs : V → List Ob → Prop} {f : FuncId} {fv : Operand} {args : Array Operand} {ts : Array TypeId} {ty : TypeId} {pos : String} {af : Array Edge} {gd : Option (Nat × Bool)} {dst : Option Tmp} {fi ca as : List V}
    (hT : ∀ x ∈ (Op.call { callee := .value fv, args := args, argTypes := ts }).operands, ev T x = ev T' x) (hf : ev T fv = .f (.func f) fi ca) (hc : AC P f as σ Qs) (has : nzs (fi ++ args.toList.map (ev T) ++ ca) = as)
    (h : ∀ y obs, Qs y obs → R y obs) : AOp P N k ⟨dst, .call { callee := .value fv, args := args, argTypes := ts }, ty, pos, af, gd⟩ T' σ R := by
  have e : args.toList.map (ev T) = args.toList.map (ev T') := List.map_congr_left fun x hx => hT x (by simp [Op.operands, Call.operands]; exact .inr (by simpa using hx))
  refine AOp.call (by rw [← hT fv (by simp [Op.operands, Call.operands])]; exact hf) ?_
  rw [← e, has]
  exact hc.mono h
end
end Go.AW
