/-
  slices.IndexFunc, slices.ContainsFunc: with whatever closure that only looks.
-/
import Derived.Test.YtidkhiomlljfiaaAwGo
import Derived.Test.YtidkhiomlljfiaaAwSelf
import Derived.Test.YtidkhiomlljfiaaMc
namespace Go.AW
open Go Go.Proofs
set_option maxHeartbeats 2000000
set_option maxRecDepth 10000
set_option linter.unusedSimpArgs false
set_option linter.unusedVariables false
attribute [local irreducible] thenQ blockQ RetQ AL AW AC AOp

/-- The first place of a thing that is so, or -1. -/
def idx {α : Type} (p : α → Bool) : List α → Int → Int
  | [], _ => -1
  | x :: l, i => if p x = true then i else idx p l (i + 1)
theorem idx_any {α : Type} (p : α → Bool) : ∀ (l : List α) (i : Int), 0 ≤ i → decide (0 ≤ idx p l i) = l.any p
  | [], i, h => by simp [idx]
  | x :: l, i, h => by
    unfold idx
    rw [List.any_cons]
    split
    · rename_i hx; simp [hx, h]
    · rename_i hx
      rw [idx_any p l (i + 1) (by omega)]
      have : p x = false := by simpa using hx
      rw [this, Bool.false_or]

end Go.AW
