/-
  vectors that are read: the document's.
-/
import Derived.Test.YtbjdiepceokmkaaVec2
namespace Go.AW
open Go Go.Proofs
set_option maxHeartbeats 2000000
set_option maxRecDepth 10000
set_option linter.unusedSimpArgs false
set_option linter.unusedVariables false
attribute [local irreducible] thenQ blockQ RetQ AL AW AC AOp

theorem Cu.fail_ok0 {c : Cu} (h : c.e = 0) (f : Int) : c.fail f = ⟨c.s, c.a, f⟩ := by unfold Cu.fail; rw [if_pos h]

end Go.AW
