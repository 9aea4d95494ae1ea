/-
  old objects that are written: the program's and the document's.
-/
import Derived.Test.YtbjdiepceokmkaaGreatLeg1
import Derived.Test.YtbjdiepceokmkaaGreatMc
namespace Go.AW
open Go Go.Proofs
set_option maxHeartbeats 2000000
set_option maxRecDepth 10000
set_option linter.unusedSimpArgs false
set_option linter.unusedVariables false
attribute [local irreducible] thenQ blockQ RetQ AL AW AC AOp

theorem Pe.olds_snoc (p : Pe) (l : List Os1) (x : Os1) : p.olds (l ++ [x]) = (p.olds l).os1 x := by simp [Pe.olds, List.foldl_append]
theorem pens_olds : Pens Pe.olds (fun l => (l.map eos1).flatten) (fun l => ∀ x ∈ l, x.clk.check = 0 ∧ x.val.length ≤ 32768) := pens_os1.fold

end Go.AW
