/-
  objects that are read: the document's; objects that are written; whole texts.
-/
import Derived.Test.YtbjdiepceokmkaaObj2
namespace Go.AW
open Go Go.Proofs
set_option maxHeartbeats 2000000
set_option maxRecDepth 10000
set_option linter.unusedSimpArgs false
set_option linter.unusedVariables false
attribute [local irreducible] thenQ blockQ RetQ AL AW AC AOp

end Go.AW
