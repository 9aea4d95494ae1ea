/-
  Objects: how the laws' arguments are read.
-/
import Derived.Test.YtbjdiepceokmkaaGreatReads15
import Derived.Test.YtbjdiepceokmkaaGreatObj1
namespace Go.AW
open Go Go.Proofs Go.RowKit

section
variable {H : Type} {enc : TypeId × Value → H} {w : World}
theorem rd_oj : Rd enc Tryz.prog w 25 fun xs => ∃ o : Oj, xs = [.s (.string ⟨o.key.toArray⟩), .l o.sibs.length (sbsD o.sibs)] ∧ o.fits := by
  refine Rd.mono (Rd.struct (Ss := [_, _]) Tryz.underlying25 (by kernel_rfl) ⟨Rd.str Tryz.underlying9, rd_sbs, trivial⟩) fun xs h => ?_
  obtain ⟨_, _, ⟨t, rfl, ht⟩, ⟨_, _, ⟨l, rfl, h1, h2⟩, rfl, rfl⟩, rfl⟩ := h
  exact ⟨⟨t, l⟩, rfl, ht, h1, h2⟩
end

end Go.AW
