/-
  Old objects: how the laws' arguments are read.
-/
import Derived.Test.YtbjdiepceokmkaaGreatReads13
import Derived.Test.YtbjdiepceokmkaaGreatLeg1
namespace Go.AW
open Go Go.Proofs Go.RowKit

section
variable {H : Type} {enc : TypeId × Value → H} {w : World}
theorem rd_os : Rd enc Tryz.prog w 52 fun xs => ∃ x : Os1, xs = osD x ∧ x.fits := by
  refine Rd.mono (Rd.struct (Ss := [_, _, _]) Tryz.underlying52 (by kernel_rfl) ⟨rd_vec, Rd.bool Tryz.underlying4, Rd.str Tryz.underlying9, trivial⟩) fun xs h => ?_
  obtain ⟨_, _, ⟨v, rfl, hv⟩, ⟨_, _, ⟨f, rfl⟩, ⟨_, _, ⟨t, rfl, ht⟩, rfl, rfl⟩, rfl⟩, rfl⟩ := h
  exact ⟨⟨v, f, t⟩, rfl, hv, ht⟩
theorem rd_oss : Rd enc Tryz.prog w 33 fun xs => ∃ l : List Os1, xs = [.l l.length (ossD l)] ∧ l.length ≤ 9223372036854775807 ∧ ∀ k ∈ l, k.fits := by
  refine Rd.mono (Rd.list (f := osD) Tryz.underlying33 (sz := 3) (by kernel_rfl) (by decide) rd_os) fun xs h => ?_
  obtain ⟨l, rfl, h1, h2⟩ := h
  exact ⟨l, rfl, h2, h1⟩
theorem rd_od : Rd enc Tryz.prog w 35 fun xs => ∃ o : Od, xs = [.s (.string ⟨o.key.toArray⟩), .l o.sibs.length (ossD o.sibs)] ∧ o.fits := by
  refine Rd.mono (Rd.struct (Ss := [_, _]) Tryz.underlying35 (by kernel_rfl) ⟨Rd.str Tryz.underlying9, rd_oss, trivial⟩) fun xs h => ?_
  obtain ⟨_, _, ⟨t, rfl, ht⟩, ⟨_, _, ⟨l, rfl, h1, h2⟩, rfl, rfl⟩, rfl⟩ := h
  exact ⟨⟨t, l⟩, rfl, ht, h1, h2⟩
end

end Go.AW
