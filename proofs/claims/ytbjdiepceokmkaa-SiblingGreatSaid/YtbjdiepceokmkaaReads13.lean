/-
  Clocks: how the laws' arguments are read.
-/
import Derived.Test.YtbjdiepceokmkaaReads11
import Derived.Test.YtbjdiepceokmkaaClk4
namespace Go.AW
open Go Go.Proofs Go.RowKit

section
variable {H : Type} {enc : TypeId × Value → H} {w : World}
theorem rd_ck : Rd enc Try.prog w 42 fun xs => ∃ k : Ck, xs = ckD k ∧ k.fits := by
  refine Rd.mono (Rd.struct (Ss := [_, _, _]) Try.underlying42 (by kernel_rfl) ⟨rd_vec, Rd.bool Try.underlying4, rd_en, trivial⟩) fun xs h => ?_
  obtain ⟨_, _, ⟨v, rfl, hv⟩, ⟨_, _, ⟨f, rfl⟩, ⟨_, _, ⟨x, rfl, hx⟩, rfl, rfl⟩, rfl⟩, rfl⟩ := h
  exact ⟨⟨v, f, x⟩, rfl, hv, hx.1, hx.2⟩
theorem rd_cks : Rd enc Try.prog w 157 fun xs => ∃ l : List Ck, xs = [.l l.length (cksD l)] ∧ ∀ k ∈ l, k.fits := by
  refine Rd.mono (Rd.list (f := ckD) Try.underlying157 (sz := 4) (by kernel_rfl) (by decide) rd_ck) fun xs h => ?_
  obtain ⟨l, rfl, h1, h2⟩ := h
  exact ⟨l, rfl, h1⟩
end

end Go.AW
