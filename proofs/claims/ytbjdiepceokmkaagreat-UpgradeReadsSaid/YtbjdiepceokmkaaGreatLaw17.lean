/-
  Row 17: the laws.
-/
import Derived.Test.YtbjdiepceokmkaaGreatLeg7
namespace Go.AW
open Go Go.Proofs Go.RowKit
set_option maxHeartbeats 2000000
set_option maxRecDepth 10000
set_option linter.unusedSimpArgs false
set_option linter.unusedVariables false
attribute [local irreducible] thenQ blockQ RetQ AL AW AC AOp

theorem Od.gold_of {o : Od} (h : o.check = 0) (hf : o.fits) : gold o := ⟨h, fun x hx => (hf.2.2 x hx).1.2.2⟩
theorem Od.fits_of {o : Od} (h : gold o) : o.fits := by
  obtain ⟨h1, h2⟩ := Od.check_parts h.1
  obtain ⟨k1, k2, k3, k4⟩ := outside_zero.1 h1
  refine ⟨by omega, by omega, fun x hx => ?_⟩
  obtain ⟨g1, g2, g3⟩ := (ocheck_parts _ _ h2).1 x hx
  have := Vec.check_len g1
  exact ⟨⟨by omega, fun y hy => Nat.le_trans (this.2 y hy) (by decide), h.2 x hx⟩, by omega⟩
theorem Od.w_fits (s : List UInt8) : (oldw s).1.fits := by
  by_cases h : (oldw s).2 = 0
  · exact Od.fits_of (oldw_back h).1
  · rw [oldw_bad h]; exact ⟨by decide, by decide, fun x hx => (List.not_mem_nil hx).elim⟩

end Go.AW
