/-
  Row 16: the laws.
-/
import Derived.Test.YtbjdiepceokmkaaGreatObj4
import Derived.Test.YtbjdiepceokmkaaGreatAwNil
namespace Go.AW
open Go Go.Proofs Go.RowKit
set_option maxHeartbeats 2000000
set_option maxRecDepth 10000
set_option linter.unusedSimpArgs false
set_option linter.unusedVariables false
attribute [local irreducible] thenQ blockQ RetQ AL AW AC AOp

theorem Oj.good_of {o : Oj} (h : o.check = 0) (hf : o.fits) : gobj o := ⟨h, fun x hx => ⟨(hf.2.2 x hx).1.1.2.2, (hf.2.2 x hx).1.2.2⟩⟩
theorem Oj.fits_of {o : Oj} (h : gobj o) : o.fits := by
  obtain ⟨h1, h2⟩ := Oj.check_parts h.1
  obtain ⟨k1, k2, k3, k4⟩ := outside_zero.1 h1
  exact ⟨by omega, by omega, fun x hx => Sb.fits_of ⟨jcheck_parts _ _ h2 x hx, (h.2 x hx).1, (h.2 x hx).2⟩⟩
theorem oj0_fits : oj0.fits := ⟨by decide, by decide, fun x hx => (List.not_mem_nil hx).elim⟩
theorem Oj.w_fits (s : List UInt8) : (objw s).1.fits := by
  by_cases h : (objw s).2 = 0
  · exact Oj.fits_of (rdw_back trip_obj h).1
  · have : (objw s).1 = oj0 := rdw_bad h
    rw [this]; exact oj0_fits
theorem Oj.fits_len {o : Oj} (h : o.fits) : ∀ x ∈ o.sibs, x.clk.ctx.length ≤ 9223372036854775807 ∧ x.meta_.length ≤ 9223372036854775807 := fun x hx => ⟨(h.2.2 x hx).1.1.1, (h.2.2 x hx).2.1.1⟩
theorem Oj.take_fits (c : Cu) : c.obj.1.fits := by
  by_cases h : c.obj.2.e = 0
  · exact Oj.fits_of (trip_obj.back c h).1
  · have : c.obj.1 = oj0 := by unfold Cu.obj at h ⊢; rw [if_pos h]
    rw [this]; exact oj0_fits

end Go.AW
