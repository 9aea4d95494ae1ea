/-
  Row 17: the laws.
-/
import Derived.Test.YtbjdiepceokmkaaLeg7
namespace Go.AW
open Go Go.Proofs Go.RowKit
set_option maxHeartbeats 2000000
set_option maxRecDepth 10000
set_option linter.unusedSimpArgs false
set_option linter.unusedVariables false
attribute [local irreducible] thenQ blockQ RetQ AL AW AC AOp

theorem awake17 : AC Try.prog 8 [] [] fun x σ => x = bv true ∧ σ = [] := by
  have hg : gold ⟨[107], [⟨[([97], 1)], false, [118]⟩]⟩ := ⟨by decide, by simp⟩
  have he : olde ⟨[107], [⟨[([97], 1)], false, [118]⟩]⟩ = ([1, 107, 1, 1, 1, 97, 1, 0, 1, 118], 0) := by
    have h1 : vput 1 = [1] := by rw [vput_small (by decide)]; rfl
    have h2 : eold ⟨[107], [⟨[([97], 1)], false, [118]⟩]⟩ = (vput 1 ++ [107]) ++ (vput 1 ++ (((vput 1 ++ ((((vput 1 ++ [97]) ++ vput 1) ++ []))) ++ ([0] ++ (vput 1 ++ [118]))) ++ [])) := rfl
    rw [h1] at h2
    rw [olde_fit hg.1 (by rw [h2]; decide), h2]; rfl
  refine AC.walk Try.func8 rfl (by decide) (of_decide_eq_true rfl) ?_
  focus (have kxs := he; have kk1 := uL (legacy_Encode ⟨[107], [⟨[([97], 1)], false, [118]⟩]⟩ ⟨by decide, by decide, by simp [Os1.fits, Vec.fits]⟩); (repeat' (first | refine G ?_ | refine AW.ret ?_ | (refine GC ?_ ?_ <;> intro h <;> (try simp only [hsB] at h) <;> try (exfalso; first | omega | contradiction)) | (refine GL ?_ ?_ <;> intro h <;> (try simp only [Bool.not_true, Bool.not_false] at h) <;> (try simp only [h]) <;> (try simp only [hsB] at h) <;> try (exfalso; first | omega | contradiction)) | fail)); all_goals clear kxs kk1)
  all_goals first | ((all_goals first | exact RetQ.fr 0 | exact RetQ.fn 0 | fail); done) | (exfalso; simp_all; done)

theorem Od.gold_of {o : Od} (h : o.check = 0) (hf : o.fits) : gold o := ⟨h, fun x hx => (hf.2.2 x hx).1.2.2⟩
theorem Od.fits_of {o : Od} (h : gold o) : o.fits := by
  obtain ⟨h1, h2⟩ := Od.check_parts h.1
  obtain ⟨k1, k2, k3, k4⟩ := outside_zero.1 h1
  refine ⟨by omega, by omega, fun x hx => ?_⟩
  obtain ⟨g1, g2, g3⟩ := (ocheck_parts _ _ h2).1 x hx
  have := Vec.check_len g1
  exact ⟨⟨by omega, fun y hy => Nat.le_trans (this.2 y hy) (by decide), h.2 x hx⟩, by omega⟩
theorem Od.w_fits (s : List UInt8) : (oldw s).1.fits := by
  by_cases h : (oldw s).2 = 0
  · exact Od.fits_of (oldw_back h).1
  · rw [oldw_bad h]; exact ⟨by decide, by decide, fun x hx => (List.not_mem_nil hx).elim⟩

end Go.AW
