/-
  Row 16: the laws.
-/
import Derived.Test.YtbjdiepceokmkaaObj4
import Derived.Test.YtbjdiepceokmkaaAwNil
namespace Go.AW
open Go Go.Proofs Go.RowKit
set_option maxHeartbeats 2000000
set_option maxRecDepth 10000
set_option linter.unusedSimpArgs false
set_option linter.unusedVariables false
attribute [local irreducible] thenQ blockQ RetQ AL AW AC AOp

theorem awake16 : AC Try.prog 24 [] [] fun x σ => x = bv true ∧ σ = [] := by
  have hg : gobj ⟨[107], [⟨ck0, [], false, [118]⟩]⟩ := by
    refine ⟨?_, by simp [gnum, ck0]⟩
    have h1 : lessB [] (eclk ck0) = true := skey_first ⟨ck0, [], false, [118]⟩
    unfold Oj.check jcheck
    rw [if_neg (by decide), if_neg (by decide), if_neg (by rw [h1]; decide)]
    rfl
  have he : obje ⟨[107], [⟨ck0, [], false, [118]⟩]⟩ = ([1, 107, 1, 0, 0, 0, 0, 1, 118], 0) := by
    have h1 : vput 1 = [1] := by rw [vput_small (by decide)]; rfl
    have h0 : vput 0 = [0] := by rw [vput_small (by decide)]; rfl
    have h2 : eobj ⟨[107], [⟨ck0, [], false, [118]⟩]⟩ = (vput 1 ++ [107]) ++ (vput 1 ++ ((((vput 0 ++ []) ++ ([0] ++ [])) ++ ((vput 0 ++ []) ++ ([0] ++ (vput 1 ++ [118])))) ++ [])) := rfl
    rw [h1, h0] at h2
    unfold obje
    rw [wre_fit pens_obj hg.1 (by rw [h2]; decide), h2]; rfl
  refine AC.walk Try.func24 rfl (by decide) (of_decide_eq_true rfl) ?_
  have hc := AC.nzd [.a [.d (.s (.string ⟨#[107]⟩)), .d (.l 1 [.s (.slice none 0 0), .s (.bool false), .s (.string ⟨#[]⟩), .s (.int .u64 0), .s (.slice none 0 0), .s (.bool false), .s (.string ⟨#[118]⟩)])]] (object_Encode ⟨[107], [⟨ck0, [], false, [118]⟩]⟩ ⟨by decide, by decide, by simp [Sb.fits, Ck.fits, Vec.fits, Prs.fits, ck0]⟩)
  focus (have kxs := he; have kk1 := uN [] (hc); (repeat' (first | refine G ?_ | refine AW.ret ?_ | (refine GC ?_ ?_ <;> intro h <;> (try simp only [hsB] at h) <;> try (exfalso; first | omega | contradiction)) | (refine GL ?_ ?_ <;> intro h <;> (try simp only [Bool.not_true, Bool.not_false] at h) <;> (try simp only [h]) <;> (try simp only [hsB] at h) <;> try (exfalso; first | omega | contradiction)) | fail)); all_goals clear kxs kk1)
  all_goals first | ((all_goals first | exact RetQ.fr 0 | exact RetQ.fn 0 | fail); done) | (exfalso; simp_all; done)

theorem Oj.good_of {o : Oj} (h : o.check = 0) (hf : o.fits) : gobj o := ⟨h, fun x hx => ⟨(hf.2.2 x hx).1.1.2.2, (hf.2.2 x hx).1.2.2⟩⟩
theorem Oj.fits_of {o : Oj} (h : gobj o) : o.fits := by
  obtain ⟨h1, h2⟩ := Oj.check_parts h.1
  obtain ⟨k1, k2, k3, k4⟩ := outside_zero.1 h1
  exact ⟨by omega, by omega, fun x hx => Sb.fits_of ⟨jcheck_parts _ _ h2 x hx, (h.2 x hx).1, (h.2 x hx).2⟩⟩
theorem oj0_fits : oj0.fits := ⟨by decide, by decide, fun x hx => (List.not_mem_nil hx).elim⟩
theorem Oj.w_fits (s : List UInt8) : (objw s).1.fits := by
  by_cases h : (objw s).2 = 0
  · exact Oj.fits_of (rdw_back trip_obj h).1
  · have : (objw s).1 = oj0 := rdw_bad h
    rw [this]; exact oj0_fits
theorem Oj.fits_len {o : Oj} (h : o.fits) : ∀ x ∈ o.sibs, x.clk.ctx.length ≤ 9223372036854775807 ∧ x.meta_.length ≤ 9223372036854775807 := fun x hx => ⟨(h.2.2 x hx).1.1.1, (h.2.2 x hx).2.1.1⟩
theorem Oj.take_fits (c : Cu) : c.obj.1.fits := by
  by_cases h : c.obj.2.e = 0
  · exact Oj.fits_of (trip_obj.back c h).1
  · have : c.obj.1 = oj0 := by unfold Cu.obj at h ⊢; rw [if_pos h]
    rw [this]; exact oj0_fits

end Go.AW
