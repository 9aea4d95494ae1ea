/-
  Row 15: the laws.
-/
import Derived.Test.YtbjdiepceokmkaaSib5
namespace Go.AW
open Go Go.Proofs Go.RowKit
set_option maxHeartbeats 2000000
set_option maxRecDepth 10000
set_option linter.unusedSimpArgs false
set_option linter.unusedVariables false
attribute [local irreducible] thenQ blockQ RetQ AL AW AC AOp

theorem awake15 : AC Try.prog 14 [] [] fun x σ => x = bv true ∧ σ = [] := by
  have hg : gsib ⟨ck0, [], false, [118]⟩ := ⟨by decide, by simp [ck0], by decide⟩
  have he : sibe ⟨ck0, [], false, [118]⟩ = ([0, 0, 0, 0, 1, 118], 0) := by
    rw [sibe_good hg (by decide)]
    have h1 : vput 1 = [1] := by rw [vput_small (by decide)]; rfl
    have h0 : vput 0 = [0] := by rw [vput_small (by decide)]; rfl
    have h2 : esib ⟨ck0, [], false, [118]⟩ = ((vput 0 ++ []) ++ ([0] ++ [])) ++ ((vput 0 ++ []) ++ ([0] ++ (vput 1 ++ [118]))) := rfl
    rw [h2, h1, h0]; rfl
  refine AC.walk Try.func14 rfl (by decide) (of_decide_eq_true rfl) ?_
  focus (have kxs := he; have kk1 := uN [] (sibling_Encode ⟨ck0, [], false, [118]⟩ ⟨⟨⟨by decide, by simp [ck0], by simp [ck0]⟩, by decide, by decide⟩, ⟨by decide, by simp, by simp⟩, by decide⟩); (repeat' (first | refine G ?_ | refine AW.ret ?_ | (refine GC ?_ ?_ <;> intro h <;> (try simp only [hsB] at h) <;> try (exfalso; first | omega | contradiction)) | (refine GL ?_ ?_ <;> intro h <;> (try simp only [Bool.not_true, Bool.not_false] at h) <;> (try simp only [h]) <;> (try simp only [hsB] at h) <;> try (exfalso; first | omega | contradiction)) | fail)); all_goals clear kxs kk1)
  all_goals first | ((all_goals first | exact RetQ.fr 0 | exact RetQ.fn 0 | fail); done) | (exfalso; simp_all; done)

theorem Sb.w_fits {s : List UInt8} (h : (sibw s).2 = 0) (hs : s.length ≤ 9223372036854775807) : (sibw s).1.fits := by
  obtain ⟨hg, hs2⟩ := rdw_back trip_sib h
  obtain ⟨h1, h2, h3⟩ := Sb.check_parts hg.1
  have hv := Vec.check_len (Ck.check_parts h1).1
  have hp := Prs.check_len h2
  show Sb.fits (rdw Cu.sib sb0 s).1
  exact ⟨⟨⟨by omega, fun x hx => Nat.le_trans (hv.2 x hx) (by decide), hg.2.1⟩, Nat.le_trans (Ck.dot_len h1) (by decide), hg.2.2⟩, ⟨by omega, fun x hx => Nat.le_trans (hp.2 x hx).1 (by decide), fun x hx => Nat.le_trans (hp.2 x hx).2 (by decide)⟩, by omega⟩
theorem Sb.w_len (s : List UInt8) : (sibw s).1.clk.ctx.length ≤ 64 ∧ (sibw s).1.meta_.length ≤ 8 := by
  by_cases h : (sibw s).2 = 0
  · obtain ⟨hg, hs2⟩ := rdw_back trip_sib h
    obtain ⟨h1, h2, h3⟩ := Sb.check_parts hg.1
    exact ⟨(Vec.check_len (Ck.check_parts h1).1).1, (Prs.check_len h2).1⟩
  · rw [rdw_bad h]; exact ⟨by decide, by decide⟩

end Go.AW
