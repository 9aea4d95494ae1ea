/-
  Row 18: UpgradeKeeps.
-/
import Derived.Test.YtbjdiepceokmkaaGreatLaw18a
import Derived.Test.YtbjdiepceokmkaaGreatObj4
import Derived.Test.YtbjdiepceokmkaaGreatLeg7
import Derived.Test.YtbjdiepceokmkaaGreatPLaw18b
namespace Go.AW
open Go Go.Proofs Go.RowKit
set_option maxHeartbeats 2000000
set_option maxRecDepth 10000
set_option linter.unusedSimpArgs false
set_option linter.unusedVariables false
attribute [local irreducible] thenQ blockQ RetQ AL AW AC AOp

theorem upgradeKeeps (o q : Od) (ho : o.fits) (hq : q.fits) : AC Tryz.prog 4 [odV o, odV q] [] fun x σ => x = bv true ∧ σ = [] := by
  refine AC.walk Tryz.func4 rfl (by decide) (of_decide_eq_true rfl) ?_
  by_cases hgo : o.great = true
  · focus (have kxs := hgo; have kk1 := uN [] (awake18); have kk2 := uN [] (ref17_Great o ho); (repeat' (first | refine G ?_ | refine AW.ret ?_ | (refine GC ?_ ?_ <;> intro h <;> (try simp only [hsB] at h) <;> try (exfalso; first | omega | contradiction)) | (refine GL ?_ ?_ <;> intro h <;> (try simp only [Bool.not_true, Bool.not_false] at h) <;> (try simp only [h]) <;> (try simp only [hsB] at h) <;> try (exfalso; first | omega | contradiction)) | fail)); all_goals clear kxs kk1 kk2)
    all_goals first | ((all_goals first | exact RetQ.fr 0 | exact RetQ.fn 0 | fail); done) | (exfalso; simp_all; done)
  have hgo : o.great = false := by simpa using hgo
  by_cases hgq : q.great = true
  · focus (have kxs := And.intro hgo hgq; have kk1 := uN [] (awake18); have kk2 := uN [] (ref17_Great o ho); have kk3 := uN [] (ref17_Great q hq); (repeat' (first | refine G ?_ | refine AW.ret ?_ | (refine GC ?_ ?_ <;> intro h <;> (try simp only [hsB] at h) <;> try (exfalso; first | omega | contradiction)) | (refine GL ?_ ?_ <;> intro h <;> (try simp only [Bool.not_true, Bool.not_false] at h) <;> (try simp only [h]) <;> (try simp only [hsB] at h) <;> try (exfalso; first | omega | contradiction)) | fail)); all_goals clear kxs kk1 kk2 kk3)
    all_goals first | ((all_goals first | exact RetQ.fr 0 | exact RetQ.fn 0 | fail); done) | (exfalso; simp_all; done)
  have hgq : q.great = false := by simpa using hgq
  by_cases hc : o.check = 0
  case neg =>
    focus (have kxs := And.intro hgo hgq; have kk1 := uN [] (awake18); have kk2 := uN [] (ref17_Great o ho); have kk3 := uN [] (ref17_Great q hq); have kk4 := uN [] (ref17_Check o ho); (repeat' (first | refine G ?_ | refine AW.ret ?_ | (refine GC ?_ ?_ <;> intro h <;> (try simp only [hsB] at h) <;> try (exfalso; first | omega | contradiction)) | (refine GL ?_ ?_ <;> intro h <;> (try simp only [Bool.not_true, Bool.not_false] at h) <;> (try simp only [h]) <;> (try simp only [hsB] at h) <;> try (exfalso; first | omega | contradiction)) | fail)); all_goals clear kxs kk1 kk2 kk3 kk4)
    all_goals first | ((all_goals first | exact RetQ.fr 0 | exact RetQ.fn 0 | fail); done) | (exfalso; simp_all; done)
  have hg : gold o := ⟨hc, fun x hx => (ho.2.2 x hx).1.2.2⟩
  have hlen := upgr_len hg hgo
  have hfa := upgr_fits ho
  have hu := upgrade_Up o ho
  rw [show (upgr o).2 = 0 by rw [upgr_good hg]] at hu
  have hen := object_Encode _ hfa
  rw [upgr_bytes hg hgo] at hen
  have hde := object_Decode (eobj (upgr o).1) (by omega)
  rw [upgr_read hg] at hde
  obtain ⟨l, hl, hdn⟩ := down_up hg
  have hdw := upgrade_Down _ hfa
  have hfd := downg_fits hfa
  rw [hdn] at hdw hfd
  have hal := perm_alike hc hl
  have ha1 := legacy_Alike o ⟨o.key, l⟩ ho hfd
  have ha2 := ref17_Alike o ⟨o.key, l⟩ ho hfd
  rw [hal] at ha1 ha2
  have hsm := ref16_Same (upgr o).1 (upgr o).1 hfa.2.1 (fun x hx => ⟨(hfa.2.2 x hx).1.1.1, (hfa.2.2 x hx).2.1.1⟩)
  have hck := ref16_Check _ hfa
  rw [upgr_check hg] at hck
  have hpl := upgrade_Plain _ hfa
  rw [upgr_plain hg] at hpl
  by_cases hcq : q.check = 0
  case neg =>
    generalize (upgr o).1 = a at *
    generalize eobj a = s at *
    generalize (⟨o.key, l⟩ : Od) = d at *
    focus (have kxs := And.intro hgo (And.intro hgq hc); have kk1 := uN [] (awake18); have kk2 := uN [] (ref17_Great o ho); have kk3 := uN [] (ref17_Great q hq); have kk4 := uN [] (ref17_Check o ho); have kk5 := uN [] (ref17_Check q hq); have kk6 := uN [] (hu); have kk7 := uN [] (hen); have kk8 := uN [] (hde); have kk9 := uN [] (hdw); have kk10 := uN [] (hsm); have kk11 := uN [] (hck); have kk12 := uN [] (hpl); have kk13 := uN [] (ha1); have kk14 := uN [] (ha2); (repeat' (first | (refine ADr.nil ?_; try clear hgv) | refine GW ?_ | refine AW.ret ?_ | (refine GC ?_ ?_ <;> intro h <;> (try simp only [hsB] at h) <;> try (exfalso; first | omega | contradiction)) | (refine GD ?_ ?_ <;> intro h <;> (try intro hgv) <;> (try simp only [Bool.not_true, Bool.not_false] at h) <;> (try simp only [h]) <;> (try simp only [hsB] at h) <;> try (exfalso; first | omega | contradiction)) | (refine GL ?_ ?_ <;> intro h <;> (try simp only [Bool.not_true, Bool.not_false] at h) <;> (try simp only [h]) <;> (try simp only [hsB] at h) <;> try (exfalso; first | omega | contradiction)) | fail)); all_goals clear kxs kk1 kk2 kk3 kk4 kk5 kk6 kk7 kk8 kk9 kk10 kk11 kk12 kk13 kk14)
    all_goals first | ((all_goals first | exact RetQ.fr 0 | exact RetQ.fn 0 | fail); done) | (exfalso; simp_all; done)
  have hg2 : gold q := ⟨hcq, fun x hx => (hq.2.2 x hx).1.2.2⟩
  have hu2 := upgrade_Up q hq
  rw [show (upgr q).2 = 0 by rw [upgr_good hg2]] at hu2
  have hsm2 := ref16_Same (upgr o).1 (upgr q).1 hfa.2.1 (fun x hx => ⟨(hfa.2.2 x hx).1.1.1, (hfa.2.2 x hx).2.1.1⟩)
  have ha3 := ref17_Alike o q ho hq
  have hiff := upgr_alike hg hg2
  generalize (upgr o).1 = a at *
  generalize (upgr q).1 = b at *
  generalize eobj a = s at *
  generalize (⟨o.key, l⟩ : Od) = d at *
  have heq : decide (a = b) = o.alike q := by
    cases h : o.alike q with
    | true => exact decide_eq_true (hiff.2 h)
    | false => exact decide_eq_false fun e => by rw [hiff.1 e] at h; cases h
  rw [heq] at hsm2
  generalize o.alike q = r at *
  have hrr : (r == r) = true := by cases r <;> rfl
  focus (have kxs := And.intro hgo (And.intro hgq (And.intro hc (And.intro hcq hrr))); have kk1 := uN [] (awake18); have kk2 := uN [] (ref17_Great o ho); have kk3 := uN [] (ref17_Great q hq); have kk4 := uN [] (ref17_Check o ho); have kk5 := uN [] (ref17_Check q hq); have kk6 := uN [] (hu); have kk7 := uN [] (hu2); have kk8 := uN [] (hen); have kk9 := uN [] (hde); have kk10 := uN [] (hdw); have kk11 := uN [] (hsm); have kk12 := uN [] (hsm2); have kk13 := uN [] (hck); have kk14 := uN [] (hpl); have kk15 := uN [] (ha1); have kk16 := uN [] (ha2); have kk17 := uN [] (ha3); (repeat' (first | (refine ADr.nil ?_; try clear hgv) | refine GW ?_ | refine AW.ret ?_ | (refine GC ?_ ?_ <;> intro h <;> (try simp only [hsB] at h) <;> try (exfalso; first | omega | contradiction)) | (refine GD ?_ ?_ <;> intro h <;> (try intro hgv) <;> (try simp only [Bool.not_true, Bool.not_false] at h) <;> (try simp only [h]) <;> (try simp only [hsB] at h) <;> try (exfalso; first | omega | contradiction)) | (refine GL ?_ ?_ <;> intro h <;> (try simp only [Bool.not_true, Bool.not_false] at h) <;> (try simp only [h]) <;> (try simp only [hsB] at h) <;> try (exfalso; first | omega | contradiction)) | fail)); all_goals clear kxs kk1 kk2 kk3 kk4 kk5 kk6 kk7 kk8 kk9 kk10 kk11 kk12 kk13 kk14 kk15 kk16 kk17)
  all_goals first | ((all_goals first | exact RetQ.fr 0 | exact RetQ.fn 0 | fail); done) | (exfalso; simp_all; done) | (exfalso; simp_all; omega)
end Go.AW
