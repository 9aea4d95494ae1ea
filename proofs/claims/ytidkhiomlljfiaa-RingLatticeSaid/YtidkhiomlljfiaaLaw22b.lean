/-
  Row 22: the lattice law.
-/
import Derived.Test.YtidkhiomlljfiaaLaw22
import Derived.Test.YtidkhiomlljfiaaRng11
namespace Go.AW
open Go Go.Proofs Go.RowKit
set_option maxHeartbeats 4000000
set_option maxRecDepth 10000
set_option linter.unusedSimpArgs false
set_option linter.unusedVariables false
attribute [local irreducible] thenQ blockQ RetQ AL AW AC AOp

theorem ringj_fits {a b : Ring} (ha : a.fits) (hb : b.fits) : (ringj a b).1.fits := by
  by_cases h1 : Ring.check a = 0
  case neg => unfold ringj; rw [if_pos (.inl h1)]; exact Ring.fits_nil
  by_cases h2 : Ring.check b = 0
  case neg => unfold ringj; rw [if_pos (.inr h2)]; exact Ring.fits_nil
  have hga : gring a := ⟨h1, fun x hx => (ha.2 x hx).1⟩
  have hgb : gring b := ⟨h2, fun x hx => (hb.2 x hx).1⟩
  by_cases h3 : (ringj a b).2 = 0
  · obtain ⟨e, g⟩ := ringj_right hga hgb h3
    rw [e]; exact Ring.fits_of g
  · rw [ringj_good hga hgb] at h3 ⊢
    by_cases hl : 32 < (joinm a b).length
    · rw [if_pos hl]; exact Ring.fits_nil
    · rw [if_neg hl] at h3; exact absurd rfl h3

theorem ringLattice (a b c : Ring) (ha : a.fits) (hb : b.fits) (hc : c.fits) : AC Try.prog 3 [.d (.l a.length (ringD a)), .d (.l b.length (ringD b)), .d (.l c.length (ringD c))] [] fun x σ => x = bv true ∧ σ = [] := by
  refine AC.walk Try.func3 rfl (by decide) (of_decide_eq_true rfl) ?_
  have g1 := ref22_Great a ha
  have g2 := ref22_Great b hb
  have g3 := ref22_Great c hc
  have c1 := ref22_Check a ha
  have c2 := ref22_Check b hb
  have c3 := ref22_Check c hc
  by_cases hg : Ring.great a = true
  · rw [hg] at g1
    focus (have kxs : 987654321 = 987654320 + 1 := rfl; have kk1 := uN [] (awake22); have kk2 := uN [] (g1); (repeat' (first | refine G ?_ | refine AW.ret ?_ | (refine GC ?_ ?_ <;> intro h <;> (try simp only [hsB] at h) <;> try (exfalso; first | omega | contradiction)) | (refine GL ?_ ?_ <;> intro h <;> (try simp only [Bool.not_true, Bool.not_false] at h) <;> (try simp only [h]) <;> (try simp only [hsB] at h) <;> try (exfalso; first | omega | contradiction)) | fail)); all_goals clear kxs kk1 kk2)
    all_goals first | ((all_goals first | exact RetQ.fr 0 | exact RetQ.fn 0 | fail); done) | (exfalso; simp_all; done)
  rw [show Ring.great a = false by simpa using hg] at g1
  by_cases hg : Ring.great b = true
  · rw [hg] at g2
    focus (have kxs : 987654321 = 987654320 + 1 := rfl; have kk1 := uN [] (awake22); have kk2 := uN [] (g1); have kk3 := uN [] (g2); (repeat' (first | refine G ?_ | refine AW.ret ?_ | (refine GC ?_ ?_ <;> intro h <;> (try simp only [hsB] at h) <;> try (exfalso; first | omega | contradiction)) | (refine GL ?_ ?_ <;> intro h <;> (try simp only [Bool.not_true, Bool.not_false] at h) <;> (try simp only [h]) <;> (try simp only [hsB] at h) <;> try (exfalso; first | omega | contradiction)) | fail)); all_goals clear kxs kk1 kk2 kk3)
    all_goals first | ((all_goals first | exact RetQ.fr 0 | exact RetQ.fn 0 | fail); done) | (exfalso; simp_all; done)
  rw [show Ring.great b = false by simpa using hg] at g2
  by_cases hg : Ring.great c = true
  · rw [hg] at g3
    focus (have kxs : 987654321 = 987654320 + 1 := rfl; have kk1 := uN [] (awake22); have kk2 := uN [] (g1); have kk3 := uN [] (g2); have kk4 := uN [] (g3); (repeat' (first | refine G ?_ | refine AW.ret ?_ | (refine GC ?_ ?_ <;> intro h <;> (try simp only [hsB] at h) <;> try (exfalso; first | omega | contradiction)) | (refine GL ?_ ?_ <;> intro h <;> (try simp only [Bool.not_true, Bool.not_false] at h) <;> (try simp only [h]) <;> (try simp only [hsB] at h) <;> try (exfalso; first | omega | contradiction)) | fail)); all_goals clear kxs kk1 kk2 kk3 kk4)
    all_goals first | ((all_goals first | exact RetQ.fr 0 | exact RetQ.fn 0 | fail); done) | (exfalso; simp_all; done)
  rw [show Ring.great c = false by simpa using hg] at g3
  by_cases h1 : Ring.check a = 0
  case neg =>
    generalize Ring.check a = f at *
    focus (have kxs : 987654321 = 987654320 + 1 := rfl; have kk1 := uN [] (awake22); have kk2 := uN [] (g1); have kk3 := uN [] (g2); have kk4 := uN [] (g3); have kk5 := uN [] (c1); (repeat' (first | refine G ?_ | refine AW.ret ?_ | (refine GC ?_ ?_ <;> intro h <;> (try simp only [hsB] at h) <;> try (exfalso; first | omega | contradiction)) | (refine GL ?_ ?_ <;> intro h <;> (try simp only [Bool.not_true, Bool.not_false] at h) <;> (try simp only [h]) <;> (try simp only [hsB] at h) <;> try (exfalso; first | omega | contradiction)) | fail)); all_goals clear kxs kk1 kk2 kk3 kk4 kk5)
    all_goals first | ((all_goals first | exact RetQ.fr 0 | exact RetQ.fn 0 | fail); done) | (exfalso; omega) | (exfalso; simp_all; done)
  by_cases h2 : Ring.check b = 0
  case neg =>
    rw [h1] at c1
    generalize Ring.check b = f at *
    focus (have kxs : 987654321 = 987654320 + 1 := rfl; have kk1 := uN [] (awake22); have kk2 := uN [] (g1); have kk3 := uN [] (g2); have kk4 := uN [] (g3); have kk5 := uN [] (c1); have kk6 := uN [] (c2); (repeat' (first | refine G ?_ | refine AW.ret ?_ | (refine GC ?_ ?_ <;> intro h <;> (try simp only [hsB] at h) <;> try (exfalso; first | omega | contradiction)) | (refine GL ?_ ?_ <;> intro h <;> (try simp only [Bool.not_true, Bool.not_false] at h) <;> (try simp only [h]) <;> (try simp only [hsB] at h) <;> try (exfalso; first | omega | contradiction)) | fail)); all_goals clear kxs kk1 kk2 kk3 kk4 kk5 kk6)
    all_goals first | ((all_goals first | exact RetQ.fr 0 | exact RetQ.fn 0 | fail); done) | (exfalso; omega) | (exfalso; simp_all; done)
  by_cases h3 : Ring.check c = 0
  case neg =>
    rw [h1] at c1
    rw [h2] at c2
    generalize Ring.check c = f at *
    focus (have kxs : 987654321 = 987654320 + 1 := rfl; have kk1 := uN [] (awake22); have kk2 := uN [] (g1); have kk3 := uN [] (g2); have kk4 := uN [] (g3); have kk5 := uN [] (c1); have kk6 := uN [] (c2); have kk7 := uN [] (c3); (repeat' (first | refine G ?_ | refine AW.ret ?_ | (refine GC ?_ ?_ <;> intro h <;> (try simp only [hsB] at h) <;> try (exfalso; first | omega | contradiction)) | (refine GL ?_ ?_ <;> intro h <;> (try simp only [Bool.not_true, Bool.not_false] at h) <;> (try simp only [h]) <;> (try simp only [hsB] at h) <;> try (exfalso; first | omega | contradiction)) | fail)); all_goals clear kxs kk1 kk2 kk3 kk4 kk5 kk6 kk7)
    all_goals first | ((all_goals first | exact RetQ.fr 0 | exact RetQ.fn 0 | fail); done) | (exfalso; omega) | (exfalso; simp_all; done)
  rw [h1] at c1
  rw [h2] at c2
  rw [h3] at c3
  have ga : gring a := ⟨h1, fun x hx => (ha.2 x hx).1⟩
  have gb : gring b := ⟨h2, fun x hx => (hb.2 x hx).1⟩
  have gc : gring c := ⟨h3, fun x hx => (hc.2 x hx).1⟩
  have j0 := ring_Join a a ha ha
  have j1 := ring_Join a b ha hb
  have j2 := ring_Join b a hb ha
  have j3 := ring_Join b c hb hc
  rw [ringj_same ga] at j0
  rw [← ringj_comm ga gb] at j2
  have fj1 := ringj_fits ha hb
  have fj3 := ringj_fits hb hc
  have j4 := ring_Join (ringj a b).1 c fj1 hc
  have j5 := ring_Join a (ringj b c).1 ha fj3
  have hend : (ringj a b).2 = 0 → (ringj b c).2 = 0 → ringj (ringj a b).1 c = ringj a (ringj b c).1 := ringj_assoc ga gb gc
  have s0 := ring_Same a a ha.1 (fun z hz => (ha.2 z hz).2.2)
  rw [show decide (a = a) = true by simp] at s0
  have s1 := ring_Same (ringj a b).1 (ringj a b).1 fj1.1 (fun z hz => (fj1.2 z hz).2.2)
  rw [show decide ((ringj a b).1 = (ringj a b).1) = true by simp] at s1
  have fj5 := ringj_fits ha fj3
  have s2 := ring_Same (ringj a (ringj b c).1).1 (ringj a (ringj b c).1).1 fj5.1 (fun z hz => (fj5.2 z hz).2.2)
  rw [show decide ((ringj a (ringj b c).1).1 = (ringj a (ringj b c).1).1) = true by simp] at s2
  have s3 := ref22_Same (ringj a (ringj b c).1).1 (ringj a (ringj b c).1).1 fj5.1 (fun z hz => (fj5.2 z hz).2.2)
  rw [show decide ((ringj a (ringj b c).1).1 = (ringj a (ringj b c).1).1) = true by simp] at s3
  clear ga gb gc fj1 fj3 fj5 ha hb hc
  by_cases k1 : (ringj a b).2 = 0
  case neg =>
    clear j4 j5 hend s2 s3
    generalize ringj a b = z at *
    obtain ⟨m, f⟩ := z
    generalize ringj b c = z at *
    obtain ⟨m2, f2⟩ := z
    simp only at *
    focus (have kxs : 987654321 = 987654320 + 1 := rfl; have kk1 := uN [] (awake22); have kk2 := uN [] (g1); have kk3 := uN [] (g2); have kk4 := uN [] (g3); have kk5 := uN [] (c1); have kk6 := uN [] (c2); have kk7 := uN [] (c3); have kk8 := uN [] (j0); have kk9 := uN [] (j1); have kk10 := uN [] (j2); have kk11 := uN [] (j3); have kk12 := uN [] (s0); have kk13 := uN [] (s1); (repeat' (first | refine G ?_ | refine AW.ret ?_ | (refine GC ?_ ?_ <;> intro h <;> (try simp only [hsB] at h) <;> try (exfalso; first | omega | contradiction)) | (refine GL ?_ ?_ <;> intro h <;> (try simp only [Bool.not_true, Bool.not_false] at h) <;> (try simp only [h]) <;> (try simp only [hsB] at h) <;> try (exfalso; first | omega | contradiction)) | fail)); all_goals clear kxs kk1 kk2 kk3 kk4 kk5 kk6 kk7 kk8 kk9 kk10 kk11 kk12 kk13)
    all_goals first | ((all_goals first | exact RetQ.fr 0 | exact RetQ.fn 0 | fail); done) | (exfalso; omega) | (exfalso; simp_all; done)
  by_cases k2 : (ringj b c).2 = 0
  case neg =>
    clear j4 j5 hend s2 s3
    generalize ringj a b = z at *
    obtain ⟨m, f⟩ := z
    generalize ringj b c = z at *
    obtain ⟨m2, f2⟩ := z
    simp only at *
    subst k1
    focus (have kxs : 987654321 = 987654320 + 1 := rfl; have kk1 := uN [] (awake22); have kk2 := uN [] (g1); have kk3 := uN [] (g2); have kk4 := uN [] (g3); have kk5 := uN [] (c1); have kk6 := uN [] (c2); have kk7 := uN [] (c3); have kk8 := uN [] (j0); have kk9 := uN [] (j1); have kk10 := uN [] (j2); have kk11 := uN [] (j3); have kk12 := uN [] (s0); have kk13 := uN [] (s1); (repeat' (first | refine G ?_ | refine AW.ret ?_ | (refine GC ?_ ?_ <;> intro h <;> (try simp only [hsB] at h) <;> try (exfalso; first | omega | contradiction)) | (refine GL ?_ ?_ <;> intro h <;> (try simp only [Bool.not_true, Bool.not_false] at h) <;> (try simp only [h]) <;> (try simp only [hsB] at h) <;> try (exfalso; first | omega | contradiction)) | fail)); all_goals clear kxs kk1 kk2 kk3 kk4 kk5 kk6 kk7 kk8 kk9 kk10 kk11 kk12 kk13)
    all_goals first | ((all_goals first | exact RetQ.fr 0 | exact RetQ.fn 0 | fail); done) | (exfalso; omega) | (exfalso; simp_all; done)
  have hend := hend k1 k2
  rw [hend] at j4
  generalize ringj a (ringj b c).1 = z at *
  obtain ⟨m3, f3⟩ := z
  generalize ringj a b = z at *
  obtain ⟨m, f⟩ := z
  generalize ringj b c = z at *
  obtain ⟨m2, f2⟩ := z
  simp only at *
  subst k1 k2
  focus (have kxs : 987654321 = 987654320 + 1 := rfl; have kk1 := uN [] (awake22); have kk2 := uN [] (g1); have kk3 := uN [] (g2); have kk4 := uN [] (g3); have kk5 := uN [] (c1); have kk6 := uN [] (c2); have kk7 := uN [] (c3); have kk8 := uN [] (j0); have kk9 := uN [] (j1); have kk10 := uN [] (j2); have kk11 := uN [] (j3); have kk12 := uN [] (j4); have kk13 := uN [] (j5); have kk14 := uN [] (s0); have kk15 := uN [] (s1); have kk16 := uN [] (s2); have kk17 := uN [] (s3); (repeat' (first | refine G ?_ | refine AW.ret ?_ | (refine GC ?_ ?_ <;> intro h <;> (try simp only [hsB] at h) <;> try (exfalso; first | omega | contradiction)) | (refine GL ?_ ?_ <;> intro h <;> (try simp only [Bool.not_true, Bool.not_false] at h) <;> (try simp only [h]) <;> (try simp only [hsB] at h) <;> try (exfalso; first | omega | contradiction)) | fail)); all_goals clear kxs kk1 kk2 kk3 kk4 kk5 kk6 kk7 kk8 kk9 kk10 kk11 kk12 kk13 kk14 kk15 kk16 kk17)
  all_goals first | ((all_goals first | exact RetQ.fr 0 | exact RetQ.fn 0 | fail); done) | (exfalso; omega) | (exfalso; simp_all; done)
end Go.AW
