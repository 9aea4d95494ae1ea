/-
  Row 18: the laws.
-/
import Derived.Test.YtiiacdheopdooaaUpg2
import Derived.Test.YtiiacdheopdooaaLeg6
namespace Go.AW
open Go Go.Proofs Go.RowKit
set_option maxHeartbeats 2000000
set_option maxRecDepth 10000
set_option linter.unusedSimpArgs false
set_option linter.unusedVariables false
attribute [local irreducible] thenQ blockQ RetQ AL AW AC AOp

theorem upgr_fits {o : Od} (h : o.fits) : (upgr o).1.fits := by
  unfold upgr
  split
  · exact ⟨Nat.zero_le _, Nat.zero_le _, fun x hx => (List.not_mem_nil hx).elim⟩
  · exact ⟨Nat.le_trans (osort_key _ _) h.1, Nat.le_trans (osort_len _ _) (by rw [List.length_map]; exact h.2.1), fun x hx => by
      obtain ⟨y, hy, rfl⟩ := List.mem_map.1 (osort_mem hx)
      exact upO_fits (h.2.2 y hy)⟩
theorem downg_fits {o : Oj} (h : o.fits) : (downg o).1.fits := by
  unfold downg
  split
  · exact ⟨h.1, by rw [List.length_map]; exact h.2.1, fun x hx => by
      obtain ⟨y, hy, rfl⟩ := List.mem_map.1 hx
      exact ⟨(h.2.2 y hy).1.1, (h.2.2 y hy).2.2⟩⟩
  · exact ⟨Nat.zero_le _, Nat.zero_le _, fun x hx => (List.not_mem_nil hx).elim⟩

theorem awake18 : AC Try.prog 140 [] [] fun x σ => x = bv true ∧ σ = [] := by
  have h0 : vput 0 = [0] := by rw [vput_small (by decide)]; rfl
  have h1 : vput 1 = [1] := by rw [vput_small (by decide)]; rfl
  have h2 : vput 2 = [2] := by rw [vput_small (by decide)]; rfl
  have hka : skey (upO ⟨[([97], 2)], false, []⟩) = [1, 1, 97, 2, 0] := by
    have h : skey (upO ⟨[([97], 2)], false, []⟩) = (vput 1 ++ (((vput 1 ++ [97]) ++ vput 2) ++ [])) ++ ([0] ++ []) := rfl
    rw [h, h1, h2]; rfl
  have hkb : skey (upO ⟨[([98], 1)], false, []⟩) = [1, 1, 98, 1, 0] := by
    have h : skey (upO ⟨[([98], 1)], false, []⟩) = (vput 1 ++ (((vput 1 ++ [98]) ++ vput 1) ++ [])) ++ ([0] ++ []) := rfl
    rw [h, h1]; rfl
  have hu : upgr ⟨[107], [⟨[([98], 1)], false, []⟩, ⟨[([97], 2)], false, []⟩]⟩ = (⟨[107], [upO ⟨[([97], 2)], false, []⟩, upO ⟨[([98], 1)], false, []⟩]⟩, 0) := by
    unfold upgr
    rw [if_neg (by decide)]
    refine osort_done (by decide) (schecks_zero.2 fun x hx => ?_) (List.Perm.swap _ _ _) ?_
    · rcases List.mem_cons.1 hx with rfl | hx
      · decide
      · rcases List.mem_cons.1 hx with rfl | hx
        · decide
        · exact (List.not_mem_nil hx).elim
    · refine List.pairwise_pair.2 ?_
      rw [hka, hkb]; decide
  have hc := AC.nzd [.a [.d (.s (.string ⟨#[107]⟩)), .d (.l 2 [.l 1 [.s (.string ⟨#[98]⟩), .s (.int .u64 1)], .s (.bool false), .s (.string ⟨#[]⟩), .l 1 [.s (.string ⟨#[97]⟩), .s (.int .u64 2)], .s (.bool false), .s (.string ⟨#[]⟩)])]] (upgrade_Up ⟨[107], [⟨[([98], 1)], false, []⟩, ⟨[([97], 2)], false, []⟩]⟩ ⟨by decide, by decide, by simp [Os1.fits, Vec.fits]⟩)
  have hsb : sbsD [upO ⟨[([97], 2)], false, []⟩, upO ⟨[([98], 1)], false, []⟩] = [.l 1 [.s (.string ⟨#[97]⟩), .s (.int .u64 2)], .s (.bool false), .s (.string ⟨#[]⟩), .s (.int .u64 0), .l 0 [], .s (.bool false), .s (.string ⟨#[]⟩), .l 1 [.s (.string ⟨#[98]⟩), .s (.int .u64 1)], .s (.bool false), .s (.string ⟨#[]⟩), .s (.int .u64 0), .l 0 [], .s (.bool false), .s (.string ⟨#[]⟩)] := rfl
  refine AC.walk Try.func140 rfl (by decide) (of_decide_eq_true rfl) ?_
  focus (have kxs := And.intro hu hsb; have kk1 := uN [] (hc); (repeat' (first | refine G ?_ | refine AW.ret ?_ | (refine GC ?_ ?_ <;> intro h <;> (try simp only [hsB] at h) <;> try (exfalso; first | omega | contradiction)) | (refine GL ?_ ?_ <;> intro h <;> (try simp only [Bool.not_true, Bool.not_false] at h) <;> (try simp only [h]) <;> (try simp only [hsB] at h) <;> try (exfalso; first | omega | contradiction)) | fail)); all_goals clear kxs kk1)
  all_goals first | ((all_goals first | exact RetQ.fr 0 | exact RetQ.fn 0 | fail); done) | (exfalso; simp_all; done)

theorem upgradeUps (o : Od) (ho : o.fits) (k : Oj) (hk : k.fits) : AC Try.prog 31 [odV o, ojV k] [] fun x σ => x = bv true ∧ σ = [] := by
  refine AC.walk Try.func31 rfl (by decide) (of_decide_eq_true rfl) ?_
  by_cases hgo : o.great = true
  · focus (have kxs := hgo; have kk1 := uN [] (awake18); have kk2 := uN [] (ref17_Great o ho); (repeat' (first | (refine ADr.nil ?_; try clear hgv) | refine GO ?_ | refine AW.ret ?_ | (refine GC ?_ ?_ <;> intro h <;> (try simp only [hsB] at h) <;> try (exfalso; first | omega | contradiction)) | (refine GD ?_ ?_ <;> intro h <;> (try intro hgv) <;> (try simp only [Bool.not_true, Bool.not_false] at h) <;> (try simp only [h]) <;> (try simp only [hsB] at h) <;> try (exfalso; first | omega | contradiction)) | (refine GL ?_ ?_ <;> intro h <;> (try simp only [Bool.not_true, Bool.not_false] at h) <;> (try simp only [h]) <;> (try simp only [hsB] at h) <;> try (exfalso; first | omega | contradiction)) | fail)); all_goals clear kxs kk1 kk2)
    all_goals first | ((all_goals first | exact RetQ.fr 0 | exact RetQ.fn 0 | fail); done) | (exfalso; simp_all; done)
  have hgo : o.great = false := by simpa using hgo
  by_cases hgk : k.great = true
  · focus (have kxs := And.intro hgo hgk; have kk1 := uN [] (awake18); have kk2 := uN [] (ref17_Great o ho); have kk3 := uN [] (ref16_Great k hk); (repeat' (first | (refine ADr.nil ?_; try clear hgv) | refine GO ?_ | refine AW.ret ?_ | (refine GC ?_ ?_ <;> intro h <;> (try simp only [hsB] at h) <;> try (exfalso; first | omega | contradiction)) | (refine GD ?_ ?_ <;> intro h <;> (try intro hgv) <;> (try simp only [Bool.not_true, Bool.not_false] at h) <;> (try simp only [h]) <;> (try simp only [hsB] at h) <;> try (exfalso; first | omega | contradiction)) | (refine GL ?_ ?_ <;> intro h <;> (try simp only [Bool.not_true, Bool.not_false] at h) <;> (try simp only [h]) <;> (try simp only [hsB] at h) <;> try (exfalso; first | omega | contradiction)) | fail)); all_goals clear kxs kk1 kk2 kk3)
    all_goals first | ((all_goals first | exact RetQ.fr 0 | exact RetQ.fn 0 | fail); done) | (exfalso; simp_all; done)
  have hgk : k.great = false := by simpa using hgk
  have hu := upgrade_Up o ho
  have hu2 := ref18_Up o ho
  have hd := upgrade_Down k hk
  have hd2 := ref18_Down k hk
  have hp := upgrade_Plain k hk
  have hp2 := ref18_Plain k hk
  have hfu := upgr_fits ho
  have hfd := downg_fits hk
  generalize upgr o = a at *
  generalize downg k = b at *
  generalize k.plain = c at *
  obtain ⟨a, e⟩ := a
  obtain ⟨b, g⟩ := b
  have hs := ref16_Same a a hfu.2.1 (fun x hx => ⟨(hfu.2.2 x hx).1.1.1, (hfu.2.2 x hx).2.1.1⟩)
  have hs2 := ref17_Same b b hfd
  have hcc : (c == c) = true := by cases c <;> rfl
  focus (have kxs := And.intro hgo (And.intro hgk hcc); have kk1 := uN [] (awake18); have kk2 := uN [] (ref17_Great o ho); have kk3 := uN [] (ref16_Great k hk); have kk4 := uN [] (hu); have kk5 := uN [] (hu2); have kk6 := uN [] (hd); have kk7 := uN [] (hd2); have kk8 := uN [] (hs); have kk9 := uN [] (hs2); have kk10 := uN [] (hp); have kk11 := uN [] (hp2); (repeat' (first | (refine ADr.nil ?_; try clear hgv) | refine GW ?_ | refine AW.ret ?_ | (refine GC ?_ ?_ <;> intro h <;> (try simp only [hsB] at h) <;> try (exfalso; first | omega | contradiction)) | (refine GD ?_ ?_ <;> intro h <;> (try intro hgv) <;> (try simp only [Bool.not_true, Bool.not_false] at h) <;> (try simp only [h]) <;> (try simp only [hsB] at h) <;> try (exfalso; first | omega | contradiction)) | (refine GL ?_ ?_ <;> intro h <;> (try simp only [Bool.not_true, Bool.not_false] at h) <;> (try simp only [h]) <;> (try simp only [hsB] at h) <;> try (exfalso; first | omega | contradiction)) | fail)); all_goals clear kxs kk1 kk2 kk3 kk4 kk5 kk6 kk7 kk8 kk9 kk10 kk11)
  all_goals first | ((all_goals first | exact RetQ.fr 0 | exact RetQ.fn 0 | fail); done) | (exfalso; simp_all; done) | (exfalso; simp_all; omega)
end Go.AW
