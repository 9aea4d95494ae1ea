/-
  Row 18: what every law of it asks.
-/
import Derived.Test.YtbjdiepceokmkaaGreatUpg2
import Derived.Test.YtbjdiepceokmkaaGreatLeg6
namespace Go.AW
open Go Go.Proofs Go.RowKit
set_option maxHeartbeats 2000000
set_option maxRecDepth 10000
set_option linter.unusedSimpArgs false
set_option linter.unusedVariables false
attribute [local irreducible] thenQ blockQ RetQ AL AW AC AOp

theorem upgr_fits {o : Od} (h : o.fits) : (upgr o).1.fits := by
  unfold upgr
  split
  · exact ⟨Nat.zero_le _, Nat.zero_le _, fun x hx => (List.not_mem_nil hx).elim⟩
  · exact ⟨Nat.le_trans (osort_key _ _) h.1, Nat.le_trans (osort_len _ _) (by rw [List.length_map]; exact h.2.1), fun x hx => by
      obtain ⟨y, hy, rfl⟩ := List.mem_map.1 (osort_mem hx)
      exact upO_fits (h.2.2 y hy)⟩
theorem downg_fits {o : Oj} (h : o.fits) : (downg o).1.fits := by
  unfold downg
  split
  · exact ⟨h.1, by rw [List.length_map]; exact h.2.1, fun x hx => by
      obtain ⟨y, hy, rfl⟩ := List.mem_map.1 hx
      exact ⟨(h.2.2 y hy).1.1, (h.2.2 y hy).2.2⟩⟩
  · exact ⟨Nat.zero_le _, Nat.zero_le _, fun x hx => (List.not_mem_nil hx).elim⟩

theorem awake18 : AC Tryz.prog 5 [] [] fun x σ => x = bv true ∧ σ = [] := by
  have h0 : vput 0 = [0] := by rw [vput_small (by decide)]; rfl
  have h1 : vput 1 = [1] := by rw [vput_small (by decide)]; rfl
  have h2 : vput 2 = [2] := by rw [vput_small (by decide)]; rfl
  have hka : skey (upO ⟨[([97], 2)], false, []⟩) = [1, 1, 97, 2, 0] := by
    have h : skey (upO ⟨[([97], 2)], false, []⟩) = (vput 1 ++ (((vput 1 ++ [97]) ++ vput 2) ++ [])) ++ ([0] ++ []) := rfl
    rw [h, h1, h2]; rfl
  have hkb : skey (upO ⟨[([98], 1)], false, []⟩) = [1, 1, 98, 1, 0] := by
    have h : skey (upO ⟨[([98], 1)], false, []⟩) = (vput 1 ++ (((vput 1 ++ [98]) ++ vput 1) ++ [])) ++ ([0] ++ []) := rfl
    rw [h, h1]; rfl
  have hu : upgr ⟨[107], [⟨[([98], 1)], false, []⟩, ⟨[([97], 2)], false, []⟩]⟩ = (⟨[107], [upO ⟨[([97], 2)], false, []⟩, upO ⟨[([98], 1)], false, []⟩]⟩, 0) := by
    unfold upgr
    rw [if_neg (by decide)]
    refine osort_done (by decide) (schecks_zero.2 fun x hx => ?_) (List.Perm.swap _ _ _) ?_
    · rcases List.mem_cons.1 hx with rfl | hx
      · decide
      · rcases List.mem_cons.1 hx with rfl | hx
        · decide
        · exact (List.not_mem_nil hx).elim
    · refine List.pairwise_pair.2 ?_
      rw [hka, hkb]; decide
  have hc := AC.nzd [.a [.d (.s (.string ⟨#[107]⟩)), .d (.l 2 [.l 1 [.s (.string ⟨#[98]⟩), .s (.int .u64 1)], .s (.bool false), .s (.string ⟨#[]⟩), .l 1 [.s (.string ⟨#[97]⟩), .s (.int .u64 2)], .s (.bool false), .s (.string ⟨#[]⟩)])]] (upgrade_Up ⟨[107], [⟨[([98], 1)], false, []⟩, ⟨[([97], 2)], false, []⟩]⟩ ⟨by decide, by decide, by simp [Os1.fits, Vec.fits]⟩)
  have hsb : sbsD [upO ⟨[([97], 2)], false, []⟩, upO ⟨[([98], 1)], false, []⟩] = [.l 1 [.s (.string ⟨#[97]⟩), .s (.int .u64 2)], .s (.bool false), .s (.string ⟨#[]⟩), .s (.int .u64 0), .l 0 [], .s (.bool false), .s (.string ⟨#[]⟩), .l 1 [.s (.string ⟨#[98]⟩), .s (.int .u64 1)], .s (.bool false), .s (.string ⟨#[]⟩), .s (.int .u64 0), .l 0 [], .s (.bool false), .s (.string ⟨#[]⟩)] := rfl
  refine AC.walk Tryz.func5 rfl (by decide) (of_decide_eq_true rfl) ?_
  focus (have kxs := And.intro hu hsb; have kk1 := uN [] (hc); (repeat' (first | refine G ?_ | refine AW.ret ?_ | (refine GC ?_ ?_ <;> intro h <;> (try simp only [hsB] at h) <;> try (exfalso; first | omega | contradiction)) | (refine GL ?_ ?_ <;> intro h <;> (try simp only [Bool.not_true, Bool.not_false] at h) <;> (try simp only [h]) <;> (try simp only [hsB] at h) <;> try (exfalso; first | omega | contradiction)) | fail)); all_goals clear kxs kk1)
  all_goals first | ((all_goals first | exact RetQ.fr 0 | exact RetQ.fn 0 | fail); done) | (exfalso; simp_all; done)
end Go.AW
