/-
  old objects that are read: the document's.
-/
import Derived.Test.YtbjdiepceokmkaaLeg4
namespace Go.AW
open Go Go.Proofs
set_option maxHeartbeats 2000000
set_option maxRecDepth 10000
set_option linter.unusedSimpArgs false
set_option linter.unusedVariables false
attribute [local irreducible] thenQ blockQ RetQ AL AW AC AOp

theorem gd_more {g q : Cu} {S : List Vec} {v y : Vec} (hq : q = gd (decide (v ∉ S)) 6 g) :
    (q.e ≠ 0 → q = gd (decide (v ∉ S ++ [y])) 6 g) ∧ (y ≠ v → q = gd (decide (v ∉ S ++ [y])) 6 g) ∧ (q.e = 0 → y = v → Cu.mk q.s q.a 6 = gd (decide (v ∉ S ++ [y])) 6 g) := by
  by_cases hm : v ∈ S
  · have h1 : gd (decide (v ∉ S)) 6 g = g.fail 6 := by unfold gd; rw [if_neg (by simpa using hm)]
    have h2 : gd (decide (v ∉ S ++ [y])) 6 g = g.fail 6 := by unfold gd; rw [if_neg (by simp [hm])]
    rw [h1] at hq
    rw [h2]
    exact ⟨fun _ => hq, fun _ => hq, fun h => absurd h (by rw [hq]; exact Cu.fail_e (by decide))⟩
  · have h1 : gd (decide (v ∉ S)) 6 g = g := by unfold gd; rw [if_pos (by simpa using hm)]
    rw [h1] at hq
    subst hq
    refine ⟨fun h => (gd_stuck h _ _).symm, fun h => ?_, fun h hy => ?_⟩
    · unfold gd; rw [if_pos (by simp [hm]; exact fun e => h e.symm)]
    · unfold gd; rw [if_neg (by simp [hy]), Cu.fail_ok0 h]

end Go.AW
