/-
  clocks that are read: the document's.
-/
import Derived.Test.YtbjdiepceokmkaaClk2
namespace Go.AW
open Go Go.Proofs
set_option maxHeartbeats 2000000
set_option maxRecDepth 10000
set_option linter.unusedSimpArgs false
set_option linter.unusedVariables false
attribute [local irreducible] thenQ blockQ RetQ AL AW AC AOp

theorem Cu.vgo_err : ∀ (k i n : Nat) (c : Cu), c.e = 0 → (Cu.vgo k i n c).2.e ≠ 0 → (Cu.vgo k i n c).1 = 0
  | 0, i, n, c, hc, h => rfl
  | k + 1, i, n, c, hc, h => by
    unfold Cu.vgo at h ⊢
    split
    · rfl
    · rename_i b r hd
      rw [hd] at h
      simp only at h
      split
      · rfl
      split
      · rfl
      split
      · rename_i h1 h2 h3
        rw [if_neg h1, if_neg h2, if_pos h3] at h
        exact absurd hc h
      · rename_i h1 h2 h3
        rw [if_neg h1, if_neg h2, if_neg h3] at h
        exact Cu.vgo_err k _ _ _ hc h
theorem Cu.vtake_err {c : Cu} (h : c.vtake.2.e ≠ 0) : c.vtake.1 = 0 := by
  unfold Cu.vtake at h ⊢
  split
  · rfl
  · rename_i hc
    rw [if_neg hc] at h
    exact Cu.vgo_err _ _ _ _ (by simpa using hc) h
theorem Cu.bytes_err {c : Cu} {n : Int} (h : (c.bytes n).2.e ≠ 0) : (c.bytes n).1 = [] := by
  unfold Cu.bytes at h ⊢
  split
  · rfl
  · rename_i h1
    rw [if_neg h1] at h
    split
    · rfl
    · rename_i h2
      rw [if_neg h2] at h
      split
      · rfl
      · rename_i h3
        rw [if_neg h3] at h
        exact absurd (by simpa using h1) h
theorem Cu.blob_err {c : Cu} {m : Int} (h : (c.blob m).2.e ≠ 0) : (c.blob m).1 = [] := by
  unfold Cu.blob at h ⊢
  exact Cu.bytes_err h
theorem Cu.flag_err {c : Cu} (h : c.flag.2.e ≠ 0) : c.flag.1 = false := by
  unfold Cu.flag at h ⊢
  simp only at h ⊢
  have hb : c.byte = (((c.bytes 1).1.getD 0 0).toNat, (c.bytes 1).2) := by unfold Cu.byte; rfl
  rw [hb] at h ⊢
  simp only at h ⊢
  by_cases h1 : 1 < ((c.bytes 1).1.getD 0 0).toNat
  · clear h
    exact decide_eq_false (by omega)
  · rw [if_neg h1] at h
    rw [Cu.bytes_err h]
    simp
theorem Cu.dot_bad {v : Vec} {c c1 q : Cu} {t : List UInt8} (hb : c.blob 32 = (t, c1)) (hq : (if t = [] then c1.fail 14 else c1) = q) (he : q.e ≠ 0) : c.dot v = ((t, 0), q) := by
  have hv : q.vtake = (0, q) := Prod.ext (Cu.vtake_err (by rw [trip_v.stuck q he]; exact he)) (trip_v.stuck q he)
  rw [dot_eq hb hq hv, if_pos rfl, Cu.fail_stuck he]

end Go.AW
