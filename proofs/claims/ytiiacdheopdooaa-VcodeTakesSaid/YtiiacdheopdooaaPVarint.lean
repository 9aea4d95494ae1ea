/-
  Plain: numbers in as few bytes as they need.
-/
import Derived.Test.YtiiacdheopdooaaPCursor
namespace Go.AW

def Cu.vgo : Nat → Nat → Nat → Cu → Nat × Cu
  | 0, _, _, c => (0, c)
  | k + 1, i, n, c => match c.s.drop c.a with
    | [] => (0, ⟨c.s, c.a, 2⟩)
    | b :: _ => if i = 9 ∧ 1 < b.toNat then (0, ⟨c.s, c.a, 5⟩) else if b.toNat = 0 ∧ 0 < i then (0, ⟨c.s, c.a, 4⟩)
      else if b.toNat < 128 then (n + b.toNat % 128 * 128 ^ i, ⟨c.s, c.a + 1, c.e⟩) else Cu.vgo k (i + 1) (n + b.toNat % 128 * 128 ^ i) ⟨c.s, c.a + 1, c.e⟩

/-- A number that is read. -/
def Cu.vtake (c : Cu) : Nat × Cu := if c.e ≠ 0 then (0, c) else Cu.vgo 10 0 0 c

/-- A number's bytes. -/
def vput (n : Nat) : List UInt8 := if n < 128 then [UInt8.ofNat n] else UInt8.ofNat (n % 128 + 128) :: vput (n / 128)
termination_by n
decreasing_by omega

theorem Cu.vgo_ok : ∀ (k i n : Nat) (c : Cu), c.Ok → (Cu.vgo k i n c).2.Ok
  | 0, _, _, c, h => h
  | k + 1, i, n, c, h => by
    unfold Cu.vgo
    split
    · exact h
    · rename_i b r hs
      have hlt : c.a < c.s.length := by
        apply Decidable.byContradiction
        intro hn
        rw [List.drop_eq_nil_of_le (by omega)] at hs
        cases hs
      have h2 : (⟨c.s, c.a + 1, c.e⟩ : Cu).Ok := ⟨h.1, hlt⟩
      split
      · exact h
      split
      · exact h
      split
      · exact h2
      · exact Cu.vgo_ok k _ _ _ h2
theorem Cu.vtake_ok {c : Cu} (h : c.Ok) : c.vtake.2.Ok := by
  unfold Cu.vtake
  split
  · exact h
  · exact Cu.vgo_ok _ _ _ _ h

theorem Cu.vgo_s : ∀ (k i n : Nat) (c : Cu), (Cu.vgo k i n c).2.s = c.s
  | 0, _, _, c => rfl
  | k + 1, i, n, c => by
    unfold Cu.vgo
    split
    · rfl
    · split
      · rfl
      split
      · rfl
      split
      · rfl
      · exact Cu.vgo_s k _ _ _

theorem vput_len (k : Nat) : ∀ (n : Nat), n < 128 ^ (k + 1) → (vput n).length ≤ k + 1 := by
  induction k with
  | zero => intro n h; unfold vput; rw [if_pos (by simpa using h)]; simp
  | succ k ih =>
    intro n h
    unfold vput
    split
    · simp
    · have h2 : n / 128 < 128 ^ (k + 1) := by rw [Nat.div_lt_iff_lt_mul (by omega)]; rw [Nat.pow_succ] at h; exact h
      have := ih _ h2
      simp only [List.length_cons]
      omega
theorem vput_len10 {n : Nat} (h : n < 18446744073709551616) : (vput n).length ≤ 10 := vput_len 9 n (Nat.lt_of_lt_of_le h (by decide))

theorem Cu.vgo_lt : ∀ (k i n : Nat) (c : Cu), k + i = 10 → n < 128 ^ i → (Cu.vgo k i n c).1 < 18446744073709551616
  | 0, _, _, c, _, _ => by show (0 : Nat) < _; decide
  | k + 1, i, n, c, hk, hn => by
    unfold Cu.vgo
    split
    · show (0 : Nat) < _; decide
    · rename_i b r hs
      split
      · show (0 : Nat) < _; decide
      split
      · show (0 : Nat) < _; decide
      have hb : b.toNat % 128 < 128 := Nat.mod_lt _ (by omega)
      have hp : n + b.toNat % 128 * 128 ^ i < 128 ^ (i + 1) := by
        have : (b.toNat % 128 + 1) * 128 ^ i ≤ 128 * 128 ^ i := Nat.mul_le_mul_right _ hb
        rw [Nat.pow_succ, Nat.mul_comm (128 ^ i) 128]
        rw [Nat.add_mul] at this
        omega
      split
      · show n + b.toNat % 128 * 128 ^ i < _
        by_cases h9 : i = 9
        · subst h9
          have : b.toNat ≤ 1 := by rename_i h1 _ _; omega
          have h3 : b.toNat % 128 ≤ 1 := by omega
          have := Nat.mul_le_mul_right (128 ^ 9) h3
          omega
        · have : 128 ^ (i + 1) ≤ 128 ^ 9 := Nat.pow_le_pow_right (by omega) (by omega)
          have : 128 ^ 9 < 18446744073709551616 := by decide
          omega
      · exact Cu.vgo_lt k (i + 1) _ _ (by omega) hp
theorem Cu.vtake_lt (c : Cu) : c.vtake.1 < 18446744073709551616 := by
  unfold Cu.vtake
  split
  · show (0 : Nat) < _; decide
  · exact Cu.vgo_lt 10 0 0 c rfl (by decide)
attribute [irreducible] Cu.vtake
end Go.AW
