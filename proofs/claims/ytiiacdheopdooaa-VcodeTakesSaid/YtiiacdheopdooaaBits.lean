/-
  Bits of numbers, as sums.
-/
import Derived.Test.YtiiacdheopdooaaAwSimp
namespace Go.AW
open Go

theorem and_u8 {x y : Nat} (hx : x < 256) (hy : y < 256) : bitI .and .u8 x y = ((x &&& y : Nat) : Int) := by
  show IntKind.wrap .u8 ((BitVec.ofInt 8 x &&& BitVec.ofInt 8 y).toNat : Int) = _
  rw [BitVec.ofInt_natCast, BitVec.ofInt_natCast, BitVec.toNat_and, BitVec.toNat_ofNat, BitVec.toNat_ofNat, Nat.mod_eq_of_lt (by omega), Nat.mod_eq_of_lt (by omega)]
  have : x &&& y ≤ x := Nat.and_le_left
  exact wrap_u8 (by omega) (by omega)
theorem or_u8 {x y : Nat} (hx : x < 256) (hy : y < 256) : bitI .or .u8 x y = ((x ||| y : Nat) : Int) := by
  show IntKind.wrap .u8 ((BitVec.ofInt 8 x ||| BitVec.ofInt 8 y).toNat : Int) = _
  rw [BitVec.ofInt_natCast, BitVec.ofInt_natCast, BitVec.toNat_or, BitVec.toNat_ofNat, BitVec.toNat_ofNat, Nat.mod_eq_of_lt (by omega), Nat.mod_eq_of_lt (by omega)]
  have : x ||| y < 2 ^ 8 := Nat.or_lt_two_pow (by omega) (by omega)
  exact wrap_u8 (by omega) (by omega)
theorem and_u64 {x y : Nat} (hx : x < 18446744073709551616) (hy : y < 18446744073709551616) : bitI .and .u64 x y = ((x &&& y : Nat) : Int) := by
  show IntKind.wrap .u64 ((BitVec.ofInt 64 x &&& BitVec.ofInt 64 y).toNat : Int) = _
  rw [BitVec.ofInt_natCast, BitVec.ofInt_natCast, BitVec.toNat_and, BitVec.toNat_ofNat, BitVec.toNat_ofNat, Nat.mod_eq_of_lt (by omega), Nat.mod_eq_of_lt (by omega)]
  have : x &&& y ≤ x := Nat.and_le_left
  exact wrap_u64 (by omega) (by omega)
theorem or_u64 {x y : Nat} (hx : x < 18446744073709551616) (hy : y < 18446744073709551616) : bitI .or .u64 x y = ((x ||| y : Nat) : Int) := by
  show IntKind.wrap .u64 ((BitVec.ofInt 64 x ||| BitVec.ofInt 64 y).toNat : Int) = _
  rw [BitVec.ofInt_natCast, BitVec.ofInt_natCast, BitVec.toNat_or, BitVec.toNat_ofNat, BitVec.toNat_ofNat, Nat.mod_eq_of_lt (by omega), Nat.mod_eq_of_lt (by omega)]
  have : x ||| y < 2 ^ 64 := Nat.or_lt_two_pow (by omega) (by omega)
  exact wrap_u64 (by omega) (by omega)
/-- Bits above others are added. -/
theorem or_high {n x i : Nat} (hn : n < 2 ^ i) : n ||| x * 2 ^ i = n + x * 2 ^ i := by
  rw [Nat.or_comm, Nat.add_comm, Nat.mul_comm, Nat.two_pow_add_eq_or_of_lt hn]
theorem and127 (b : UInt8) : bitI .and .u8 (b.toNat : Int) 127 = ((b.toNat % 128 : Nat) : Int) := by
  have h := and_u8 (x := b.toNat) (y := 127) b.toNat_lt (by omega)
  rw [show ((127 : Nat) : Int) = 127 from rfl] at h
  rw [h, show (127 : Nat) = 2 ^ 7 - 1 from rfl, Nat.and_two_pow_sub_one_eq_mod]
theorem pow128 (i : Nat) : 128 ^ i = 2 ^ (7 * i) := by rw [Nat.pow_mul]
/-- One byte of a number more. -/
theorem vstep {n i x : Nat} (hi : i ≤ 9) (hn : n < 128 ^ i) (hx : x < 128) (h9 : i = 9 → x ≤ 1) : bitI .or .u64 (n : Int) (IntKind.wrap .u64 ((x : Int) * 2 ^ (min (7 * (i : Int)).toNat 64))) = ((n + x * 128 ^ i : Nat) : Int) := by
  have h1 : (7 * (i : Int)).toNat = 7 * i := by omega
  rw [h1, Nat.min_eq_left (by omega), show (x : Int) * 2 ^ (7 * i) = ((x * 2 ^ (7 * i) : Nat) : Int) by push_cast; rfl]
  have h2 : x * 2 ^ (7 * i) < 18446744073709551616 := by
    by_cases h : i = 9
    · subst h
      have := Nat.mul_le_mul_right (2 ^ (7 * 9)) (h9 rfl)
      omega
    · have h3 : 2 ^ (7 * i) ≤ 2 ^ 56 := Nat.pow_le_pow_right (by omega) (by omega)
      have := Nat.mul_le_mul (Nat.le_of_lt_succ (show x < 127 + 1 by omega)) h3
      omega
  have h3 : n < 18446744073709551616 := by
    have : 128 ^ i ≤ 128 ^ 9 := Nat.pow_le_pow_right (by omega) hi
    have : 128 ^ 9 < 18446744073709551616 := by decide
    omega
  rw [wrap_u64 (by omega) (by omega), or_u64 h3 h2, or_high (by rw [← pow128]; exact hn), pow128]
end Go.AW
