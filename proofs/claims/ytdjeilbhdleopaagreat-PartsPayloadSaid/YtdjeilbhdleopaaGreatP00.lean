/-
  Plain: bytes that are read from the left.
-/
import GoSem.Op.String
set_option linter.unusedVariables false
set_option linter.unusedSimpArgs false
set_option maxHeartbeats 4000000
set_option maxRecDepth 10000
namespace Go.AW
structure Cu where
  s : List UInt8
  a : Nat
  e : Int
def Cu.Ok (c : Cu) : Prop := c.s.length ≤ 140737488351232 ∧ c.a ≤ c.s.length
def Cu.fail (c : Cu) (f : Int) : Cu := ⟨c.s, c.a, if c.e = 0 then f else c.e⟩
def Cu.bytes (c : Cu) (n : Int) : List UInt8 × Cu :=
  if c.e ≠ 0 then ([], c) else if n < 0 then ([], { c with e := 1 }) else if (n : Int) > c.s.length - c.a then ([], { c with e := 2 })
  else ((c.s.drop c.a).take n.toNat, { c with a := c.a + n.toNat })
def Cu.byte (c : Cu) : Nat × Cu := (((c.bytes 1).1.getD 0 0).toNat, (c.bytes 1).2)
def Cu.fin (c : Cu) : Cu := ⟨c.s, c.a, if c.e = 0 ∧ c.a < c.s.length then 8 else c.e⟩
theorem Cu.fail_ok {c : Cu} {f : Int} (h : c.Ok) : (c.fail f).Ok := by
  exact h
theorem Cu.bytes_ok {c : Cu} {n : Int} (h : c.Ok) : (c.bytes n).2.Ok := by
  unfold Cu.bytes
  split
  · exact h
  split
  · exact h
  split
  · exact h
  · refine ⟨h.1, ?_⟩
    have := h.2
    show c.a + n.toNat ≤ c.s.length
    omega
theorem Cu.byte_ok {c : Cu} (h : c.Ok) : c.byte.2.Ok := Cu.bytes_ok h
theorem take_same {l : List UInt8} {m n : Nat} (h : m = n ∨ (l.length ≤ m ∧ l.length ≤ n)) : l.take m = l.take n := by
  rcases h with rfl | ⟨h1, h2⟩
  · rfl
  · rw [List.take_of_length_le h1, List.take_of_length_le h2]
attribute [irreducible] Cu.byte
end Go.AW
namespace Go.AW
structure Pe where
  b : List UInt8
  m : Int
  e : Int
def Pe.Ok (p : Pe) : Prop := 0 ≤ p.m ∧ p.m ≤ 9223372036854775807 ∧ p.b.length ≤ 140737488355328
def Pe.fail (p : Pe) (f : Int) : Pe := ⟨p.b, p.m, if p.e = 0 then f else p.e⟩
def Pe.text (p : Pe) (s : List UInt8) : Pe :=
  if p.e ≠ 0 then p else if (s.length : Int) > p.m - p.b.length then { p with e := 3 } else { p with b := p.b ++ s }
def Pe.room (p : Pe) (n : Int) : Bool := decide (p.e = 0) && decide (n ≤ p.m - p.b.length)
def Pe.roomed (p : Pe) (n : Int) : Pe := ⟨p.b, p.m, if p.e = 0 ∧ n > p.m - p.b.length then 3 else p.e⟩
def Pe.fin (p : Pe) : List UInt8 × Int := if p.e ≠ 0 then ([], p.e) else (p.b, 0)
def Pe.texts (p : Pe) (l : List (List UInt8)) : Pe := l.foldl Pe.text p
theorem Pe.fail_ok {p : Pe} {f : Int} (h : p.Ok) : (p.fail f).Ok := h
theorem Pe.text_len (p : Pe) (s : List UInt8) : (p.text s).b.length ≤ p.b.length + s.length := by
  unfold Pe.text
  split
  · omega
  split
  · show p.b.length ≤ _; omega
  · simp
theorem Pe.text_m (p : Pe) (s : List UInt8) : (p.text s).m = p.m := by
  unfold Pe.text
  split
  · rfl
  split <;> rfl
theorem Pe.text_fit (p : Pe) (s : List UInt8) : (p.text s).b.length = p.b.length ∨ ((p.text s).b.length : Int) ≤ p.m := by
  unfold Pe.text
  split
  · exact .inl rfl
  split
  · exact .inl rfl
  · right; simp; omega
theorem Pe.text_ok {p : Pe} {s : List UInt8} (h : p.Ok) (hs : p.m ≤ 140737488355328 ∨ p.b.length + s.length ≤ 140737488355328) : (p.text s).Ok := by
  have h1 := Pe.text_len p s
  have h2 := Pe.text_fit p s
  obtain ⟨g1, g2, g3⟩ := h
  refine ⟨?_, ?_, by omega⟩ <;> rw [Pe.text_m]
  · exact g1
  · exact g2
end Go.AW
namespace Go.AW
def Cu.vgo : Nat → Nat → Nat → Cu → Nat × Cu
  | 0, _, _, c => (0, c)
  | k + 1, i, n, c => match c.s.drop c.a with
    | [] => (0, ⟨c.s, c.a, 2⟩)
    | b :: _ => if i = 9 ∧ 1 < b.toNat then (0, ⟨c.s, c.a, 5⟩) else if b.toNat = 0 ∧ 0 < i then (0, ⟨c.s, c.a, 4⟩)
      else if b.toNat < 128 then (n + b.toNat % 128 * 128 ^ i, ⟨c.s, c.a + 1, c.e⟩) else Cu.vgo k (i + 1) (n + b.toNat % 128 * 128 ^ i) ⟨c.s, c.a + 1, c.e⟩
def Cu.vtake (c : Cu) : Nat × Cu := if c.e ≠ 0 then (0, c) else Cu.vgo 10 0 0 c
def vput (n : Nat) : List UInt8 := if n < 128 then [UInt8.ofNat n] else UInt8.ofNat (n % 128 + 128) :: vput (n / 128)
termination_by n
decreasing_by omega
theorem Cu.vgo_ok : ∀ (k i n : Nat) (c : Cu), c.Ok → (Cu.vgo k i n c).2.Ok
  | 0, _, _, c, h => h
  | k + 1, i, n, c, h => by
    unfold Cu.vgo
    split
    · exact h
    · rename_i b r hs
      have hlt : c.a < c.s.length := by
        apply Decidable.byContradiction
        intro hn
        rw [List.drop_eq_nil_of_le (by omega)] at hs
        cases hs
      have h2 : (⟨c.s, c.a + 1, c.e⟩ : Cu).Ok := ⟨h.1, hlt⟩
      split
      · exact h
      split
      · exact h
      split
      · exact h2
      · exact Cu.vgo_ok k _ _ _ h2
theorem Cu.vtake_ok {c : Cu} (h : c.Ok) : c.vtake.2.Ok := by
  unfold Cu.vtake
  split
  · exact h
  · exact Cu.vgo_ok _ _ _ _ h
theorem Cu.vgo_s : ∀ (k i n : Nat) (c : Cu), (Cu.vgo k i n c).2.s = c.s
  | 0, _, _, c => rfl
  | k + 1, i, n, c => by
    unfold Cu.vgo
    split
    · rfl
    · split
      · rfl
      split
      · rfl
      split
      · rfl
      · exact Cu.vgo_s k _ _ _
theorem vput_len (k : Nat) : ∀ (n : Nat), n < 128 ^ (k + 1) → (vput n).length ≤ k + 1 := by
  induction k with
  | zero => intro n h; unfold vput; rw [if_pos (by simpa using h)]; simp
  | succ k ih =>
    intro n h
    unfold vput
    split
    · simp
    · have h2 : n / 128 < 128 ^ (k + 1) := by rw [Nat.div_lt_iff_lt_mul (by omega)]; rw [Nat.pow_succ] at h; exact h
      have := ih _ h2
      simp only [List.length_cons]
      omega
theorem vput_len10 {n : Nat} (h : n < 18446744073709551616) : (vput n).length ≤ 10 := vput_len 9 n (Nat.lt_of_lt_of_le h (by decide))
theorem Cu.vgo_lt : ∀ (k i n : Nat) (c : Cu), k + i = 10 → n < 128 ^ i → (Cu.vgo k i n c).1 < 18446744073709551616
  | 0, _, _, c, _, _ => by show (0 : Nat) < _; decide
  | k + 1, i, n, c, hk, hn => by
    unfold Cu.vgo
    split
    · show (0 : Nat) < _; decide
    · rename_i b r hs
      split
      · show (0 : Nat) < _; decide
      split
      · show (0 : Nat) < _; decide
      have hb : b.toNat % 128 < 128 := Nat.mod_lt _ (by omega)
      have hp : n + b.toNat % 128 * 128 ^ i < 128 ^ (i + 1) := by
        have : (b.toNat % 128 + 1) * 128 ^ i ≤ 128 * 128 ^ i := Nat.mul_le_mul_right _ hb
        rw [Nat.pow_succ, Nat.mul_comm (128 ^ i) 128]
        rw [Nat.add_mul] at this
        omega
      split
      · show n + b.toNat % 128 * 128 ^ i < _
        by_cases h9 : i = 9
        · subst h9
          have : b.toNat ≤ 1 := by rename_i h1 _ _; omega
          have h3 : b.toNat % 128 ≤ 1 := by omega
          have := Nat.mul_le_mul_right (128 ^ 9) h3
          omega
        · have : 128 ^ (i + 1) ≤ 128 ^ 9 := Nat.pow_le_pow_right (by omega) (by omega)
          have : 128 ^ 9 < 18446744073709551616 := by decide
          omega
      · exact Cu.vgo_lt k (i + 1) _ _ (by omega) hp
theorem Cu.vtake_lt (c : Cu) : c.vtake.1 < 18446744073709551616 := by
  unfold Cu.vtake
  split
  · show (0 : Nat) < _; decide
  · exact Cu.vgo_lt 10 0 0 c rfl (by decide)
attribute [irreducible] Cu.vtake
end Go.AW
namespace Go.AW
def Cu.count (c : Cu) (max : Int) : Nat × Cu :=
  if c.vtake.2.e ≠ 0 then (0, c.vtake.2) else if max.toNat < c.vtake.1 then (0, c.vtake.2.fail 3) else c.vtake
def Cu.blob (c : Cu) (max : Int) : List UInt8 × Cu := (c.count max).2.bytes (c.count max).1
def Cu.flag (c : Cu) : Bool × Cu := (decide (c.byte.1 = 1), if 1 < c.byte.1 then c.byte.2.fail 13 else c.byte.2)
def Pe.blob (p : Pe) (max : Int) (s : List UInt8) : Pe := if max.toNat < s.length then p.fail 3 else (p.text (vput s.length)).text s
def Pe.blobs (p : Pe) (max : Int) (l : List (List UInt8)) : Pe := l.foldl (fun p s => p.blob max s) p
def Pe.count (p : Pe) (max n : Int) : Pe := if n < 0 then p.fail 1 else if max.toNat < n then p.fail 3 else p.text (vput n.toNat)
def Pe.flag (p : Pe) (b : Bool) : Pe := p.text [if b then 1 else 0]
theorem Cu.count_ok {c : Cu} {max : Int} (h : c.Ok) : (c.count max).2.Ok := by
  unfold Cu.count
  split
  · exact Cu.vtake_ok h
  split
  · exact Cu.fail_ok (Cu.vtake_ok h)
  · exact Cu.vtake_ok h
theorem Cu.blob_ok {c : Cu} {max : Int} (h : c.Ok) : (c.blob max).2.Ok := Cu.bytes_ok (Cu.count_ok h)
theorem Cu.flag_ok {c : Cu} (h : c.Ok) : c.flag.2.Ok := by
  unfold Cu.flag
  show (if 1 < c.byte.1 then c.byte.2.fail 13 else c.byte.2).Ok
  split
  · exact Cu.fail_ok (Cu.byte_ok h)
  · exact Cu.byte_ok h
theorem Pe.blob_ok {p : Pe} {max : Int} {s : List UInt8} (h : p.Ok) (hs : p.m ≤ 140737488355328 ∨ p.b.length + 10 + s.length ≤ 140737488355328) (hv : s.length < 18446744073709551616) : (p.blob max s).Ok := by
  unfold Pe.blob
  split
  · exact h
  · have h1 := Pe.text_len p (vput s.length)
    have h2 := Pe.text_m p (vput s.length)
    have h3 := vput_len10 hv
    exact Pe.text_ok (Pe.text_ok h (by omega)) (by omega)
theorem Pe.fail_stuck {p : Pe} (h : p.e ≠ 0) (f : Int) : p.fail f = p := by unfold Pe.fail; rw [if_neg h]
attribute [irreducible] Cu.flag Cu.blob Cu.count
end Go.AW
namespace Go.AW
open Go
abbrev lessB (x y : List UInt8) : Bool := Op.bytesLess x y
theorem less_nil_cons (b : UInt8) (y : List UInt8) : Op.bytesLess [] (b :: y) = true := by simp [Op.bytesLess]
theorem less_nil (x : List UInt8) : Op.bytesLess x [] = false := by cases x <;> simp [Op.bytesLess]
theorem less_cons (a b : UInt8) (x y : List UInt8) : Op.bytesLess (a :: x) (b :: y) = (decide (a < b) || (a == b && Op.bytesLess x y)) := by simp [Op.bytesLess]
theorem less_tri : ∀ x y : List UInt8, (Op.bytesLess x y || decide (x = y)) = !Op.bytesLess y x
  | [], [] => by simp [less_nil]
  | [], b :: y => by simp [less_nil_cons, less_nil]
  | a :: x, [] => by simp [less_nil_cons, less_nil]
  | a :: x, b :: y => by
    have ih := less_tri x y
    rw [less_cons, less_cons]
    by_cases h : a = b
    · subst h
      simp
      simpa using ih
    · have h2 : ¬ b = a := fun e => h e.symm
      have h3 : decide (a < b) = !decide (b < a) := by
        by_cases h4 : a < b
        · have h5 : ¬ b < a := fun h5 => absurd (UInt8.lt_trans h4 h5) (UInt8.lt_irrefl a)
          simp [h4, h5]
        · have h5 : b < a := by
            rcases UInt8.lt_or_lt_of_ne h with h6 | h6
            · exact absurd h6 h4
            · exact h6
          simp [h4, h5]
      have e1 : (a == b) = false := by simp [h]
      have e2 : (b == a) = false := by simp [h2]
      simp [h, h3, e1, e2]
def rgo : List UInt8 → List (List UInt8) → Int → Int
  | _, [], _ => -1
  | p, x :: r, i => if Op.bytesLess p x = true then rgo x r (i + 1) else i
def rise : List (List UInt8) → Int
  | [] => -1
  | x :: r => rgo x r 1
end Go.AW
namespace Go.AW
structure Trip {α : Type} (R : Cu → α × Cu) (enc : α → List UInt8) (good : α → Prop) : Prop where
  stuck : ∀ c, c.e ≠ 0 → (R c).2 = c
  text : ∀ c, (R c).2.s = c.s
  fore : ∀ c x r, good x → c.e = 0 → c.a ≤ c.s.length → c.s.drop c.a = enc x ++ r → R c = (x, ⟨c.s, c.a + (enc x).length, 0⟩)
  back : ∀ c, (R c).2.e = 0 → good (R c).1 ∧ (R c).2.a = c.a + (enc (R c).1).length ∧ c.s.drop c.a = enc (R c).1 ++ c.s.drop (R c).2.a
  cut : ∀ c x r, good x → c.e = 0 → c.a ≤ c.s.length → enc x = c.s.drop c.a ++ r → r ≠ [] → (R c).2.e = 2
theorem vput_small {n : Nat} (h : n < 128) : vput n = [UInt8.ofNat n] := by unfold vput; rw [if_pos h]
theorem vput_great {n : Nat} (h : ¬ n < 128) : vput n = UInt8.ofNat (n % 128 + 128) :: vput (n / 128) := by rw [vput]; rw [if_neg h]
theorem u8_ofNat {n : Nat} (h : n < 256) : (UInt8.ofNat n).toNat = n := by simp; omega
theorem Cu.vgo_fore : ∀ (k i n m : Nat) (c : Cu) (r : List UInt8), k + i = 10 → (i = 0 ∨ 0 < m) → n + m * 128 ^ i < 18446744073709551616 → c.s.drop c.a = vput m ++ r →
    Cu.vgo k i n c = (n + m * 128 ^ i, ⟨c.s, c.a + (vput m).length, c.e⟩)
  | 0, i, n, m, c, r, hk, hi, hb, hd => by
    exfalso
    have : i = 10 := by omega
    subst this
    have : 0 < m := by omega
    have := Nat.mul_le_mul_right (128 ^ 10) this
    have : 18446744073709551616 < 1 * 128 ^ 10 := by decide
    omega
  | k + 1, i, n, m, c, r, hk, hi, hb, hd => by
    have h9 : i = 9 → m < 2 := by
      rintro rfl
      apply Decidable.byContradiction
      intro hn
      have := Nat.mul_le_mul_right (128 ^ 9) (show 2 ≤ m by omega)
      have : 2 * 128 ^ 9 = 18446744073709551616 := by decide
      omega
    unfold Cu.vgo
    by_cases hm : m < 128
    · rw [vput_small hm] at hd ⊢
      have hu := u8_ofNat (show m < 256 by omega)
      rw [hd]
      simp only [List.cons_append, List.nil_append, hu]
      rw [if_neg (by omega), if_neg (by omega), if_pos hm, Nat.mod_eq_of_lt hm]
      rfl
    · rw [vput_great hm] at hd ⊢
      have hu := u8_ofNat (show m % 128 + 128 < 256 by omega)
      have hd2 : c.s.drop (c.a + 1) = vput (m / 128) ++ r := by rw [← List.drop_drop, hd]; rfl
      rw [hd]
      simp only [List.cons_append, hu]
      rw [if_neg (by omega), if_neg (by omega), if_neg (by omega), show (m % 128 + 128) % 128 = m % 128 by omega]
      have hs : n + m % 128 * 128 ^ i + m / 128 * 128 ^ (i + 1) = n + m * 128 ^ i := by
        have e : m / 128 * 128 ^ (i + 1) = (m / 128 * 128) * 128 ^ i := by rw [Nat.pow_succ, Nat.mul_comm (128 ^ i) 128, Nat.mul_assoc]
        rw [e, Nat.add_assoc, ← Nat.add_mul]
        congr 2
        omega
      rw [Cu.vgo_fore k (i + 1) _ (m / 128) ⟨c.s, c.a + 1, c.e⟩ r (by omega) (by omega) (by rw [hs]; exact hb) hd2, hs]
      simp only [List.length_cons]
      congr 2
      omega
theorem Cu.vgo_back : ∀ (k i n : Nat) (c : Cu), k + i = 10 → 0 < k → c.e = 0 → (Cu.vgo k i n c).2.e = 0 →
    ∃ m, (i = 0 ∨ 0 < m) ∧ (Cu.vgo k i n c).1 = n + m * 128 ^ i ∧ (Cu.vgo k i n c).2.a = c.a + (vput m).length ∧ c.s.drop c.a = vput m ++ c.s.drop (Cu.vgo k i n c).2.a
  | 0, i, n, c, hk, h0, hc, he => by omega
  | k + 1, i, n, c, hk, h0, hc, he => by
    unfold Cu.vgo at he ⊢
    cases hd : c.s.drop c.a with
    | nil => rw [hd] at he; simp at he
    | cons b t =>
      rw [hd] at he
      simp only at he ⊢
      have hbl := b.toNat_lt
      have hd2 : c.s.drop (c.a + 1) = t := by rw [← List.drop_drop, hd]; rfl
      by_cases h1 : i = 9 ∧ 1 < b.toNat
      · rw [if_pos h1] at he; simp at he
      rw [if_neg h1] at he ⊢
      by_cases h2 : b.toNat = 0 ∧ 0 < i
      · rw [if_pos h2] at he; simp at he
      rw [if_neg h2] at he ⊢
      by_cases h3 : b.toNat < 128
      · rw [if_pos h3] at he ⊢
        refine ⟨b.toNat, by omega, by rw [Nat.mod_eq_of_lt h3], by rw [vput_small h3]; rfl, ?_⟩
        rw [vput_small h3, hd2]
        simp
      · rw [if_neg h3] at he ⊢
        obtain ⟨m, g1, g2, g3, g4⟩ := Cu.vgo_back k (i + 1) _ ⟨c.s, c.a + 1, c.e⟩ (by omega) (by omega) hc he
        have hq : (b.toNat % 128 + m * 128) / 128 = m := by omega
        have hr : (b.toNat % 128 + m * 128) % 128 = b.toNat % 128 := by omega
        have hge : ¬ b.toNat % 128 + m * 128 < 128 := by omega
        refine ⟨b.toNat % 128 + m * 128, by omega, ?_, ?_, ?_⟩
        · rw [g2, Nat.pow_succ, Nat.add_mul]
          rw [show m * (128 ^ i * 128) = m * 128 * 128 ^ i by rw [Nat.mul_comm (128 ^ i) 128, Nat.mul_assoc]]
          omega
        · rw [vput_great hge, g3, hq]
          simp only [List.length_cons]
          omega
        · rw [vput_great hge, hr, hq]
          have : UInt8.ofNat (b.toNat % 128 + 128) = b := by
            rw [show b.toNat % 128 + 128 = b.toNat by omega]
            exact UInt8.ofNat_toNat
          rw [this, List.cons_append, ← g4]
          rw [show c.s.drop (c.a + 1) = t from hd2]
theorem Cu.vgo_cut : ∀ (k i n m : Nat) (c : Cu) (r : List UInt8), k + i = 10 → (i = 0 ∨ 0 < m) → n + m * 128 ^ i < 18446744073709551616 → vput m = c.s.drop c.a ++ r → r ≠ [] →
    (Cu.vgo k i n c).2.e = 2
  | 0, i, n, m, c, r, hk, hi, hb, hd, hr => by
    exfalso
    have : i = 10 := by omega
    subst this
    have : 0 < m := by omega
    have := Nat.mul_le_mul_right (128 ^ 10) this
    have : 18446744073709551616 < 1 * 128 ^ 10 := by decide
    omega
  | k + 1, i, n, m, c, r, hk, hi, hb, hd, hr => by
    have h9 : i = 9 → m < 2 := by
      rintro rfl
      apply Decidable.byContradiction
      intro hn
      have := Nat.mul_le_mul_right (128 ^ 9) (show 2 ≤ m by omega)
      have : 2 * 128 ^ 9 = 18446744073709551616 := by decide
      omega
    unfold Cu.vgo
    cases hc : c.s.drop c.a with
    | nil => rfl
    | cons b t =>
      rw [hc] at hd
      simp only
      by_cases hm : m < 128
      · rw [vput_small hm] at hd
        simp at hd
        exact absurd hd.2.2 hr
      · rw [vput_great hm] at hd
        simp only [List.cons_append, List.cons.injEq] at hd
        have hu := u8_ofNat (show m % 128 + 128 < 256 by omega)
        rw [hd.1] at hu
        rw [hu, if_neg (by omega), if_neg (by omega), if_neg (by omega), show (m % 128 + 128) % 128 = m % 128 by omega]
        have hd2 : c.s.drop (c.a + 1) = t := by rw [← List.drop_drop, hc]; rfl
        have hs : n + m % 128 * 128 ^ i + m / 128 * 128 ^ (i + 1) = n + m * 128 ^ i := by
          have e : m / 128 * 128 ^ (i + 1) = (m / 128 * 128) * 128 ^ i := by rw [Nat.pow_succ, Nat.mul_comm (128 ^ i) 128, Nat.mul_assoc]
          rw [e, Nat.add_assoc, ← Nat.add_mul]
          congr 2
          omega
        exact Cu.vgo_cut k (i + 1) _ (m / 128) ⟨c.s, c.a + 1, c.e⟩ r (by omega) (by omega) (by rw [hs]; exact hb) (by rw [hd.2]; congr 1; exact hd2.symm) hr
theorem trip_v : Trip Cu.vtake vput (· < 18446744073709551616) where
  stuck := fun c h => by unfold Cu.vtake; rw [if_pos h]
  text := fun c => by
    unfold Cu.vtake
    split
    · rfl
    · exact Cu.vgo_s _ _ _ _
  fore := fun c x r hx hc ha hd => by
    unfold Cu.vtake
    rw [if_neg (by simpa using hc), Cu.vgo_fore 10 0 0 x c r rfl (.inl rfl) (by simpa using hx) hd, hc]
    simp
  back := fun c he => by
    have hlt := Cu.vtake_lt c
    unfold Cu.vtake at he hlt ⊢
    by_cases hc : c.e = 0
    · rw [if_neg (by simpa using hc)] at he hlt ⊢
      obtain ⟨m, h1, h2, h3, h4⟩ := Cu.vgo_back 10 0 0 c rfl (by decide) hc he
      simp at h2
      rw [h2] at hlt ⊢
      exact ⟨hlt, h3, h4⟩
    · rw [if_pos hc] at he; exact absurd he hc
  cut := fun c x r hx hc ha hd hr => by
    unfold Cu.vtake
    rw [if_neg (by simpa using hc)]
    exact Cu.vgo_cut 10 0 0 x c r rfl (.inl rfl) (by simpa using hx) hd hr
theorem Cu.bytes_stuck {c : Cu} (n : Int) (h : c.e ≠ 0) : c.bytes n = ([], c) := by unfold Cu.bytes; rw [if_pos h]
theorem Cu.bytes_s (c : Cu) (n : Int) : (c.bytes n).2.s = c.s := by
  unfold Cu.bytes
  split
  · rfl
  split
  · rfl
  split <;> rfl
theorem trip_bytes (n : Nat) : Trip (fun c => Cu.bytes c n) id (·.length = n) where
  stuck := fun c h => by rw [Cu.bytes_stuck _ h]
  text := fun c => Cu.bytes_s c n
  fore := fun c x r hx hc ha hd => by
    have hl := congrArg List.length hd
    simp at hl
    unfold Cu.bytes
    rw [if_neg (by simpa using hc), if_neg (by omega), if_neg (by omega)]
    obtain ⟨s, a, e⟩ := c
    simp only at hc hd ⊢
    subst hc
    simp only [id] at hd ⊢
    rw [hd, Int.toNat_natCast, ← hx, List.take_left']
    rfl
  back := fun c he => by
    unfold Cu.bytes at he ⊢
    by_cases hc : c.e = 0
    · rw [if_neg (by simpa using hc), if_neg (by omega)] at he ⊢
      split at he
      · simp at he
      · rename_i h
        rw [if_neg h]
        have hl : ((c.s.drop c.a).take n).length = n := by rw [List.length_take, List.length_drop]; omega
        refine ⟨by simpa using hl, by simp [-List.length_take]; rw [hl], ?_⟩
        simp only [id, Int.toNat_natCast]
        rw [← List.drop_drop, List.take_append_drop]
    · rw [if_pos hc] at he; exact absurd he hc
  cut := fun c x r hx hc ha hd hr => by
    have hl := congrArg List.length hd
    simp at hl
    have : 0 < r.length := List.length_pos_iff.2 hr
    unfold Cu.bytes
    rw [if_neg (by simpa using hc), if_neg (by omega), if_pos (by omega)]
theorem Cu.fail_stuck {c : Cu} (h : c.e ≠ 0) (f : Int) : c.fail f = c := by unfold Cu.fail; rw [if_neg h]
theorem Cu.fail_e {c : Cu} {f : Int} (hf : f ≠ 0) : (c.fail f).e ≠ 0 := by
  unfold Cu.fail
  show (if c.e = 0 then f else c.e) ≠ 0
  split <;> assumption
theorem trip_count (max : Int) : Trip (fun c => Cu.count c max) vput (fun n => n ≤ max.toNat ∧ n < 18446744073709551616) where
  stuck := fun c h => by
    unfold Cu.count
    rw [trip_v.stuck c h, if_pos h]
  text := fun c => by
    unfold Cu.count
    split
    · exact trip_v.text c
    split
    · exact trip_v.text c
    · exact trip_v.text c
  fore := fun c x r hx hc ha hd => by
    unfold Cu.count
    rw [trip_v.fore c x r hx.2 hc ha hd, if_neg (by simp), if_neg (by simpa using hx.1)]
  back := fun c he => by
    unfold Cu.count at he ⊢
    by_cases h1 : c.vtake.2.e = 0
    · rw [if_neg (by simpa using h1)] at he ⊢
      by_cases h2 : max.toNat < c.vtake.1
      · rw [if_pos h2] at he; exact absurd he (Cu.fail_e (by decide))
      · rw [if_neg h2] at he ⊢
        obtain ⟨g1, g2, g3⟩ := trip_v.back c h1
        exact ⟨⟨by omega, g1⟩, g2, g3⟩
    · rw [if_pos h1] at he; exact absurd he h1
  cut := fun c x r hx hc ha hd hr => by
    have := trip_v.cut c x r hx.2 hc ha hd hr
    unfold Cu.count
    rw [if_pos (by rw [this]; decide)]
    exact this
def eblob (s : List UInt8) : List UInt8 := vput s.length ++ s
theorem Trip.bind {α β : Type} {R : Cu → α × Cu} {encR : α → List UInt8} {goodR : α → Prop} {S : α → Cu → β × Cu} {encS : α → β → List UInt8} {goodS : α → β → Prop} {key : β → α} {enc : β → List UInt8} {good : β → Prop}
    (hR : Trip R encR goodR) (hS : ∀ a, goodR a → Trip (S a) (encS a) (goodS a)) (hst : ∀ a c, c.e ≠ 0 → (S a c).2 = c) (htx : ∀ a c, (S a c).2.s = c.s)
    (he : ∀ b, enc b = encR (key b) ++ encS (key b) b) (hg : ∀ b, good b ↔ goodR (key b) ∧ goodS (key b) b) (hk : ∀ a b, goodR a → goodS a b → key b = a) :
    Trip (fun c => S (R c).1 (R c).2) enc good where
  stuck := fun c h => by
    have := hR.stuck c h
    show (S (R c).1 (R c).2).2 = c
    rw [this, hst _ _ h]
  text := fun c => by rw [htx, hR.text]
  fore := fun c x r hx hc ha hd => by
    obtain ⟨g1, g2⟩ := (hg x).1 hx
    rw [he, List.append_assoc] at hd
    have h1 := hR.fore c (key x) _ g1 hc ha hd
    show S (R c).1 (R c).2 = _
    rw [h1]
    have hd2 : c.s.drop (c.a + (encR (key x)).length) = encS (key x) x ++ r := by rw [← List.drop_drop, hd, List.drop_left']; rfl
    have hl := congrArg List.length hd
    rw [List.length_append, List.length_drop] at hl
    have h2 := (hS (key x) g1).fore ⟨c.s, c.a + (encR (key x)).length, 0⟩ x r g2 rfl (by show c.a + _ ≤ c.s.length; omega) hd2
    show S (key x) _ = _
    rw [h2, he, List.length_append, Nat.add_assoc]
  back := fun c h => by
    have h : (S (R c).1 (R c).2).2.e = 0 := h
    show good (S (R c).1 (R c).2).1 ∧ (S (R c).1 (R c).2).2.a = c.a + (enc (S (R c).1 (R c).2).1).length ∧ c.s.drop c.a = enc (S (R c).1 (R c).2).1 ++ c.s.drop (S (R c).1 (R c).2).2.a
    have h1 : (R c).2.e = 0 := by
      apply Decidable.byContradiction
      intro hn
      rw [hst _ _ hn] at h
      exact hn h
    obtain ⟨g1, g2, g3⟩ := hR.back c h1
    obtain ⟨k1, k2, k3⟩ := (hS _ g1).back _ h
    have hkk := hk _ _ g1 k1
    have ht := hR.text c
    rw [ht] at k3
    generalize (S (R c).1 (R c).2) = z at *
    refine ⟨(hg _).2 ⟨by rw [hkk]; exact g1, by rw [hkk]; exact k1⟩, ?_, ?_⟩
    · rw [k2, g2, he, hkk, List.length_append]; omega
    · rw [g3, k3, he, hkk, List.append_assoc]
  cut := fun c x r hx hc ha hd hr => by
    obtain ⟨g1, g2⟩ := (hg x).1 hx
    rw [he] at hd
    show (S (R c).1 (R c).2).2.e = 2
    by_cases hl : (c.s.drop c.a).length < (encR (key x)).length
    · have h1 : encR (key x) = c.s.drop c.a ++ (encR (key x)).drop (c.s.drop c.a).length := by
        have e1 := congrArg (List.take (c.s.drop c.a).length) hd
        rw [List.take_left' rfl, List.take_append_of_le_length (by omega)] at e1
        rw (config := { occs := .pos [1] }) [← List.take_append_drop (c.s.drop c.a).length (encR (key x)), e1]
      have h2 := hR.cut c (key x) _ g1 hc ha h1 (by
        intro e
        have := congrArg List.length e
        simp only [List.length_drop, List.length_nil] at this hl
        omega)
      rw [hst _ _ (by rw [h2]; decide), h2]
    · have e1 : c.s.drop c.a = encR (key x) ++ (c.s.drop c.a).drop (encR (key x)).length := by
        have e1 := congrArg (List.take (encR (key x)).length) hd
        rw [List.take_left' rfl, List.take_append_of_le_length (by omega)] at e1
        rw (config := { occs := .pos [1] }) [e1]
        exact (List.take_append_drop _ _).symm
      have h1 := hR.fore c (key x) _ g1 hc ha e1
      rw [h1]
      have hl2 := congrArg List.length e1
      rw [List.length_append, List.length_drop] at hl2
      refine (hS (key x) g1).cut ⟨c.s, c.a + (encR (key x)).length, 0⟩ x r g2 rfl (by show c.a + _ ≤ c.s.length; omega) ?_ hr
      rw [e1, List.append_assoc] at hd
      have := List.append_cancel_left hd
      rw [this]
      simp only [List.drop_drop]
theorem trip_blob (max : Int) : Trip (fun c => Cu.blob c max) eblob (fun s => s.length ≤ max.toNat ∧ s.length < 18446744073709551616) := by
  have : (fun c => Cu.blob c max) = fun c => (fun (n : Nat) c => Cu.bytes c n) (Cu.count c max).1 (Cu.count c max).2 := by
    funext c; unfold Cu.blob; rfl
  rw [this]
  exact Trip.bind (trip_count max) (fun a _ => trip_bytes a) (fun a c h => by rw [Cu.bytes_stuck _ h]) (fun a c => Cu.bytes_s c a) (key := List.length) (fun b => rfl) (fun b => ⟨fun h => ⟨h, rfl⟩, fun h => h.1⟩) (fun a b _ h => h)
def eflag (b : Bool) : List UInt8 := [if b then 1 else 0]
theorem Pe.fail_e {p : Pe} {f : Int} (hf : f ≠ 0) : (p.fail f).e ≠ 0 := by
  unfold Pe.fail
  show (if p.e = 0 then f else p.e) ≠ 0
  split <;> assumption
end Go.AW
namespace Go.AW
structure Ac where
  k : Int
  m : Int
  n : Int
  s : List UInt8
  b : Bool
def Pe.act (p : Pe) (a : Ac) : Pe := if a.k = 0 then p.blob a.m a.s else if a.k = 1 then p.count a.m a.n else p.flag a.b
def Pe.acts (p : Pe) (l : List Ac) : Pe := l.foldl Pe.act p
def Cu.act (c : Cu) (a : Ac) : Cu := if a.k = 0 then (c.blob a.m).2 else if a.k = 1 then (c.count a.m).2 else c.flag.2
def Cu.acts (c : Cu) (l : List Ac) : Cu := l.foldl Cu.act c
def eact (a : Ac) : List UInt8 := if a.k = 0 then eblob a.s else if a.k = 1 then vput a.n.toNat else eflag a.b
def gact (a : Ac) : Prop := if a.k = 0 then a.s.length ≤ a.m.toNat else if a.k = 1 then 0 ≤ a.n ∧ a.n.toNat ≤ a.m.toNat else True
end Go.AW
namespace Go.AW
def gd (b : Bool) (f : Int) (c : Cu) : Cu := if b = true then c else c.fail f
theorem gd_s (b : Bool) (f : Int) (c : Cu) : (gd b f c).s = c.s := by unfold gd; split <;> rfl
theorem gd_stuck {c : Cu} (h : c.e ≠ 0) (b : Bool) (f : Int) : gd b f c = c := by unfold gd; rw [Cu.fail_stuck h, ite_self]
theorem gd_ok {c : Cu} {b : Bool} {f : Int} (h : c.Ok) : (gd b f c).Ok := by unfold gd; split <;> exact h
theorem gd_e {c : Cu} {b : Bool} {f : Int} (hf : f ≠ 0) (h : (gd b f c).e = 0) : b = true ∧ gd b f c = c := by
  unfold gd at h ⊢
  by_cases hb : b = true
  · rw [if_pos hb] at h ⊢; exact ⟨hb, rfl⟩
  · rw [if_neg hb] at h; exact absurd h (Cu.fail_e hf)
theorem Trip.guard {α : Type} {R : Cu → α × Cu} {enc : α → List UInt8} {good : α → Prop} (h : Trip R enc good) (ok : α → Bool) {f : Int} (hf : f ≠ 0) : Trip (fun c => ((R c).1, gd (ok (R c).1) f (R c).2)) enc (fun x => good x ∧ ok x = true) where
  stuck := fun c hc => by
    show gd _ f (R c).2 = c
    rw [h.stuck c hc, gd_stuck hc]
  text := fun c => by
    show (gd _ f (R c).2).s = c.s
    rw [gd_s, h.text]
  fore := fun c x r hx hc ha hd => by
    have := h.fore c x r hx.1 hc ha hd
    rw [this]
    simp only [hx.2, gd, if_true]
  back := fun c he => by
    obtain ⟨h1, h2⟩ := gd_e hf he
    simp only at he ⊢
    rw [h2] at he ⊢
    obtain ⟨g1, g2, g3⟩ := h.back c he
    exact ⟨⟨g1, h1⟩, g2, g3⟩
  cut := fun c x r hx hc ha hd hr => by
    have := h.cut c x r hx.1 hc ha hd hr
    show (gd _ f (R c).2).e = 2
    rw [gd_stuck (by rw [this]; decide), this]
def Cu.many {α κ : Type} (R : κ → Cu → α × Cu) (next : κ → α → κ) : Nat → κ → Cu → List α × Cu
  | 0, _, c => ([], c)
  | n + 1, k, c => ((R k c).1 :: (Cu.many R next n (next k (R k c).1) (R k c).2).1, (Cu.many R next n (next k (R k c).1) (R k c).2).2)
def goods {α κ : Type} (good : κ → α → Prop) (next : κ → α → κ) : κ → List α → Prop
  | _, [] => True
  | k, x :: l => good k x ∧ goods good next (next k x) l
section
variable {α κ : Type} {R : κ → Cu → α × Cu} {next : κ → α → κ} {enc : α → List UInt8} {good : κ → α → Prop}
theorem Cu.many_stuck (hst : ∀ k c, c.e ≠ 0 → (R k c).2 = c) : ∀ (n : Nat) (k : κ) (c : Cu), c.e ≠ 0 → (Cu.many R next n k c).2 = c
  | 0, k, c, h => rfl
  | n + 1, k, c, h => by
    show (Cu.many R next n _ (R k c).2).2 = c
    rw [hst k c h]
    exact Cu.many_stuck hst n _ c h
theorem Cu.many_ok (hok : ∀ k c, c.Ok → (R k c).2.Ok) : ∀ (n : Nat) (k : κ) (c : Cu), c.Ok → (Cu.many R next n k c).2.Ok
  | 0, k, c, h => h
  | n + 1, k, c, h => Cu.many_ok hok n _ _ (hok k c h)
theorem trip_many (h : ∀ k, Trip (R k) enc (good k)) : ∀ (n : Nat) (k : κ), Trip (Cu.many R next n k) (fun l => (l.map enc).flatten) (fun l => l.length = n ∧ goods good next k l)
  | 0, k => {
      stuck := fun c hc => rfl
      text := fun c => rfl
      fore := fun c x r hx hc ha hd => by
        obtain rfl := List.length_eq_zero_iff.1 hx.1
        obtain ⟨s, a, e⟩ := c
        simp only at hc
        subst hc
        simp [Cu.many]
      back := fun c he => by simp [Cu.many, goods]
      cut := fun c x r hx hc ha hd hr => by
        obtain rfl := List.length_eq_zero_iff.1 hx.1
        simp at hd
        exact absurd hd.2 hr }
  | n + 1, k => by
    have ih := trip_many h n
    have hst : ∀ k c, c.e ≠ 0 → (R k c).2 = c := fun k c => (h k).stuck c
    have htx : ∀ k c, (R k c).2.s = c.s := fun k => (h k).text
    have hn : ∀ a, Trip (fun c => (a :: (Cu.many R next n (next k a) c).1, (Cu.many R next n (next k a) c).2)) (fun l : List α => (l.tail.map enc).flatten) (fun l => ∃ t, l = a :: t ∧ t.length = n ∧ goods good next (next k a) t) := fun a => {
      stuck := fun c hc => (ih (next k a)).stuck c hc
      text := fun c => (ih (next k a)).text c
      fore := fun c x r hx hc ha hd => by
        obtain ⟨t, rfl, h1, h2⟩ := hx
        have := (ih (next k a)).fore c t r ⟨h1, h2⟩ hc ha hd
        simp only [this]
        rfl
      back := fun c he => by
        obtain ⟨g1, g2, g3⟩ := (ih (next k a)).back c he
        exact ⟨⟨_, rfl, g1.1, g1.2⟩, g2, g3⟩
      cut := fun c x r hx hc ha hd hr => by
        obtain ⟨t, rfl, h1, h2⟩ := hx
        exact (ih (next k a)).cut c t r ⟨h1, h2⟩ hc ha hd hr }
    have := Trip.bind (R := R k) (encR := enc) (goodR := good k) (S := fun a c => (a :: (Cu.many R next n (next k a) c).1, (Cu.many R next n (next k a) c).2)) (encS := fun _ l => (l.tail.map enc).flatten)
      (goodS := fun a l => ∃ t, l = a :: t ∧ t.length = n ∧ goods good next (next k a) t) (key := fun l => l.headD (R k ⟨[], 0, 1⟩).1) (enc := fun l => if l = [] then enc (R k ⟨[], 0, 1⟩).1 else (l.map enc).flatten) (good := fun l => l.length = n + 1 ∧ goods good next k l)
      (h k) (fun a _ => hn a) (fun a c hc => (hn a).stuck c hc) (fun a c => (hn a).text c)
      (fun b => by cases b <;> simp)
      (fun b => by
        cases b with
        | nil => simp
        | cons x t => simp [goods]; exact ⟨fun ⟨h1, h2, h3⟩ => ⟨h2, h1, h3⟩, fun ⟨h1, h2, h3⟩ => ⟨h2, h1, h3⟩⟩)
      (fun a b _ hb => by obtain ⟨t, rfl, _⟩ := hb; rfl)
    refine ⟨this.stuck, this.text, fun c x r hx hc ha hd => ?_, fun c he => ?_, fun c x r hx hc ha hd hr => ?_⟩
    · have hx2 : x ≠ [] := by rintro rfl; simp at hx
      have t := this.fore c x r hx hc ha (by rw [if_neg hx2]; exact hd)
      rw [if_neg hx2] at t
      exact t
    · have t := this.back c he
      rw [if_neg (List.cons_ne_nil _ _)] at t
      exact t
    · have hx2 : x ≠ [] := by rintro rfl; simp at hx
      exact this.cut c x r hx hc ha (by rw [if_neg hx2]; exact hd) hr
end
abbrev En := List UInt8 × Nat
abbrev Vec := List En
def vcheck : List UInt8 → Vec → Int
  | _, [] => 0
  | p, x :: r => if 32 < x.1.length then 3 else if x.1 = [] then 14 else if lessB p x.1 = false then 6 else if x.2 = 0 then 7 else vcheck x.1 r
def Vec.check (v : Vec) : Int := if 64 < v.length then 3 else vcheck [] v
def Vec.great (v : Vec) : Bool := decide (100 < v.length) || v.any fun x => decide (100 < x.1.length)
def Cu.actor (max : Int) (p : List UInt8) (c : Cu) : List UInt8 × Cu := ((c.blob max).1, gd (lessB p (c.blob max).1) 6 (gd (decide ((c.blob max).1 ≠ [])) 14 (c.blob max).2))
def Cu.vnz (c : Cu) : Nat × Cu := (c.vtake.1, gd (decide (c.vtake.1 ≠ 0)) 7 c.vtake.2)
def Cu.ent (p : List UInt8) (c : Cu) : En × Cu := (((c.actor 32 p).1, (c.actor 32 p).2.vnz.1), (c.actor 32 p).2.vnz.2)
def Cu.ents (n : Nat) (p : List UInt8) (c : Cu) : Vec × Cu := Cu.many Cu.ent (fun _ x => x.1) n p c
def Cu.vec (c : Cu) : Vec × Cu :=
  (if ((c.count 64).2.ents (c.count 64).1 []).2.e ≠ 0 then [] else ((c.count 64).2.ents (c.count 64).1 []).1, ((c.count 64).2.ents (c.count 64).1 []).2)
def eent (x : En) : List UInt8 := eblob x.1 ++ vput x.2
def evec (v : Vec) : List UInt8 := vput v.length ++ (v.map eent).flatten
def Pe.ent (p : Pe) (x : En) : Pe := (p.blob 32 x.1).text (vput x.2)
def Pe.ents (p : Pe) (v : Vec) : Pe := v.foldl Pe.ent p
def Pe.vec (p : Pe) (v : Vec) : Pe := if v.check ≠ 0 then p.fail v.check else (p.text (vput v.length)).ents v
def Pe.vecs (p : Pe) (l : List Vec) : Pe := l.foldl Pe.vec p
theorem Cu.actor_ok {c : Cu} {m : Int} {p : List UInt8} (h : c.Ok) : (c.actor m p).2.Ok := gd_ok (gd_ok (Cu.blob_ok h))
theorem Cu.vnz_ok {c : Cu} (h : c.Ok) : c.vnz.2.Ok := gd_ok (Cu.vtake_ok h)
theorem Cu.ent_ok {c : Cu} {p : List UInt8} (h : c.Ok) : (c.ent p).2.Ok := Cu.vnz_ok (Cu.actor_ok h)
theorem Cu.vec_ok {c : Cu} (h : c.Ok) : c.vec.2.Ok := Cu.many_ok (fun k c h => Cu.ent_ok h) _ _ _ (Cu.count_ok h)
theorem trip_actor (m : Int) (p : List UInt8) : Trip (fun c => Cu.actor m p c) eblob (fun a => ((a.length ≤ m.toNat ∧ a.length < 18446744073709551616) ∧ decide (a ≠ []) = true) ∧ lessB p a = true) :=
  Trip.guard (Trip.guard (trip_blob m) (fun a => decide (a ≠ [])) (by decide)) (fun a => lessB p a) (by decide)
theorem trip_vnz : Trip Cu.vnz vput (fun n => n < 18446744073709551616 ∧ decide (n ≠ 0) = true) := Trip.guard trip_v (fun n => decide (n ≠ 0)) (by decide)
theorem Trip.pair {α β : Type} {R : Cu → β × Cu} {enc : β → List UInt8} {good : β → Prop} (h : Trip R enc good) (a : α) : Trip (fun c => ((a, (R c).1), (R c).2)) (fun x => enc x.2) (fun x => x.1 = a ∧ good x.2) where
  stuck := fun c hc => h.stuck c hc
  text := fun c => h.text c
  fore := fun c x r hx hc ha hd => by
    obtain ⟨x, y⟩ := x
    obtain ⟨rfl, hy⟩ := hx
    have := h.fore c y r hy hc ha hd
    simp only [this]
  back := fun c he => by
    obtain ⟨g1, g2, g3⟩ := h.back c he
    exact ⟨⟨rfl, g1⟩, g2, g3⟩
  cut := fun c x r hx hc ha hd hr => h.cut c x.2 r hx.2 hc ha hd hr
theorem Trip.iff {α : Type} {R : Cu → α × Cu} {enc : α → List UInt8} {good good' : α → Prop} (h : Trip R enc good) (hg : ∀ x, good x ↔ good' x) : Trip R enc good' := by
  have : good = good' := funext fun x => propext (hg x)
  rw [← this]; exact h
def gent (p : List UInt8) (x : En) : Prop := x.1.length ≤ 32 ∧ x.1 ≠ [] ∧ lessB p x.1 = true ∧ x.2 ≠ 0 ∧ x.2 < 18446744073709551616
theorem trip_ent (p : List UInt8) : Trip (Cu.ent p) eent (gent p) := by
  refine Trip.iff (Trip.bind (trip_actor 32 p) (fun a _ => Trip.pair trip_vnz a) (fun a c h => (Trip.pair trip_vnz a).stuck c h) (fun a c => (Trip.pair trip_vnz a).text c) (key := Prod.fst) (enc := eent)
    (good := fun x => ((((x.1.length ≤ (32 : Int).toNat ∧ x.1.length < 18446744073709551616) ∧ decide (x.1 ≠ []) = true) ∧ lessB p x.1 = true) ∧ x.1 = x.1 ∧ (x.2 < 18446744073709551616 ∧ decide (x.2 ≠ 0) = true))) (fun b => rfl) (fun b => Iff.rfl) (fun a b _ h => h.1)) (fun x => ?_)
  simp only [gent, Int.reduceToNat, decide_eq_true_eq]
  constructor
  · rintro ⟨⟨⟨⟨h1, h2⟩, h3⟩, h4⟩, h5, h6, h7⟩
    exact ⟨h1, h3, h4, h7, h6⟩
  · rintro ⟨h1, h2, h3, h4, h5⟩
    exact ⟨⟨⟨⟨h1, by omega⟩, h2⟩, h3⟩, trivial, h5, h4⟩
def gvec (v : Vec) : Prop := v.check = 0 ∧ ∀ x ∈ v, x.2 < 18446744073709551616
end Go.AW
namespace Go.AW
theorem flat_drop {α β : Type} {f : α → List β} {sz : Nat} (hf : ∀ x, (f x).length = sz) : ∀ (l : List α) (i : Nat), ((l.map f).flatten).drop (i * sz) = ((l.drop i).map f).flatten
  | [], i => by simp
  | x :: l, 0 => by simp
  | x :: l, i + 1 => by
    have h := hf x
    rw [Nat.succ_mul, Nat.add_comm, ← List.drop_drop]
    simp only [List.map_cons, List.flatten_cons, List.drop_succ_cons]
    rw [List.drop_left' h]
    exact flat_drop hf l i
theorem next_take {α : Type} {l r : List α} {a : α} {i : Nat} (h : l.drop i = a :: r) : l.take (i + 1) = l.take i ++ [a] := by
  have h1 : l[i]? = some a := by
    have := congrArg List.head? h
    simpa [List.head?_drop] using this
  rw [List.take_add_one, h1]; rfl
theorem next_drop {α : Type} {l r : List α} {a : α} {i : Nat} (h : l.drop i = a :: r) : l.drop (i + 1) = r := by
  rw [← List.drop_drop, h]; rfl
theorem next_mem {α : Type} {l r : List α} {a : α} {i : Nat} (h : l.drop i = a :: r) : a ∈ l := List.mem_of_mem_drop (i := i) (by rw [h]; exact List.mem_cons_self)
theorem next_at {α : Type} {l : List α} {i : Nat} (h : i < l.length) : ∃ a r, l.drop i = a :: r := ⟨_, _, List.drop_eq_getElem_cons h⟩
section
variable {α κ : Type} {R : κ → Cu → α × Cu} {next : κ → α → κ}
def Fam (R : κ → Cu → α × Cu) (next : κ → α → κ) (n : Nat) (k0 : κ) (c0 : Cu) (out : List α) (k : κ) (c : Cu) : Prop :=
  out.length ≤ n ∧ (Cu.many R next n k0 c0).2 = (Cu.many R next (n - out.length) k c).2 ∧ (c.e = 0 → (Cu.many R next n k0 c0).1 = out ++ (Cu.many R next (n - out.length) k c).1)
theorem Fam.start (n : Nat) (k0 : κ) (c0 : Cu) : Fam R next n k0 c0 [] k0 c0 := ⟨Nat.zero_le _, rfl, fun _ => rfl⟩
theorem Fam.step {n : Nat} {k0 k : κ} {c0 c : Cu} {out : List α} (h : Fam R next n k0 c0 out k c) (hc : c.e = 0) (hn : out.length < n) : Fam R next n k0 c0 (out ++ [(R k c).1]) (next k (R k c).1) (R k c).2 := by
  obtain ⟨h1, h2, h3⟩ := h
  have e : n - out.length = (n - (out ++ [(R k c).1]).length) + 1 := by simp only [List.length_append, List.length_cons, List.length_nil]; omega
  rw [e] at h2 h3
  refine ⟨by simp only [List.length_append, List.length_cons, List.length_nil]; omega, h2, fun _ => ?_⟩
  rw [h3 hc, List.append_assoc]
  rfl
theorem Fam.done {n : Nat} {k0 k : κ} {c0 c : Cu} {out : List α} (h : Fam R next n k0 c0 out k c) (hc : c.e = 0) (hn : ¬ out.length < n) : Cu.many R next n k0 c0 = (out, c) := by
  obtain ⟨h1, h2, h3⟩ := h
  have e : n - out.length = 0 := by omega
  rw [e] at h2 h3
  refine Prod.ext ?_ h2
  rw [h3 hc]; simp [Cu.many]
theorem Fam.bad {n : Nat} {k0 k : κ} {c0 c : Cu} {out : List α} (hst : ∀ k c, c.e ≠ 0 → (R k c).2 = c) (h : Fam R next n k0 c0 out k c) (hc : c.e ≠ 0) : (Cu.many R next n k0 c0).2 = c := by
  rw [h.2.1]
  exact Cu.many_stuck hst _ _ _ hc
end
theorem Cu.count_max (c : Cu) (max : Int) : (c.count max).1 ≤ max.toNat := by
  unfold Cu.count
  split
  · exact Nat.zero_le _
  split
  · exact Nat.zero_le _
  · omega
theorem Cu.blob_lim (c : Cu) (max : Int) (h : (c.blob max).2.e = 0) : (c.blob max).1.length ≤ max.toNat := ((trip_blob max).back c h).1.1
end Go.AW
namespace Go.AW
section
variable {α : Type} {R : Cu → α × Cu} {enc : α → List UInt8} {good : α → Prop}
theorem Trip.whole_fore (h : Trip R enc good) {x : α} (hx : good x) : R ⟨enc x, 0, 0⟩ = (x, ⟨enc x, (enc x).length, 0⟩) := by
  have := h.fore ⟨enc x, 0, 0⟩ x [] hx rfl (Nat.zero_le _) (by simp)
  simpa using this
theorem Trip.inj (h : Trip R enc good) {x y : α} (hx : good x) (hy : good y) (he : enc x = enc y) : x = y := by
  have h1 := h.whole_fore hx
  have h2 := h.whole_fore hy
  rw [he, h2] at h1
  exact (Prod.mk.inj h1).1.symm
end
structure Pens {α : Type} (W : Pe → α → Pe) (enc : α → List UInt8) (ok : α → Prop) : Prop where
  stuck : ∀ p x, p.e ≠ 0 → W p x = p
  m : ∀ p x, (W p x).m = p.m
  len : ∀ p x, (W p x).b.length ≤ p.b.length + (enc x).length
  cap : ∀ p x, ((W p x).b.length : Int) ≤ p.m ∨ (W p x).b.length ≤ p.b.length
  yes : ∀ p x, (W p x).e = 0 → p.e = 0 ∧ (W p x).b = p.b ++ enc x ∧ ok x
  fit : ∀ p x, p.e = 0 → ok x → ((p.b.length + (enc x).length : Nat) : Int) ≤ p.m → W p x = ⟨p.b ++ enc x, p.m, 0⟩
section
variable {α : Type} {W : Pe → α → Pe} {enc : α → List UInt8} {ok : α → Prop}
theorem Pens.keep (h : Pens W enc ok) {p : Pe} {x : α} (hp : p.Ok) (hl : p.m ≤ 140737488355328 ∨ p.b.length + (enc x).length ≤ 140737488355328) : (W p x).Ok := by
  have h1 := h.m p x
  have h2 := h.len p x
  have h3 := h.cap p x
  obtain ⟨g1, g2, g3⟩ := hp
  exact ⟨by omega, by omega, by omega⟩
theorem Pens.iff (h : Pens W enc ok) {ok' : α → Prop} (hk : ∀ x, ok x ↔ ok' x) : Pens W enc ok' := by
  have : ok = ok' := funext fun x => propext (hk x)
  rw [← this]; exact h
theorem Pens.on {β : Type} (h : Pens W enc ok) (f : β → α) : Pens (fun p x => W p (f x)) (fun x => enc (f x)) (fun x => ok (f x)) :=
  ⟨fun p x => h.stuck p _, fun p x => h.m p _, fun p x => h.len p _, fun p x => h.cap p _, fun p x => h.yes p _, fun p x => h.fit p _⟩
theorem Pens.seq {W' : Pe → α → Pe} {enc' : α → List UInt8} {ok' : α → Prop} (h : Pens W enc ok) (h' : Pens W' enc' ok') : Pens (fun p x => W' (W p x) x) (fun x => enc x ++ enc' x) (fun x => ok x ∧ ok' x) where
  stuck := fun p x hp => by
    show W' (W p x) x = p
    rw [h.stuck p x hp, h'.stuck p x hp]
  m := fun p x => by
    show (W' (W p x) x).m = p.m
    rw [h'.m, h.m]
  len := fun p x => by
    have h1 := h.len p x
    have h2 := h'.len (W p x) x
    show (W' (W p x) x).b.length ≤ _
    rw [List.length_append]; omega
  cap := fun p x => by
    have h1 := h.cap p x
    have h2 := h.m p x
    have h3 := h'.cap (W p x) x
    show ((W' (W p x) x).b.length : Int) ≤ _ ∨ (W' (W p x) x).b.length ≤ _
    omega
  yes := fun p x hp => by
    obtain ⟨g1, g2, g3⟩ := h'.yes (W p x) x hp
    obtain ⟨k1, k2, k3⟩ := h.yes p x g1
    refine ⟨k1, ?_, k3, g3⟩
    show (W' (W p x) x).b = _
    rw [g2, k2, List.append_assoc]
  fit := fun p x hp hk hl => by
    rw [List.length_append] at hl
    show W' (W p x) x = _
    rw [h.fit p x hp hk.1 (by omega), h'.fit ⟨p.b ++ enc x, p.m, 0⟩ x rfl hk.2 (by simp only [List.length_append]; omega), List.append_assoc]
theorem Pens.chk (h : Pens W enc ok) (c : α → Int) : Pens (fun p x => if c x ≠ 0 then p.fail (c x) else W p x) enc (fun x => c x = 0 ∧ ok x) where
  stuck := fun p x hp => by
    show (if c x ≠ 0 then p.fail (c x) else W p x) = p
    rw [Pe.fail_stuck hp, h.stuck p x hp, ite_self]
  m := fun p x => by
    show (if c x ≠ 0 then p.fail (c x) else W p x).m = p.m
    split
    · rfl
    · exact h.m p x
  len := fun p x => by
    show (if c x ≠ 0 then p.fail (c x) else W p x).b.length ≤ _
    split
    · show p.b.length ≤ _; omega
    · exact h.len p x
  cap := fun p x => by
    show ((if c x ≠ 0 then p.fail (c x) else W p x).b.length : Int) ≤ _ ∨ (if c x ≠ 0 then p.fail (c x) else W p x).b.length ≤ _
    split
    · exact .inr (Nat.le_refl _)
    · exact h.cap p x
  yes := fun p x hp => by
    have hp : (if c x ≠ 0 then p.fail (c x) else W p x).e = 0 := hp
    show _ ∧ (if c x ≠ 0 then p.fail (c x) else W p x).b = _ ∧ _
    by_cases hc : c x = 0
    · rw [if_neg (by simpa using hc)] at hp ⊢
      obtain ⟨g1, g2, g3⟩ := h.yes p x hp
      exact ⟨g1, g2, hc, g3⟩
    · rw [if_pos hc] at hp
      exact absurd hp (Pe.fail_e hc)
  fit := fun p x hp hk hl => by
    show (if c x ≠ 0 then p.fail (c x) else W p x) = _
    rw [if_neg (by simpa using hk.1)]
    exact h.fit p x hp hk.2 hl
theorem Pens.fold (h : Pens W enc ok) : Pens (fun p (l : List α) => l.foldl W p) (fun l => (l.map enc).flatten) (fun l => ∀ x ∈ l, ok x) where
  stuck := fun p l hp => by
    induction l with
    | nil => rfl
    | cons x l ih => simp only [List.foldl_cons, h.stuck p x hp]; exact ih
  m := fun p l => by
    induction l generalizing p with
    | nil => rfl
    | cons x l ih => simp only [List.foldl_cons]; rw [ih, h.m]
  len := fun p l => by
    induction l generalizing p with
    | nil => simp
    | cons x l ih =>
      have h1 := h.len p x
      have h2 := ih (W p x)
      simp only [List.foldl_cons, List.map_cons, List.flatten_cons, List.length_append] at *
      omega
  cap := fun p l => by
    induction l generalizing p with
    | nil => exact .inr (Nat.le_refl _)
    | cons x l ih =>
      have h1 := h.cap p x
      have h2 := h.m p x
      have h3 := ih (W p x)
      simp only [List.foldl_cons]
      omega
  yes := fun p l hp => by
    induction l generalizing p with
    | nil => exact ⟨hp, by simp, by simp⟩
    | cons x l ih =>
      obtain ⟨g1, g2, g3⟩ := ih (W p x) hp
      obtain ⟨k1, k2, k3⟩ := h.yes p x g1
      refine ⟨k1, ?_, fun y hy => ?_⟩
      · simp only [List.foldl_cons, List.map_cons, List.flatten_cons]
        rw [g2, k2, List.append_assoc]
      · rcases List.mem_cons.1 hy with rfl | hy
        · exact k3
        · exact g3 y hy
  fit := fun p l hp hk hl => by
    induction l generalizing p with
    | nil =>
      obtain ⟨b, m, e⟩ := p
      simp only at hp
      subst hp
      simp
    | cons x l ih =>
      simp only [List.map_cons, List.flatten_cons, List.length_append] at hl ⊢
      simp only [List.foldl_cons]
      rw [h.fit p x hp (hk x List.mem_cons_self) (by omega), ih ⟨p.b ++ enc x, p.m, 0⟩ rfl (fun y hy => hk y (List.mem_cons_of_mem _ hy)) (by simp only [List.length_append]; omega), List.append_assoc]
end
end Go.AW
namespace Go.AW
def vecw (s : List UInt8) : Vec × Int := (if (Cu.vec ⟨s, 0, 0⟩).2.fin.e ≠ 0 then [] else (Cu.vec ⟨s, 0, 0⟩).1, (Cu.vec ⟨s, 0, 0⟩).2.fin.e)
def vece (v : Vec) : List UInt8 × Int := Pe.fin (Pe.vec ⟨[], 65536, 0⟩ v)
def Cu.vecn : Nat → Cu → Cu
  | 0, c => c
  | n + 1, c => (Cu.vecn n c).vec.2
end Go.AW
namespace Go.AW
section
variable {α β γ : Type} {R : Cu → α × Cu} {enc : α → List UInt8} {good : α → Prop}
def rseq (R : Cu → α × Cu) (S : α → Cu → β × Cu) (c : Cu) : (α × β) × Cu := (((R c).1, (S (R c).1 (R c).2).1), (S (R c).1 (R c).2).2)
theorem Trip.seq (hR : Trip R enc good) {S : α → Cu → β × Cu} {encS : α → β → List UInt8} {goodS : α → β → Prop} (hS : ∀ a, good a → Trip (S a) (encS a) (goodS a)) (hst : ∀ a c, c.e ≠ 0 → (S a c).2 = c) (htx : ∀ a c, (S a c).2.s = c.s) :
    Trip (rseq R S) (fun x => enc x.1 ++ encS x.1 x.2) (fun x => good x.1 ∧ goodS x.1 x.2) := by
  have hp : ∀ a, good a → Trip (fun c => ((a, (S a c).1), (S a c).2)) (fun x : α × β => encS a x.2) (fun x => x.1 = a ∧ goodS a x.2) := fun a ha => Trip.pair (hS a ha) a
  refine Trip.iff (Trip.bind (S := fun a c => ((a, (S a c).1), (S a c).2)) hR hp (fun a c h => hst a c h) (fun a c => htx a c) (key := Prod.fst) (enc := fun x => enc x.1 ++ encS x.1 x.2) (good := fun x => good x.1 ∧ x.1 = x.1 ∧ goodS x.1 x.2) (fun b => rfl) (fun b => Iff.rfl) (fun a b _ h => h.1)) fun x => ?_
  simp
theorem Trip.map (h : Trip R enc good) (f : α → γ) (g : γ → α) (hfg : ∀ x, f (g x) = x) (hgf : ∀ x, g (f x) = x) : Trip (fun c => (f (R c).1, (R c).2)) (fun x => enc (g x)) (fun x => good (g x)) where
  stuck := fun c hc => h.stuck c hc
  text := fun c => h.text c
  fore := fun c x r hx hc ha hd => by
    have := h.fore c (g x) r hx hc ha hd
    simp only [this, hfg]
  back := fun c he => by
    simp only [hgf]
    exact h.back c he
  cut := fun c x r hx hc ha hd hr => h.cut c (g x) r hx hc ha hd hr
def rpure (x : α) (c : Cu) : α × Cu := (x, c)
end
def Vec.count (v : Vec) (a : List UInt8) : Nat := match v with
  | [] => 0
  | x :: r => if x.1 = a then x.2 else Vec.count r a
structure Ck where
  ctx : Vec
  dotted : Bool
  dot : En
def ck0 : Ck := ⟨[], false, ([], 0)⟩
def Ck.check (k : Ck) : Int :=
  if k.ctx.check ≠ 0 then k.ctx.check else if k.dotted = false then (if k.dot ≠ ([], 0) then 1 else 0)
  else if 32 < k.dot.1.length then 3 else if k.dot.1 = [] then 14 else if k.dot.2 = 0 then 7 else if k.dot.2 ≤ k.ctx.count k.dot.1 then 15 else 0
def Ck.great (k : Ck) : Bool := k.ctx.great || decide (100 < k.dot.1.length)
def Cu.dact (c : Cu) : List UInt8 × Cu := ((c.blob 32).1, gd (decide ((c.blob 32).1 ≠ [])) 14 (c.blob 32).2)
def Cu.dnum (v : Vec) (a : List UInt8) (c : Cu) : Nat × Cu := (c.vtake.1, gd (decide (v.count a < c.vtake.1)) 15 (gd (decide (c.vtake.1 ≠ 0)) 7 c.vtake.2))
def Cu.dot (v : Vec) (c : Cu) : En × Cu := rseq Cu.dact (Cu.dnum v) c
def Cu.dotq (v : Vec) (f : Bool) (c : Cu) : En × Cu := if f = true then c.dot v else (([], 0), c)
def Cu.clk0 (c : Cu) : (Vec × (Bool × En)) × Cu := rseq Cu.vec (fun v => rseq Cu.flag (fun f => Cu.dotq v f)) c
def Cu.clk (c : Cu) : Ck × Cu := (if c.clk0.2.e ≠ 0 then ck0 else ⟨c.clk0.1.1, c.clk0.1.2.1, c.clk0.1.2.2⟩, c.clk0.2)
def eclk (k : Ck) : List UInt8 := evec k.ctx ++ (eflag k.dotted ++ (if k.dotted = true then eent k.dot else []))
def Pe.dotq (p : Pe) (k : Ck) : Pe := if k.dotted = true then p.ent k.dot else p
def Pe.clk (p : Pe) (k : Ck) : Pe := if k.check ≠ 0 then p.fail k.check else ((p.vec k.ctx).flag k.dotted).dotq k
def Pe.clks (p : Pe) (l : List Ck) : Pe := l.foldl Pe.clk p
def gclk (k : Ck) : Prop := k.check = 0 ∧ (∀ x ∈ k.ctx, x.2 < 18446744073709551616) ∧ k.dot.2 < 18446744073709551616
def gdot (v : Vec) (x : En) : Prop := x.1.length ≤ 32 ∧ x.1 ≠ [] ∧ x.2 ≠ 0 ∧ v.count x.1 < x.2 ∧ x.2 < 18446744073709551616
end Go.AW
namespace Go.AW
def clkw (s : List UInt8) : Ck × Int := (if (Cu.clk ⟨s, 0, 0⟩).2.fin.e ≠ 0 then ck0 else (Cu.clk ⟨s, 0, 0⟩).1, (Cu.clk ⟨s, 0, 0⟩).2.fin.e)
def clke (k : Ck) : List UInt8 × Int := Pe.fin (Pe.clk ⟨[], 65536, 0⟩ k)
def Cu.clkn : Nat → Cu → Cu
  | 0, c => c
  | n + 1, c => (Cu.clkn n c).clk.2
end Go.AW
namespace Go.AW
section
variable {α : Type}
def rdw (R : Cu → α × Cu) (d : α) (s : List UInt8) : α × Int := (if (R ⟨s, 0, 0⟩).2.fin.e ≠ 0 then d else (R ⟨s, 0, 0⟩).1, (R ⟨s, 0, 0⟩).2.fin.e)
def wre (W : Pe → α → Pe) (x : α) : List UInt8 × Int := Pe.fin (W ⟨[], 65536, 0⟩ x)
variable {R : Cu → α × Cu} {W : Pe → α → Pe} {enc : α → List UInt8} {good ok : α → Prop} {d : α}
def Lim (W : Pe → α → Pe) (ok : α → Prop) : Prop := ∀ p x, (p.e = 0 ∨ p.e = 3) → ok x → ((W p x).e = 0 ∨ (W p x).e = 3)
theorem Lim.on {β : Type} (h : Lim W ok) (f : β → α) : Lim (fun p x => W p (f x)) (fun x => ok (f x)) := fun p x => h p (f x)
theorem Lim.seq {W' : Pe → α → Pe} {ok' : α → Prop} (h : Lim W ok) (h' : Lim W' ok') : Lim (fun p x => W' (W p x) x) (fun x => ok x ∧ ok' x) := fun p x hp hx => h' _ x (h p x hp hx.1) hx.2
theorem Lim.chk (h : Lim W ok) (c : α → Int) : Lim (fun p x => if c x ≠ 0 then p.fail (c x) else W p x) (fun x => c x = 0 ∧ ok x) := fun p x hp hx => by
  simp only [hx.1, ne_eq, not_true_eq_false, if_false]
  exact h p x hp hx.2
theorem Lim.fold (h : Lim W ok) : Lim (fun p (l : List α) => l.foldl W p) (fun l => ∀ x ∈ l, ok x) := by
  intro p l
  induction l generalizing p with
  | nil => intro hp _; exact hp
  | cons x l ih => intro hp hx; exact ih (W p x) (h p x hp (hx x List.mem_cons_self)) fun y hy => hx y (List.mem_cons_of_mem _ hy)
theorem Lim.iff (h : Lim W ok) {ok' : α → Prop} (hk : ∀ x, ok' x → ok x) : Lim W ok' := fun p x hp hx => h p x hp (hk x hx)
end
def Cu.iter (f : Cu → Cu) : Nat → Cu → Cu
  | 0, c => c
  | n + 1, c => f (Cu.iter f n c)
end Go.AW
namespace Go.AW
abbrev Pr := List UInt8 × List UInt8
abbrev Prs := List Pr
def pcheck : List UInt8 → Prs → Int
  | _, [] => 0
  | p, x :: r => if 32 < x.1.length then 3 else if x.1 = [] then 14 else if lessB p x.1 = false then 6 else if 32768 < x.2.length then 3 else pcheck x.1 r
def Prs.check (l : Prs) : Int := if 8 < l.length then 3 else pcheck [] l
def Prs.great (l : Prs) : Bool := decide (20 < l.length) || l.any fun x => decide (100 < x.1.length) || decide (100 < x.2.length)
def Cu.pair (p : List UInt8) (c : Cu) : Pr × Cu := rseq (Cu.actor 32 p) (fun _ c => Cu.blob c 32768) c
def Cu.pairs (n : Nat) (p : List UInt8) (c : Cu) : Prs × Cu := Cu.many Cu.pair (fun _ x => x.1) n p c
def Cu.prs (c : Cu) : Prs × Cu :=
  (if ((c.count 8).2.pairs (c.count 8).1 []).2.e ≠ 0 then [] else ((c.count 8).2.pairs (c.count 8).1 []).1, ((c.count 8).2.pairs (c.count 8).1 []).2)
def epair (x : Pr) : List UInt8 := eblob x.1 ++ eblob x.2
def eprs (l : Prs) : List UInt8 := vput l.length ++ (l.map epair).flatten
def Pe.pair (p : Pe) (x : Pr) : Pe := (p.blob 32 x.1).blob 32768 x.2
def Pe.pairs (p : Pe) (l : Prs) : Pe := l.foldl Pe.pair p
def Pe.prs (p : Pe) (l : Prs) : Pe := if l.check ≠ 0 then p.fail l.check else (p.text (vput l.length)).pairs l
def gpair (p : List UInt8) (x : Pr) : Prop := x.1.length ≤ 32 ∧ x.1 ≠ [] ∧ lessB p x.1 = true ∧ x.2.length ≤ 32768
theorem trip_pair (p : List UInt8) : Trip (Cu.pair p) epair (gpair p) := by
  refine Trip.iff (Trip.seq (trip_actor 32 p) (fun _ _ => trip_blob 32768) (fun _ c => (trip_blob 32768).stuck c) (fun _ => (trip_blob 32768).text)) fun x => ?_
  simp only [gpair, Int.reduceToNat, decide_eq_true_eq]
  constructor
  · rintro ⟨⟨⟨⟨h1, h2⟩, h3⟩, h4⟩, h5, h6⟩; exact ⟨h1, h3, h4, h5⟩
  · rintro ⟨h1, h2, h3, h4⟩; exact ⟨⟨⟨⟨h1, by omega⟩, h2⟩, h3⟩, h4, by omega⟩
def gprs (l : Prs) : Prop := l.check = 0
theorem Cu.pair_ok {c : Cu} {p : List UInt8} (h : c.Ok) : (c.pair p).2.Ok := Cu.blob_ok (Cu.actor_ok h)
theorem Cu.prs_ok {c : Cu} (h : c.Ok) : c.prs.2.Ok := Cu.many_ok (fun k c h => Cu.pair_ok h) _ _ _ (Cu.count_ok h)
structure Sb where
  clk : Ck
  meta_ : Prs
  dead : Bool
  val : List UInt8
def sb0 : Sb := ⟨ck0, [], false, []⟩
def Sb.check (x : Sb) : Int := if x.clk.check ≠ 0 then x.clk.check else if x.meta_.check ≠ 0 then x.meta_.check else if 32768 < x.val.length then 3 else 0
def Sb.great (x : Sb) : Bool := x.clk.great || x.meta_.great || decide (200 < x.val.length)
def Cu.sib0 (c : Cu) : (Ck × (Prs × (Bool × List UInt8))) × Cu := rseq Cu.clk (fun _ => rseq Cu.prs (fun _ => rseq Cu.flag (fun _ c => Cu.blob c 32768))) c
def Cu.sib (c : Cu) : Sb × Cu := (if c.sib0.2.e ≠ 0 then sb0 else ⟨c.sib0.1.1, c.sib0.1.2.1, c.sib0.1.2.2.1, c.sib0.1.2.2.2⟩, c.sib0.2)
def esib (x : Sb) : List UInt8 := eclk x.clk ++ (eprs x.meta_ ++ (eflag x.dead ++ eblob x.val))
def Pe.sib (p : Pe) (x : Sb) : Pe := if x.check ≠ 0 then p.fail x.check else (((p.clk x.clk).prs x.meta_).flag x.dead).blob 32768 x.val
def Pe.sibs (p : Pe) (l : List Sb) : Pe := l.foldl Pe.sib p
def gsib (x : Sb) : Prop := x.check = 0 ∧ (∀ y ∈ x.clk.ctx, y.2 < 18446744073709551616) ∧ x.clk.dot.2 < 18446744073709551616
end Go.AW
namespace Go.AW
structure Os1 where
  clk : Vec
  dead : Bool
  val : List UInt8
structure Od where
  key : List UInt8
  sibs : List Os1
def od0 : Od := ⟨[], []⟩
def outside (key : List UInt8) (n : Nat) : Int := if 128 < key.length then 3 else if key = [] then 14 else if 16 < n then 3 else if n = 0 then 7 else 0
def ocheck : List Vec → List Os1 → Int
  | _, [] => 0
  | seen, x :: r => if x.clk.check ≠ 0 then x.clk.check else if 32768 < x.val.length then 3 else if x.clk ∈ seen then 6 else ocheck (seen ++ [x.clk]) r
def Od.check (o : Od) : Int := if outside o.key o.sibs.length ≠ 0 then outside o.key o.sibs.length else ocheck [] o.sibs
def Od.great (o : Od) : Bool := decide (200 < o.key.length) || decide (20 < o.sibs.length) || o.sibs.any fun x => x.clk.great || decide (200 < x.val.length)
def Cu.okey (c : Cu) : List UInt8 × Cu := ((c.blob 128).1, gd (decide ((c.blob 128).1 ≠ [])) 14 (c.blob 128).2)
def Cu.ocnt (c : Cu) : Nat × Cu := ((c.count 16).1, gd (decide ((c.count 16).1 ≠ 0)) 7 (c.count 16).2)
def Cu.os0 (c : Cu) : (Vec × (Bool × List UInt8)) × Cu := rseq Cu.vec (fun _ => rseq Cu.flag (fun _ c => Cu.blob c 32768)) c
def Cu.os1 (seen : List Vec) (c : Cu) : Os1 × Cu := (⟨c.os0.1.1, c.os0.1.2.1, c.os0.1.2.2⟩, gd (decide (c.os0.1.1 ∉ seen)) 6 c.os0.2)
def Cu.olds (n : Nat) (seen : List Vec) (c : Cu) : List Os1 × Cu := Cu.many Cu.os1 (fun seen x => seen ++ [x.clk]) n seen c
def Cu.oldl (c : Cu) : List Os1 × Cu := Cu.olds c.ocnt.1 [] c.ocnt.2
def Cu.old0 (c : Cu) : (List UInt8 × List Os1) × Cu := rseq Cu.okey (fun _ => Cu.oldl) c
def Cu.old (c : Cu) : Od × Cu := (⟨c.old0.1.1, c.old0.1.2⟩, c.old0.2)
def eos1 (x : Os1) : List UInt8 := evec x.clk ++ (eflag x.dead ++ eblob x.val)
def eold (o : Od) : List UInt8 := eblob o.key ++ (vput o.sibs.length ++ (o.sibs.map eos1).flatten)
def Pe.os1 (p : Pe) (x : Os1) : Pe := ((p.vec x.clk).flag x.dead).blob 32768 x.val
def Pe.olds (p : Pe) (l : List Os1) : Pe := l.foldl Pe.os1 p
def Pe.old (p : Pe) (o : Od) : Pe := if o.check ≠ 0 then p.fail o.check else ((p.blob 128 o.key).count 16 (o.sibs.length : Nat)).olds o.sibs
def gos1 (seen : List Vec) (x : Os1) : Prop := gvec x.clk ∧ x.val.length ≤ 32768 ∧ x.clk ∉ seen
def gold (o : Od) : Prop := o.check = 0 ∧ ∀ x ∈ o.sibs, ∀ y ∈ x.clk, y.2 < 18446744073709551616
theorem trip_okey : Trip Cu.okey eblob (fun a => (a.length ≤ (128 : Int).toNat ∧ a.length < 18446744073709551616) ∧ decide (a ≠ []) = true) := Trip.guard (trip_blob 128) (fun a => decide (a ≠ [])) (by decide)
structure Oj where
  key : List UInt8
  sibs : List Sb
def oj0 : Oj := ⟨[], []⟩
def jcheck : List UInt8 → List Sb → Int
  | _, [] => 0
  | last, x :: r => if x.check ≠ 0 then x.check else if lessB last (eclk x.clk) = false then 6 else jcheck (eclk x.clk) r
def Oj.check (o : Oj) : Int := if outside o.key o.sibs.length ≠ 0 then outside o.key o.sibs.length else jcheck [] o.sibs
def Oj.great (o : Oj) : Bool := decide (200 < o.key.length) || decide (20 < o.sibs.length) || o.sibs.any Sb.great
def Cu.os2 (last : List UInt8) (c : Cu) : Sb × Cu := (c.sib.1, gd (lessB last (eclk c.sib.1.clk)) 6 c.sib.2)
def Cu.objs (n : Nat) (last : List UInt8) (c : Cu) : List Sb × Cu := Cu.many Cu.os2 (fun _ x => eclk x.clk) n last c
def Cu.objl (c : Cu) : List Sb × Cu := Cu.objs c.ocnt.1 [] c.ocnt.2
def Cu.obj0 (c : Cu) : (List UInt8 × List Sb) × Cu := rseq Cu.okey (fun _ => Cu.objl) c
def Cu.obj (c : Cu) : Oj × Cu := (if c.obj0.2.e ≠ 0 then oj0 else ⟨c.obj0.1.1, c.obj0.1.2⟩, c.obj0.2)
def eobj (o : Oj) : List UInt8 := eblob o.key ++ (vput o.sibs.length ++ (o.sibs.map esib).flatten)
def Pe.obj (p : Pe) (o : Oj) : Pe := if o.check ≠ 0 then p.fail o.check else ((p.blob 128 o.key).count 16 (o.sibs.length : Nat)).sibs o.sibs
def gos2 (last : List UInt8) (x : Sb) : Prop := gsib x ∧ lessB last (eclk x.clk) = true
def gnum (x : Sb) : Prop := (∀ y ∈ x.clk.ctx, y.2 < 18446744073709551616) ∧ x.clk.dot.2 < 18446744073709551616
def gobj (o : Oj) : Prop := o.check = 0 ∧ ∀ x ∈ o.sibs, gnum x
end Go.AW
namespace Go.AW
abbrev sibw (s : List UInt8) : Sb × Int := rdw Cu.sib sb0 s
abbrev sibe (x : Sb) : List UInt8 × Int := wre Pe.sib x
abbrev Cu.sibn (n : Nat) (c : Cu) : Cu := Cu.iter (fun c => c.sib.2) n c
end Go.AW
namespace Go.AW
def oldw (s : List UInt8) : Od × Int := (if (Cu.old ⟨s, 0, 0⟩).2.fin.e ≠ 0 then od0 else (Cu.old ⟨s, 0, 0⟩).1, (Cu.old ⟨s, 0, 0⟩).2.fin.e)
def olde (o : Od) : List UInt8 × Int := Pe.fin (Pe.old ⟨[], 65536, 0⟩ o)
theorem os_eq (k o : Os1) : (decide (k.clk = o.clk) && (decide (k.dead = o.dead) && (decide (k.val = o.val) && true))) = true ↔ k = o := by
  obtain ⟨a, b, c⟩ := k
  obtain ⟨d, e, f⟩ := o
  simp
instance : DecidableEq Os1 := fun k o => decidable_of_iff _ (os_eq k o)
theorem od_eq (k o : Od) : (decide (k.key = o.key) && decide (k.sibs = o.sibs)) = true ↔ k = o := by
  obtain ⟨a, b⟩ := k
  obtain ⟨d, e⟩ := o
  simp
instance : DecidableEq Od := fun k o => decidable_of_iff _ (od_eq k o)
def Od.alike (o q : Od) : Bool := decide (o.check = 0) && (decide (q.check = 0) && (decide (o.key = q.key) && (decide (o.sibs.length = q.sibs.length) && o.sibs.all fun x => q.sibs.any fun y => decide (x = y))))
end Go.AW
namespace Go.AW
def Od.turn (o : Od) (k : Nat) : Od := ⟨o.key, o.sibs.drop k ++ o.sibs.take k⟩
end Go.AW
namespace Go.AW
section
variable {α : Type} (lt : α → α → Bool)
def insR (x : α) : List α → List α
  | [] => [x]
  | y :: r => if lt x y = true then y :: insR x r else x :: y :: r
def isort (l : List α) : List α := (l.foldl (fun acc x => insR lt x acc) []).reverse
structure Ordr : Prop where
  irr : ∀ x, lt x x = false
  trans : ∀ x y z, lt x y = false → lt y z = false → lt x z = false
  asym : ∀ x y, lt x y = true → lt y x = false
variable {lt}
end
end Go.AW
namespace Go.AW
abbrev objw (s : List UInt8) : Oj × Int := rdw Cu.obj oj0 s
abbrev obje (o : Oj) : List UInt8 × Int := wre Pe.obj o
abbrev skey (x : Sb) : List UInt8 := eclk x.clk
def schecks : List Sb → Int
  | [] => 0
  | x :: r => if x.check ≠ 0 then x.check else schecks r
abbrev slt (x y : Sb) : Bool := lessB (skey x) (skey y)
def osort (key : List UInt8) (l : List Sb) : Oj × Int :=
  if outside key l.length ≠ 0 then (oj0, outside key l.length) else if schecks l ≠ 0 then (oj0, schecks l)
  else if jcheck [] (isort slt l) ≠ 0 then (oj0, jcheck [] (isort slt l)) else (⟨key, isort slt l⟩, 0)
end Go.AW
