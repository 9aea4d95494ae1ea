/-
  Plain: what is written is read again; what is read was written so.
-/
import Derived.Test.YtiiacdheopdooaaPBlob
namespace Go.AW

/-- A reader, a writer, and what may be written: what is written is read again; what is read was written so; what is cut is too short. -/
structure Trip {α : Type} (R : Cu → α × Cu) (enc : α → List UInt8) (good : α → Prop) : Prop where
  stuck : ∀ c, c.e ≠ 0 → (R c).2 = c
  text : ∀ c, (R c).2.s = c.s
  fore : ∀ c x r, good x → c.e = 0 → c.a ≤ c.s.length → c.s.drop c.a = enc x ++ r → R c = (x, ⟨c.s, c.a + (enc x).length, 0⟩)
  back : ∀ c, (R c).2.e = 0 → good (R c).1 ∧ (R c).2.a = c.a + (enc (R c).1).length ∧ c.s.drop c.a = enc (R c).1 ++ c.s.drop (R c).2.a
  cut : ∀ c x r, good x → c.e = 0 → c.a ≤ c.s.length → enc x = c.s.drop c.a ++ r → r ≠ [] → (R c).2.e = 2

theorem vput_small {n : Nat} (h : n < 128) : vput n = [UInt8.ofNat n] := by unfold vput; rw [if_pos h]
theorem vput_great {n : Nat} (h : ¬ n < 128) : vput n = UInt8.ofNat (n % 128 + 128) :: vput (n / 128) := by rw [vput]; rw [if_neg h]
theorem vput_ne (n : Nat) : vput n ≠ [] := by
  by_cases h : n < 128
  · rw [vput_small h]; simp
  · rw [vput_great h]; simp
theorem u8_ofNat {n : Nat} (h : n < 256) : (UInt8.ofNat n).toNat = n := by simp; omega

theorem Cu.vgo_fore : ∀ (k i n m : Nat) (c : Cu) (r : List UInt8), k + i = 10 → (i = 0 ∨ 0 < m) → n + m * 128 ^ i < 18446744073709551616 → c.s.drop c.a = vput m ++ r →
    Cu.vgo k i n c = (n + m * 128 ^ i, ⟨c.s, c.a + (vput m).length, c.e⟩)
  | 0, i, n, m, c, r, hk, hi, hb, hd => by
    exfalso
    have : i = 10 := by omega
    subst this
    have : 0 < m := by omega
    have := Nat.mul_le_mul_right (128 ^ 10) this
    have : 18446744073709551616 < 1 * 128 ^ 10 := by decide
    omega
  | k + 1, i, n, m, c, r, hk, hi, hb, hd => by
    have h9 : i = 9 → m < 2 := by
      rintro rfl
      apply Decidable.byContradiction
      intro hn
      have := Nat.mul_le_mul_right (128 ^ 9) (show 2 ≤ m by omega)
      have : 2 * 128 ^ 9 = 18446744073709551616 := by decide
      omega
    unfold Cu.vgo
    by_cases hm : m < 128
    · rw [vput_small hm] at hd ⊢
      have hu := u8_ofNat (show m < 256 by omega)
      rw [hd]
      simp only [List.cons_append, List.nil_append, hu]
      rw [if_neg (by omega), if_neg (by omega), if_pos hm, Nat.mod_eq_of_lt hm]
      rfl
    · rw [vput_great hm] at hd ⊢
      have hu := u8_ofNat (show m % 128 + 128 < 256 by omega)
      have hd2 : c.s.drop (c.a + 1) = vput (m / 128) ++ r := by rw [← List.drop_drop, hd]; rfl
      rw [hd]
      simp only [List.cons_append, hu]
      rw [if_neg (by omega), if_neg (by omega), if_neg (by omega), show (m % 128 + 128) % 128 = m % 128 by omega]
      have hs : n + m % 128 * 128 ^ i + m / 128 * 128 ^ (i + 1) = n + m * 128 ^ i := by
        have e : m / 128 * 128 ^ (i + 1) = (m / 128 * 128) * 128 ^ i := by rw [Nat.pow_succ, Nat.mul_comm (128 ^ i) 128, Nat.mul_assoc]
        rw [e, Nat.add_assoc, ← Nat.add_mul]
        congr 2
        omega
      rw [Cu.vgo_fore k (i + 1) _ (m / 128) ⟨c.s, c.a + 1, c.e⟩ r (by omega) (by omega) (by rw [hs]; exact hb) hd2, hs]
      simp only [List.length_cons]
      congr 2
      omega
theorem Cu.vgo_back : ∀ (k i n : Nat) (c : Cu), k + i = 10 → 0 < k → c.e = 0 → (Cu.vgo k i n c).2.e = 0 →
    ∃ m, (i = 0 ∨ 0 < m) ∧ (Cu.vgo k i n c).1 = n + m * 128 ^ i ∧ (Cu.vgo k i n c).2.a = c.a + (vput m).length ∧ c.s.drop c.a = vput m ++ c.s.drop (Cu.vgo k i n c).2.a
  | 0, i, n, c, hk, h0, hc, he => by omega
  | k + 1, i, n, c, hk, h0, hc, he => by
    unfold Cu.vgo at he ⊢
    cases hd : c.s.drop c.a with
    | nil => rw [hd] at he; simp at he
    | cons b t =>
      rw [hd] at he
      simp only at he ⊢
      have hbl := b.toNat_lt
      have hd2 : c.s.drop (c.a + 1) = t := by rw [← List.drop_drop, hd]; rfl
      by_cases h1 : i = 9 ∧ 1 < b.toNat
      · rw [if_pos h1] at he; simp at he
      rw [if_neg h1] at he ⊢
      by_cases h2 : b.toNat = 0 ∧ 0 < i
      · rw [if_pos h2] at he; simp at he
      rw [if_neg h2] at he ⊢
      by_cases h3 : b.toNat < 128
      · rw [if_pos h3] at he ⊢
        refine ⟨b.toNat, by omega, by rw [Nat.mod_eq_of_lt h3], by rw [vput_small h3]; rfl, ?_⟩
        rw [vput_small h3, hd2]
        simp
      · rw [if_neg h3] at he ⊢
        obtain ⟨m, g1, g2, g3, g4⟩ := Cu.vgo_back k (i + 1) _ ⟨c.s, c.a + 1, c.e⟩ (by omega) (by omega) hc he
        have hq : (b.toNat % 128 + m * 128) / 128 = m := by omega
        have hr : (b.toNat % 128 + m * 128) % 128 = b.toNat % 128 := by omega
        have hge : ¬ b.toNat % 128 + m * 128 < 128 := by omega
        refine ⟨b.toNat % 128 + m * 128, by omega, ?_, ?_, ?_⟩
        · rw [g2, Nat.pow_succ, Nat.add_mul]
          rw [show m * (128 ^ i * 128) = m * 128 * 128 ^ i by rw [Nat.mul_comm (128 ^ i) 128, Nat.mul_assoc]]
          omega
        · rw [vput_great hge, g3, hq]
          simp only [List.length_cons]
          omega
        · rw [vput_great hge, hr, hq]
          have : UInt8.ofNat (b.toNat % 128 + 128) = b := by
            rw [show b.toNat % 128 + 128 = b.toNat by omega]
            exact UInt8.ofNat_toNat
          rw [this, List.cons_append, ← g4]
          rw [show c.s.drop (c.a + 1) = t from hd2]
theorem Cu.vgo_cut : ∀ (k i n m : Nat) (c : Cu) (r : List UInt8), k + i = 10 → (i = 0 ∨ 0 < m) → n + m * 128 ^ i < 18446744073709551616 → vput m = c.s.drop c.a ++ r → r ≠ [] →
    (Cu.vgo k i n c).2.e = 2
  | 0, i, n, m, c, r, hk, hi, hb, hd, hr => by
    exfalso
    have : i = 10 := by omega
    subst this
    have : 0 < m := by omega
    have := Nat.mul_le_mul_right (128 ^ 10) this
    have : 18446744073709551616 < 1 * 128 ^ 10 := by decide
    omega
  | k + 1, i, n, m, c, r, hk, hi, hb, hd, hr => by
    have h9 : i = 9 → m < 2 := by
      rintro rfl
      apply Decidable.byContradiction
      intro hn
      have := Nat.mul_le_mul_right (128 ^ 9) (show 2 ≤ m by omega)
      have : 2 * 128 ^ 9 = 18446744073709551616 := by decide
      omega
    unfold Cu.vgo
    cases hc : c.s.drop c.a with
    | nil => rfl
    | cons b t =>
      rw [hc] at hd
      simp only
      by_cases hm : m < 128
      · rw [vput_small hm] at hd
        simp at hd
        exact absurd hd.2.2 hr
      · rw [vput_great hm] at hd
        simp only [List.cons_append, List.cons.injEq] at hd
        have hu := u8_ofNat (show m % 128 + 128 < 256 by omega)
        rw [hd.1] at hu
        rw [hu, if_neg (by omega), if_neg (by omega), if_neg (by omega), show (m % 128 + 128) % 128 = m % 128 by omega]
        have hd2 : c.s.drop (c.a + 1) = t := by rw [← List.drop_drop, hc]; rfl
        have hs : n + m % 128 * 128 ^ i + m / 128 * 128 ^ (i + 1) = n + m * 128 ^ i := by
          have e : m / 128 * 128 ^ (i + 1) = (m / 128 * 128) * 128 ^ i := by rw [Nat.pow_succ, Nat.mul_comm (128 ^ i) 128, Nat.mul_assoc]
          rw [e, Nat.add_assoc, ← Nat.add_mul]
          congr 2
          omega
        exact Cu.vgo_cut k (i + 1) _ (m / 128) ⟨c.s, c.a + 1, c.e⟩ r (by omega) (by omega) (by rw [hs]; exact hb) (by rw [hd.2]; congr 1; exact hd2.symm) hr
theorem trip_v : Trip Cu.vtake vput (· < 18446744073709551616) where
  stuck := fun c h => by unfold Cu.vtake; rw [if_pos h]
  text := fun c => by
    unfold Cu.vtake
    split
    · rfl
    · exact Cu.vgo_s _ _ _ _
  fore := fun c x r hx hc ha hd => by
    unfold Cu.vtake
    rw [if_neg (by simpa using hc), Cu.vgo_fore 10 0 0 x c r rfl (.inl rfl) (by simpa using hx) hd, hc]
    simp
  back := fun c he => by
    have hlt := Cu.vtake_lt c
    unfold Cu.vtake at he hlt ⊢
    by_cases hc : c.e = 0
    · rw [if_neg (by simpa using hc)] at he hlt ⊢
      obtain ⟨m, h1, h2, h3, h4⟩ := Cu.vgo_back 10 0 0 c rfl (by decide) hc he
      simp at h2
      rw [h2] at hlt ⊢
      exact ⟨hlt, h3, h4⟩
    · rw [if_pos hc] at he; exact absurd he hc
  cut := fun c x r hx hc ha hd hr => by
    unfold Cu.vtake
    rw [if_neg (by simpa using hc)]
    exact Cu.vgo_cut 10 0 0 x c r rfl (.inl rfl) (by simpa using hx) hd hr

theorem Cu.bytes_stuck {c : Cu} (n : Int) (h : c.e ≠ 0) : c.bytes n = ([], c) := by unfold Cu.bytes; rw [if_pos h]
theorem Cu.bytes_s (c : Cu) (n : Int) : (c.bytes n).2.s = c.s := by
  unfold Cu.bytes
  split
  · rfl
  split
  · rfl
  split <;> rfl
theorem trip_bytes (n : Nat) : Trip (fun c => Cu.bytes c n) id (·.length = n) where
  stuck := fun c h => by rw [Cu.bytes_stuck _ h]
  text := fun c => Cu.bytes_s c n
  fore := fun c x r hx hc ha hd => by
    have hl := congrArg List.length hd
    simp at hl
    unfold Cu.bytes
    rw [if_neg (by simpa using hc), if_neg (by omega), if_neg (by omega)]
    obtain ⟨s, a, e⟩ := c
    simp only at hc hd ⊢
    subst hc
    simp only [id] at hd ⊢
    rw [hd, Int.toNat_natCast, ← hx, List.take_left']
    rfl
  back := fun c he => by
    unfold Cu.bytes at he ⊢
    by_cases hc : c.e = 0
    · rw [if_neg (by simpa using hc), if_neg (by omega)] at he ⊢
      split at he
      · simp at he
      · rename_i h
        rw [if_neg h]
        have hl : ((c.s.drop c.a).take n).length = n := by rw [List.length_take, List.length_drop]; omega
        refine ⟨by simpa using hl, by simp [-List.length_take]; rw [hl], ?_⟩
        simp only [id, Int.toNat_natCast]
        rw [← List.drop_drop, List.take_append_drop]
    · rw [if_pos hc] at he; exact absurd he hc
  cut := fun c x r hx hc ha hd hr => by
    have hl := congrArg List.length hd
    simp at hl
    have : 0 < r.length := List.length_pos_iff.2 hr
    unfold Cu.bytes
    rw [if_neg (by simpa using hc), if_neg (by omega), if_pos (by omega)]

theorem Cu.fail_stuck {c : Cu} (h : c.e ≠ 0) (f : Int) : c.fail f = c := by unfold Cu.fail; rw [if_neg h]
theorem Cu.fail_s (c : Cu) (f : Int) : (c.fail f).s = c.s := rfl
theorem Cu.fail_e {c : Cu} {f : Int} (hf : f ≠ 0) : (c.fail f).e ≠ 0 := by
  unfold Cu.fail
  show (if c.e = 0 then f else c.e) ≠ 0
  split <;> assumption

theorem trip_count (max : Int) : Trip (fun c => Cu.count c max) vput (fun n => n ≤ max.toNat ∧ n < 18446744073709551616) where
  stuck := fun c h => by
    unfold Cu.count
    rw [trip_v.stuck c h, if_pos h]
  text := fun c => by
    unfold Cu.count
    split
    · exact trip_v.text c
    split
    · exact trip_v.text c
    · exact trip_v.text c
  fore := fun c x r hx hc ha hd => by
    unfold Cu.count
    rw [trip_v.fore c x r hx.2 hc ha hd, if_neg (by simp), if_neg (by simpa using hx.1)]
  back := fun c he => by
    unfold Cu.count at he ⊢
    by_cases h1 : c.vtake.2.e = 0
    · rw [if_neg (by simpa using h1)] at he ⊢
      by_cases h2 : max.toNat < c.vtake.1
      · rw [if_pos h2] at he; exact absurd he (Cu.fail_e (by decide))
      · rw [if_neg h2] at he ⊢
        obtain ⟨g1, g2, g3⟩ := trip_v.back c h1
        exact ⟨⟨by omega, g1⟩, g2, g3⟩
    · rw [if_pos h1] at he; exact absurd he h1
  cut := fun c x r hx hc ha hd hr => by
    have := trip_v.cut c x r hx.2 hc ha hd hr
    unfold Cu.count
    rw [if_pos (by rw [this]; decide)]
    exact this

/-- A text with its length ahead. -/
def eblob (s : List UInt8) : List UInt8 := vput s.length ++ s

/-- One reader behind another one, which hangs on what the first one read. -/
theorem Trip.bind {α β : Type} {R : Cu → α × Cu} {encR : α → List UInt8} {goodR : α → Prop} {S : α → Cu → β × Cu} {encS : α → β → List UInt8} {goodS : α → β → Prop} {key : β → α} {enc : β → List UInt8} {good : β → Prop}
    (hR : Trip R encR goodR) (hS : ∀ a, goodR a → Trip (S a) (encS a) (goodS a)) (hst : ∀ a c, c.e ≠ 0 → (S a c).2 = c) (htx : ∀ a c, (S a c).2.s = c.s)
    (he : ∀ b, enc b = encR (key b) ++ encS (key b) b) (hg : ∀ b, good b ↔ goodR (key b) ∧ goodS (key b) b) (hk : ∀ a b, goodR a → goodS a b → key b = a) :
    Trip (fun c => S (R c).1 (R c).2) enc good where
  stuck := fun c h => by
    have := hR.stuck c h
    show (S (R c).1 (R c).2).2 = c
    rw [this, hst _ _ h]
  text := fun c => by rw [htx, hR.text]
  fore := fun c x r hx hc ha hd => by
    obtain ⟨g1, g2⟩ := (hg x).1 hx
    rw [he, List.append_assoc] at hd
    have h1 := hR.fore c (key x) _ g1 hc ha hd
    show S (R c).1 (R c).2 = _
    rw [h1]
    have hd2 : c.s.drop (c.a + (encR (key x)).length) = encS (key x) x ++ r := by rw [← List.drop_drop, hd, List.drop_left']; rfl
    have hl := congrArg List.length hd
    rw [List.length_append, List.length_drop] at hl
    have h2 := (hS (key x) g1).fore ⟨c.s, c.a + (encR (key x)).length, 0⟩ x r g2 rfl (by show c.a + _ ≤ c.s.length; omega) hd2
    show S (key x) _ = _
    rw [h2, he, List.length_append, Nat.add_assoc]
  back := fun c h => by
    have h : (S (R c).1 (R c).2).2.e = 0 := h
    show good (S (R c).1 (R c).2).1 ∧ (S (R c).1 (R c).2).2.a = c.a + (enc (S (R c).1 (R c).2).1).length ∧ c.s.drop c.a = enc (S (R c).1 (R c).2).1 ++ c.s.drop (S (R c).1 (R c).2).2.a
    have h1 : (R c).2.e = 0 := by
      apply Decidable.byContradiction
      intro hn
      rw [hst _ _ hn] at h
      exact hn h
    obtain ⟨g1, g2, g3⟩ := hR.back c h1
    obtain ⟨k1, k2, k3⟩ := (hS _ g1).back _ h
    have hkk := hk _ _ g1 k1
    have ht := hR.text c
    rw [ht] at k3
    generalize (S (R c).1 (R c).2) = z at *
    refine ⟨(hg _).2 ⟨by rw [hkk]; exact g1, by rw [hkk]; exact k1⟩, ?_, ?_⟩
    · rw [k2, g2, he, hkk, List.length_append]; omega
    · rw [g3, k3, he, hkk, List.append_assoc]
  cut := fun c x r hx hc ha hd hr => by
    obtain ⟨g1, g2⟩ := (hg x).1 hx
    rw [he] at hd
    show (S (R c).1 (R c).2).2.e = 2
    by_cases hl : (c.s.drop c.a).length < (encR (key x)).length
    · have h1 : encR (key x) = c.s.drop c.a ++ (encR (key x)).drop (c.s.drop c.a).length := by
        have e1 := congrArg (List.take (c.s.drop c.a).length) hd
        rw [List.take_left' rfl, List.take_append_of_le_length (by omega)] at e1
        rw (config := { occs := .pos [1] }) [← List.take_append_drop (c.s.drop c.a).length (encR (key x)), e1]
      have h2 := hR.cut c (key x) _ g1 hc ha h1 (by
        intro e
        have := congrArg List.length e
        simp only [List.length_drop, List.length_nil] at this hl
        omega)
      rw [hst _ _ (by rw [h2]; decide), h2]
    · have e1 : c.s.drop c.a = encR (key x) ++ (c.s.drop c.a).drop (encR (key x)).length := by
        have e1 := congrArg (List.take (encR (key x)).length) hd
        rw [List.take_left' rfl, List.take_append_of_le_length (by omega)] at e1
        rw (config := { occs := .pos [1] }) [e1]
        exact (List.take_append_drop _ _).symm
      have h1 := hR.fore c (key x) _ g1 hc ha e1
      rw [h1]
      have hl2 := congrArg List.length e1
      rw [List.length_append, List.length_drop] at hl2
      refine (hS (key x) g1).cut ⟨c.s, c.a + (encR (key x)).length, 0⟩ x r g2 rfl (by show c.a + _ ≤ c.s.length; omega) ?_ hr
      rw [e1, List.append_assoc] at hd
      have := List.append_cancel_left hd
      rw [this]
      simp only [List.drop_drop]

theorem trip_blob (max : Int) : Trip (fun c => Cu.blob c max) eblob (fun s => s.length ≤ max.toNat ∧ s.length < 18446744073709551616) := by
  have : (fun c => Cu.blob c max) = fun c => (fun (n : Nat) c => Cu.bytes c n) (Cu.count c max).1 (Cu.count c max).2 := by
    funext c; unfold Cu.blob; rfl
  rw [this]
  exact Trip.bind (trip_count max) (fun a _ => trip_bytes a) (fun a c h => by rw [Cu.bytes_stuck _ h]) (fun a c => Cu.bytes_s c a) (key := List.length) (fun b => rfl) (fun b => ⟨fun h => ⟨h, rfl⟩, fun h => h.1⟩) (fun a b _ h => h)

def eflag (b : Bool) : List UInt8 := [if b then 1 else 0]
theorem trip_flag : Trip Cu.flag eflag (fun _ => True) := by
  have hb : ∀ c, Cu.byte c = (((Cu.bytes c 1).1.getD 0 0).toNat, (Cu.bytes c 1).2) := fun c => by unfold Cu.byte; rfl
  have h1 := trip_bytes 1
  have hs : ∀ c, c.e ≠ 0 → Cu.flag c = (false, c) := fun c h => by
    unfold Cu.flag
    rw [hb, Cu.bytes_stuck _ h]
    rfl
  refine ⟨fun c h => by rw [hs c h], fun c => ?_, fun c x r _ hc ha hd => ?_, fun c he => ?_, fun c x r _ hc ha hd hr => ?_⟩
  · unfold Cu.flag
    show (if 1 < c.byte.1 then c.byte.2.fail 13 else c.byte.2).s = c.s
    rw [hb]
    split
    · exact Cu.bytes_s c 1
    · exact Cu.bytes_s c 1
  · unfold Cu.flag
    have h2 : Cu.bytes c 1 = _ := h1.fore c (eflag x) r rfl hc ha hd
    rw [hb, h2]
    cases x <;> rfl
  · unfold Cu.flag at he ⊢
    have he : (if 1 < c.byte.1 then c.byte.2.fail 13 else c.byte.2).e = 0 := he
    show True ∧ (if 1 < c.byte.1 then c.byte.2.fail 13 else c.byte.2).a = _ ∧ c.s.drop c.a = _ ++ c.s.drop (if 1 < c.byte.1 then c.byte.2.fail 13 else c.byte.2).a
    rw [hb] at he ⊢
    simp only at he ⊢
    by_cases h2 : 1 < ((Cu.bytes c 1).1.getD 0 0).toNat
    · rw [if_pos h2] at he; exact absurd he (Cu.fail_e (by decide))
    · rw [if_neg h2] at he ⊢
      obtain ⟨g1, g2, g3⟩ := h1.back c he
      refine ⟨trivial, ?_⟩
      have g1 : (Cu.bytes c 1).1.length = 1 := g1
      have g2 : (Cu.bytes c 1).2.a = c.a + (Cu.bytes c 1).1.length := g2
      have g3 : c.s.drop c.a = (Cu.bytes c 1).1 ++ c.s.drop (Cu.bytes c 1).2.a := g3
      have g4 : ((1 : Nat) : Int) = 1 := rfl
      generalize Cu.bytes c 1 = z at *
      obtain ⟨b, hz⟩ := List.length_eq_one_iff.1 g1
      rw [hz] at h2 g2 g3 ⊢
      simp only [List.getD_cons_zero] at h2 ⊢
      have : eflag (decide (b.toNat = 1)) = [b] := by
        unfold eflag
        by_cases h5 : b.toNat = 1
        · simp only [h5, decide_true, if_true]; rw [← UInt8.toNat_inj.1 (show b.toNat = (1 : UInt8).toNat from h5)]
        · have h6 : b.toNat = 0 := by omega
          simp only [h6]; rw [← UInt8.toNat_inj.1 (show b.toNat = (0 : UInt8).toNat from h6)]; rfl
      rw [this]
      exact ⟨g2, g3⟩
  · have h2 := h1.cut c (eflag x) r rfl hc ha hd hr
    have h2 : (Cu.bytes c 1).2.e = 2 := h2
    unfold Cu.flag
    show (if 1 < c.byte.1 then c.byte.2.fail 13 else c.byte.2).e = 2
    rw [hb]
    simp only
    have h3 : (Cu.fail (Cu.bytes c 1).2 13).e = 2 := by
      show (if (Cu.bytes c 1).2.e = 0 then (13 : Int) else (Cu.bytes c 1).2.e) = 2
      rw [h2]; rfl
    split
    · exact h3
    · exact h2

/-! ### Writers -/

theorem Pe.text_yes {p : Pe} {s : List UInt8} (h : (p.text s).e = 0) : p.e = 0 ∧ (p.text s).b = p.b ++ s := by
  unfold Pe.text at h ⊢
  by_cases h1 : p.e = 0
  · rw [if_neg (by simpa using h1)] at h ⊢
    refine ⟨h1, ?_⟩
    split at h
    · simp at h
    · rename_i h2; rw [if_neg h2]
  · rw [if_pos h1] at h; exact absurd h h1
theorem Pe.fail_e {p : Pe} {f : Int} (hf : f ≠ 0) : (p.fail f).e ≠ 0 := by
  unfold Pe.fail
  show (if p.e = 0 then f else p.e) ≠ 0
  split <;> assumption
theorem Pe.blob_yes {p : Pe} {max : Int} {s : List UInt8} (h : (p.blob max s).e = 0) : p.e = 0 ∧ (p.blob max s).b = p.b ++ eblob s ∧ s.length ≤ max.toNat := by
  unfold Pe.blob at h ⊢
  by_cases h1 : max.toNat < s.length
  · rw [if_pos h1] at h; exact absurd h (Pe.fail_e (by decide))
  · rw [if_neg h1] at h ⊢
    obtain ⟨h2, h3⟩ := Pe.text_yes h
    obtain ⟨h4, h5⟩ := Pe.text_yes h2
    refine ⟨h4, ?_, by omega⟩
    rw [h3, h5, eblob, List.append_assoc]
theorem Pe.count_yes {p : Pe} {max n : Int} (h : (p.count max n).e = 0) : p.e = 0 ∧ (p.count max n).b = p.b ++ vput n.toNat ∧ 0 ≤ n ∧ n.toNat ≤ max.toNat := by
  unfold Pe.count at h ⊢
  by_cases h1 : n < 0
  · rw [if_pos h1] at h; exact absurd h (Pe.fail_e (by decide))
  rw [if_neg h1] at h ⊢
  by_cases h2 : max.toNat < n
  · rw [if_pos h2] at h; exact absurd h (Pe.fail_e (by decide))
  · rw [if_neg h2] at h ⊢
    obtain ⟨h4, h5⟩ := Pe.text_yes h
    exact ⟨h4, h5, by omega, by omega⟩
theorem Pe.flag_yes {p : Pe} {b : Bool} (h : (p.flag b).e = 0) : p.e = 0 ∧ (p.flag b).b = p.b ++ eflag b := Pe.text_yes h
end Go.AW
