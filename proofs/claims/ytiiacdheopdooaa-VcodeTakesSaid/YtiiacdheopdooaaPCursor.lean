/-
  Plain: bytes that are read from the left.
-/
namespace Go.AW

/-- A text, a place, an error. -/
structure Cu where
  s : List UInt8
  a : Nat
  e : Int

def Cu.Ok (c : Cu) : Prop := c.s.length ≤ 140737488351232 ∧ c.a ≤ c.s.length

def Cu.fail (c : Cu) (f : Int) : Cu := ⟨c.s, c.a, if c.e = 0 then f else c.e⟩

/-- The next n bytes. -/
def Cu.bytes (c : Cu) (n : Int) : List UInt8 × Cu :=
  if c.e ≠ 0 then ([], c) else if n < 0 then ([], { c with e := 1 }) else if (n : Int) > c.s.length - c.a then ([], { c with e := 2 })
  else ((c.s.drop c.a).take n.toNat, { c with a := c.a + n.toNat })

/-- The next byte. -/
def Cu.byte (c : Cu) : Nat × Cu := (((c.bytes 1).1.getD 0 0).toNat, (c.bytes 1).2)

def Cu.fin (c : Cu) : Cu := ⟨c.s, c.a, if c.e = 0 ∧ c.a < c.s.length then 8 else c.e⟩

theorem Cu.fail_ok {c : Cu} {f : Int} (h : c.Ok) : (c.fail f).Ok := by
  exact h
theorem Cu.bytes_ok {c : Cu} {n : Int} (h : c.Ok) : (c.bytes n).2.Ok := by
  unfold Cu.bytes
  split
  · exact h
  split
  · exact h
  split
  · exact h
  · refine ⟨h.1, ?_⟩
    have := h.2
    show c.a + n.toNat ≤ c.s.length
    omega
theorem Cu.byte_ok {c : Cu} (h : c.Ok) : c.byte.2.Ok := Cu.bytes_ok h
theorem Cu.fin_ok {c : Cu} (h : c.Ok) : c.fin.Ok := by
  exact h

theorem take_same {l : List UInt8} {m n : Nat} (h : m = n ∨ (l.length ≤ m ∧ l.length ≤ n)) : l.take m = l.take n := by
  rcases h with rfl | ⟨h1, h2⟩
  · rfl
  · rw [List.take_of_length_le h1, List.take_of_length_le h2]
attribute [irreducible] Cu.byte
end Go.AW
