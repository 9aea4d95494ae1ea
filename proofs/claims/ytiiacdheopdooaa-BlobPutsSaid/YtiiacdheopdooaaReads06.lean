/-
  Row 06: how the laws' arguments are read.
-/
import Derived.Test.YtiiacdheopdooaaAwArgs
import Derived.Test.YtiiacdheopdooaaRise
import Derived.Test.YtiiacdheopdooaaPActs
namespace Go.AW
open Go Go.Proofs Go.RowKit

/-- Readings and writings, as cells. -/
def acD (a : Ac) : List D := [.s (.int .i64 a.k), .s (.int .i64 a.m), .s (.int .i64 a.n), .s (.string ⟨a.s.toArray⟩), .s (.bool a.b)]
abbrev acsD (l : List Ac) : List D := (l.map acD).flatten

theorem strs_flat (l : List (List UInt8)) : (l.map fun s => [D.s (.string ⟨s.toArray⟩)]).flatten = strs l := by
  induction l with
  | nil => rfl
  | cons s l ih => simp only [List.map_cons, List.flatten_cons, ih]; rfl

section
variable {H : Type} {enc : TypeId × Value → H} {w : World}
theorem rd_strs : Rd enc Try.prog w 22 fun xs => ∃ l : List (List UInt8), xs = [.l l.length (strs l)] ∧ ∀ s ∈ l, s.length ≤ 9223372036854775807 := by
  refine Rd.mono (Rd.list (f := fun s : List UInt8 => [D.s (.string ⟨s.toArray⟩)]) (ok := fun s => s.length ≤ maxLen) Try.underlying22 (by kernel_rfl) Nat.one_pos (Rd.str Try.underlying9)) fun xs h => ?_
  obtain ⟨l, rfl, h1, _⟩ := h
  exact ⟨l, by rw [strs_flat], h1⟩
def Ac.ok (a : Ac) : Prop := a.s.length ≤ 9223372036854775807 ∧ a.n ≤ 9223372036854775807 ∧ a.m ≤ 9223372036854775807
theorem rd_ac : Rd enc Try.prog w 40 fun xs => ∃ a : Ac, xs = acD a ∧ a.ok := by
  refine Rd.mono (Rd.struct (Ss := [_, _, _, _, _]) Try.underlying40 (by kernel_rfl) ⟨Rd.int Try.underlying3, Rd.int Try.underlying3, Rd.int Try.underlying3, Rd.str Try.underlying9, Rd.bool Try.underlying4, trivial⟩) fun xs h => ?_
  obtain ⟨_, _, ⟨k, rfl, hk⟩, ⟨_, _, ⟨m, rfl, hm⟩, ⟨_, _, ⟨n, rfl, hn⟩, ⟨_, _, ⟨s, rfl, hs⟩, ⟨_, _, ⟨b, rfl⟩, rfl, rfl⟩, rfl⟩, rfl⟩, rfl⟩, rfl⟩ := h
  exact ⟨⟨k, m, n, s, b⟩, rfl, hs, (wf_i64 hn).2, (wf_i64 hm).2⟩
theorem rd_acts : Rd enc Try.prog w 33 fun xs => ∃ l : List Ac, xs = [.l l.length (acsD l)] ∧ ∀ a ∈ l, a.ok := by
  refine Rd.mono (Rd.list (f := acD) (ok := Ac.ok) Try.underlying33 (sz := 5) (by kernel_rfl) (by decide) rd_ac) fun xs h => ?_
  obtain ⟨l, rfl, h1, _⟩ := h
  exact ⟨l, rfl, h1⟩
end
end Go.AW
