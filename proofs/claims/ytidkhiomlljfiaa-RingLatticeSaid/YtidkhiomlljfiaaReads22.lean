/-
  Rings: how the laws' arguments are read.
-/
import Derived.Test.YtidkhiomlljfiaaMb
import Derived.Test.YtidkhiomlljfiaaRng2
namespace Go.AW
open Go Go.Proofs Go.RowKit

section
variable {H : Type} {enc : TypeId × Value → H} {w : World}
theorem toks_flat (l : List Nat) : (l.map fun t => [D.s (.int .u64 (t : Nat))]).flatten = toksD l := by
  induction l with
  | nil => rfl
  | cons s l ih => simp only [List.map_cons, List.flatten_cons, ih]; rfl
theorem rd_toks : Rd enc Try.prog w 53 fun xs => ∃ l : List Nat, xs = [.l l.length (toksD l)] ∧ l.length ≤ 9223372036854775807 ∧ ∀ t ∈ l, t < 18446744073709551616 := by
  refine Rd.mono (Rd.list (f := fun t : Nat => [D.s (.int .u64 (t : Nat))]) (ok := fun t => t < 18446744073709551616) Try.underlying53 (by kernel_rfl) Nat.one_pos (Rd.mono (Rd.int Try.underlying50) fun xs h => ?_)) fun xs h => ?_
  · obtain ⟨n, rfl, hn⟩ := h
    have h1 := wf_u64 hn
    refine ⟨n.toNat, ?_, by omega⟩
    have : ((n.toNat : Nat) : Int) = n := by omega
    rw [this]
  · obtain ⟨l, rfl, h1, h2⟩ := h
    exact ⟨l, by rw [toks_flat], h2, h1⟩
theorem rd_mb : Rd enc Try.prog w 55 fun xs => ∃ x : Mb, xs = mbD x ∧ x.fits ∧ x.name.length ≤ 9223372036854775807 ∧ x.toks.length ≤ 9223372036854775807 := by
  refine Rd.mono (Rd.struct (Ss := [_, _, _, _]) Try.underlying55 (by kernel_rfl) ⟨Rd.str Try.underlying9, Rd.int Try.underlying50, Rd.int Try.underlying5, rd_toks, trivial⟩) fun xs h => ?_
  obtain ⟨_, _, ⟨s, rfl, hs⟩, ⟨_, _, ⟨n, rfl, hn⟩, ⟨_, _, ⟨b, rfl, hb⟩, ⟨_, _, ⟨l, rfl, h1, h2⟩, rfl, rfl⟩, rfl⟩, rfl⟩, rfl⟩ := h
  have g1 := wf_u64 hn
  have g2 := wf_u8 hb
  refine ⟨⟨s, n.toNat, b.toNat, l⟩, ?_, ⟨by show n.toNat < _; omega, by show b.toNat < _; omega, h2⟩, hs, h1⟩
  have e1 : ((n.toNat : Nat) : Int) = n := by omega
  have e2 : ((b.toNat : Nat) : Int) = b := by omega
  simp [mbD, e1, e2]
theorem rd_ring : Rd enc Try.prog w 22 fun xs => ∃ l : Ring, xs = [.l l.length (ringD l)] ∧ l.fits := by
  refine Rd.mono (Rd.list (f := mbD) Try.underlying22 (sz := 4) (by kernel_rfl) (by decide) rd_mb) fun xs h => ?_
  obtain ⟨l, rfl, h1, h2⟩ := h
  exact ⟨l, rfl, h2, h1⟩
end
end Go.AW
