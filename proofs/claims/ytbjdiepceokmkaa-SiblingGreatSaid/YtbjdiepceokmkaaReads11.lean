/-
  Vectors and clocks: how the laws' arguments are read.
-/
import Derived.Test.YtbjdiepceokmkaaVec4
import Derived.Test.YtbjdiepceokmkaaMb
namespace Go.AW
open Go Go.Proofs Go.RowKit

section
variable {H : Type} {enc : TypeId × Value → H} {w : World}
theorem rd_en : Rd enc Try.prog w 40 fun xs => ∃ x : En, xs = enD x ∧ x.1.length ≤ 9223372036854775807 ∧ x.2 < 18446744073709551616 := by
  refine Rd.mono (Rd.struct (Ss := [_, _]) Try.underlying40 (by kernel_rfl) ⟨Rd.str Try.underlying9, Rd.int Try.underlying38, trivial⟩) fun xs h => ?_
  obtain ⟨_, _, ⟨s, rfl, hs⟩, ⟨_, _, ⟨n, rfl, hn⟩, rfl, rfl⟩, rfl⟩ := h
  have h1 := wf_u64 hn
  refine ⟨(s, n.toNat), ?_, hs, by simp only; omega⟩
  have : ((n.toNat : Nat) : Int) = n := by omega
  simp [enD, this]
theorem rd_vec : Rd enc Try.prog w 37 fun xs => ∃ v : Vec, xs = [.l v.length (vecD v)] ∧ v.fits := by
  refine Rd.mono (Rd.list (f := enD) Try.underlying37 (sz := 2) (by kernel_rfl) (by decide) rd_en) fun xs h => ?_
  obtain ⟨v, rfl, h1, h2⟩ := h
  exact ⟨v, rfl, h2, fun x hx => (h1 x hx).1, fun x hx => (h1 x hx).2⟩
theorem vecs_flat (l : List Vec) : (l.map fun v => [D.l v.length (vecD v)]).flatten = vecsD l := by
  induction l with
  | nil => rfl
  | cons s l ih => simp only [List.map_cons, List.flatten_cons, ih]; rfl
theorem rd_vecs : Rd enc Try.prog w 133 fun xs => ∃ l : List Vec, xs = [.l l.length (vecsD l)] ∧ ∀ v ∈ l, v.fits := by
  refine Rd.mono (Rd.list (f := fun v : Vec => [D.l v.length (vecD v)]) Try.underlying133 (sz := 1) (by kernel_rfl) (by decide) rd_vec) fun xs h => ?_
  obtain ⟨l, rfl, h1, h2⟩ := h
  exact ⟨l, by rw [vecs_flat], h1⟩
end

end Go.AW
