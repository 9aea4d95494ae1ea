/-
  Siblings: how the laws' arguments are read.
-/
import Derived.Test.YtbjdiepceokmkaaReads13
import Derived.Test.YtbjdiepceokmkaaSib4
namespace Go.AW
open Go Go.Proofs Go.RowKit

section
variable {H : Type} {enc : TypeId × Value → H} {w : World}
theorem rd_pr : Rd enc Try.prog w 35 fun xs => ∃ x : Pr, xs = prD x ∧ x.1.length ≤ 9223372036854775807 ∧ x.2.length ≤ 9223372036854775807 := by
  refine Rd.mono (Rd.struct (Ss := [_, _]) Try.underlying35 (by kernel_rfl) ⟨Rd.str Try.underlying9, Rd.str Try.underlying9, trivial⟩) fun xs h => ?_
  obtain ⟨_, _, ⟨s, rfl, hs⟩, ⟨_, _, ⟨n, rfl, hn⟩, rfl, rfl⟩, rfl⟩ := h
  exact ⟨(s, n), rfl, hs, hn⟩
theorem rd_prs : Rd enc Try.prog w 36 fun xs => ∃ v : Prs, xs = [.l v.length (prsD v)] ∧ v.fits := by
  refine Rd.mono (Rd.list (f := prD) Try.underlying36 (sz := 2) (by kernel_rfl) (by decide) rd_pr) fun xs h => ?_
  obtain ⟨v, rfl, h1, h2⟩ := h
  exact ⟨v, rfl, h2, fun x hx => (h1 x hx).1, fun x hx => (h1 x hx).2⟩
theorem rd_sb : Rd enc Try.prog w 44 fun xs => ∃ x : Sb, xs = sbD x ∧ x.fits := by
  refine Rd.mono (Rd.struct (Ss := [_, _, _, _]) Try.underlying44 (by kernel_rfl) ⟨rd_ck, rd_prs, Rd.bool Try.underlying4, Rd.str Try.underlying9, trivial⟩) fun xs h => ?_
  obtain ⟨_, _, ⟨k, rfl, hk⟩, ⟨_, _, ⟨m, rfl, hm⟩, ⟨_, _, ⟨f, rfl⟩, ⟨_, _, ⟨t, rfl, ht⟩, rfl, rfl⟩, rfl⟩, rfl⟩, rfl⟩ := h
  exact ⟨⟨k, m, f, t⟩, rfl, hk, hm, ht⟩
theorem rd_sbs : Rd enc Try.prog w 56 fun xs => ∃ l : List Sb, xs = [.l l.length (sbsD l)] ∧ l.length ≤ 9223372036854775807 ∧ ∀ k ∈ l, k.fits := by
  refine Rd.mono (Rd.list (f := sbD) Try.underlying56 (sz := 7) (by kernel_rfl) (by decide) rd_sb) fun xs h => ?_
  obtain ⟨l, rfl, h1, h2⟩ := h
  exact ⟨l, rfl, h2, h1⟩
end

end Go.AW
