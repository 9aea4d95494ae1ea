/-
  Vectors and clocks: how the laws' arguments are read.
-/
import Derived.Test.YtbedecfkincemaaGreatY06
import Derived.Test.YtbedecfkincemaaGreatY01
import Derived.Test.YtbedecfkincemaaGreatY07
import Derived.Test.YtbedecfkincemaaGreatY08
import Derived.Test.YtbedecfkincemaaGreatY09
import Derived.Test.YtbedecfkincemaaGreatY10
import Derived.Test.YtbedecfkincemaaGreatY11
import Derived.Test.YtbedecfkincemaaGreatChecked
import Derived.Test.YtbedecfkincemaaGreatRows
import Derived.JoinedOf
import Derived.Below
import Derived.ProofKit
namespace Go.AW
open Go Go.Proofs Go.RowKit

section
variable {H : Type} {enc : TypeId × Value → H} {w : World}
theorem rd_en : Rd enc Tryz.prog w 165 fun xs => ∃ x : En, xs = enD x ∧ x.1.length ≤ 9223372036854775807 ∧ x.2 < 18446744073709551616 := by
  refine Rd.mono (Rd.struct (Ss := [_, _]) Tryz.underlying165 (by kernel_rfl) ⟨Rd.str Tryz.underlying9, Rd.int Tryz.underlying23, trivial⟩) fun xs h => ?_
  obtain ⟨_, _, ⟨s, rfl, hs⟩, ⟨_, _, ⟨n, rfl, hn⟩, rfl, rfl⟩, rfl⟩ := h
  have h1 := wf_u64 hn
  refine ⟨(s, n.toNat), ?_, hs, by simp only; omega⟩
  have : ((n.toNat : Nat) : Int) = n := by omega
  simp [enD, this]
theorem rd_vec : Rd enc Tryz.prog w 30 fun xs => ∃ v : Vec, xs = [.l v.length (vecD v)] ∧ v.fits := by
  refine Rd.mono (Rd.list (f := enD) Tryz.underlying30 (sz := 2) (by kernel_rfl) (by decide) rd_en) fun xs h => ?_
  obtain ⟨v, rfl, h1, h2⟩ := h
  exact ⟨v, rfl, h2, fun x hx => (h1 x hx).1, fun x hx => (h1 x hx).2⟩
end

end Go.AW
/-
  Clocks: how the laws' arguments are read.
-/
namespace Go.AW
open Go Go.Proofs Go.RowKit

section
variable {H : Type} {enc : TypeId × Value → H} {w : World}
theorem rd_ck : Rd enc Tryz.prog w 167 fun xs => ∃ k : Ck, xs = ckD k ∧ k.fits := by
  refine Rd.mono (Rd.struct (Ss := [_, _, _]) Tryz.underlying167 (by kernel_rfl) ⟨rd_vec, Rd.bool Tryz.underlying4, rd_en, trivial⟩) fun xs h => ?_
  obtain ⟨_, _, ⟨v, rfl, hv⟩, ⟨_, _, ⟨f, rfl⟩, ⟨_, _, ⟨x, rfl, hx⟩, rfl, rfl⟩, rfl⟩, rfl⟩ := h
  exact ⟨⟨v, f, x⟩, rfl, hv, hx.1, hx.2⟩
end

end Go.AW
/-
  Siblings: how the laws' arguments are read.
-/
namespace Go.AW
open Go Go.Proofs Go.RowKit

section
variable {H : Type} {enc : TypeId × Value → H} {w : World}
theorem rd_pr : Rd enc Tryz.prog w 219 fun xs => ∃ x : Pr, xs = prD x ∧ x.1.length ≤ 9223372036854775807 ∧ x.2.length ≤ 9223372036854775807 := by
  refine Rd.mono (Rd.struct (Ss := [_, _]) Tryz.underlying219 (by kernel_rfl) ⟨Rd.str Tryz.underlying9, Rd.str Tryz.underlying9, trivial⟩) fun xs h => ?_
  obtain ⟨_, _, ⟨s, rfl, hs⟩, ⟨_, _, ⟨n, rfl, hn⟩, rfl, rfl⟩, rfl⟩ := h
  exact ⟨(s, n), rfl, hs, hn⟩
theorem rd_prs : Rd enc Tryz.prog w 31 fun xs => ∃ v : Prs, xs = [.l v.length (prsD v)] ∧ v.fits := by
  refine Rd.mono (Rd.list (f := prD) Tryz.underlying31 (sz := 2) (by kernel_rfl) (by decide) rd_pr) fun xs h => ?_
  obtain ⟨v, rfl, h1, h2⟩ := h
  exact ⟨v, rfl, h2, fun x hx => (h1 x hx).1, fun x hx => (h1 x hx).2⟩
theorem rd_sb : Rd enc Tryz.prog w 169 fun xs => ∃ x : Sb, xs = sbD x ∧ x.fits := by
  refine Rd.mono (Rd.struct (Ss := [_, _, _, _]) Tryz.underlying169 (by kernel_rfl) ⟨rd_ck, rd_prs, Rd.bool Tryz.underlying4, Rd.str Tryz.underlying9, trivial⟩) fun xs h => ?_
  obtain ⟨_, _, ⟨k, rfl, hk⟩, ⟨_, _, ⟨m, rfl, hm⟩, ⟨_, _, ⟨f, rfl⟩, ⟨_, _, ⟨t, rfl, ht⟩, rfl, rfl⟩, rfl⟩, rfl⟩, rfl⟩ := h
  exact ⟨⟨k, m, f, t⟩, rfl, hk, hm, ht⟩
theorem rd_sbs : Rd enc Tryz.prog w 24 fun xs => ∃ l : List Sb, xs = [.l l.length (sbsD l)] ∧ l.length ≤ 9223372036854775807 ∧ ∀ k ∈ l, k.fits := by
  refine Rd.mono (Rd.list (f := sbD) Tryz.underlying24 (sz := 7) (by kernel_rfl) (by decide) rd_sb) fun xs h => ?_
  obtain ⟨l, rfl, h1, h2⟩ := h
  exact ⟨l, rfl, h2, h1⟩
end

end Go.AW
/-
  Objects: how the laws' arguments are read.
-/
namespace Go.AW
open Go Go.Proofs Go.RowKit

section
variable {H : Type} {enc : TypeId × Value → H} {w : World}
theorem rd_oj : Rd enc Tryz.prog w 26 fun xs => ∃ o : Oj, xs = [.s (.string ⟨o.key.toArray⟩), .l o.sibs.length (sbsD o.sibs)] ∧ o.fits := by
  refine Rd.mono (Rd.struct (Ss := [_, _]) Tryz.underlying26 (by kernel_rfl) ⟨Rd.str Tryz.underlying9, rd_sbs, trivial⟩) fun xs h => ?_
  obtain ⟨_, _, ⟨t, rfl, ht⟩, ⟨_, _, ⟨l, rfl, h1, h2⟩, rfl, rfl⟩, rfl⟩ := h
  exact ⟨⟨t, l⟩, rfl, ht, h1, h2⟩
end

end Go.AW
/-
  Old objects: how the laws' arguments are read.
-/
namespace Go.AW
open Go Go.Proofs Go.RowKit

section
variable {H : Type} {enc : TypeId × Value → H} {w : World}
theorem rd_os : Rd enc Tryz.prog w 215 fun xs => ∃ x : Os1, xs = osD x ∧ x.fits := by
  refine Rd.mono (Rd.struct (Ss := [_, _, _]) Tryz.underlying215 (by kernel_rfl) ⟨rd_vec, Rd.bool Tryz.underlying4, Rd.str Tryz.underlying9, trivial⟩) fun xs h => ?_
  obtain ⟨_, _, ⟨v, rfl, hv⟩, ⟨_, _, ⟨f, rfl⟩, ⟨_, _, ⟨t, rfl, ht⟩, rfl, rfl⟩, rfl⟩, rfl⟩ := h
  exact ⟨⟨v, f, t⟩, rfl, hv, ht⟩
theorem rd_oss : Rd enc Tryz.prog w 27 fun xs => ∃ l : List Os1, xs = [.l l.length (ossD l)] ∧ l.length ≤ 9223372036854775807 ∧ ∀ k ∈ l, k.fits := by
  refine Rd.mono (Rd.list (f := osD) Tryz.underlying27 (sz := 3) (by kernel_rfl) (by decide) rd_os) fun xs h => ?_
  obtain ⟨l, rfl, h1, h2⟩ := h
  exact ⟨l, rfl, h2, h1⟩
theorem rd_od : Rd enc Tryz.prog w 29 fun xs => ∃ o : Od, xs = [.s (.string ⟨o.key.toArray⟩), .l o.sibs.length (ossD o.sibs)] ∧ o.fits := by
  refine Rd.mono (Rd.struct (Ss := [_, _]) Tryz.underlying29 (by kernel_rfl) ⟨Rd.str Tryz.underlying9, rd_oss, trivial⟩) fun xs h => ?_
  obtain ⟨_, _, ⟨t, rfl, ht⟩, ⟨_, _, ⟨l, rfl, h1, h2⟩, rfl, rfl⟩, rfl⟩ := h
  exact ⟨⟨t, l⟩, rfl, ht, h1, h2⟩
end

end Go.AW
/-
  Rings: how the laws' arguments are read.
-/
namespace Go.AW
open Go Go.Proofs Go.RowKit

section
variable {H : Type} {enc : TypeId × Value → H} {w : World}
theorem toks_flat (l : List Nat) : (l.map fun t => [D.s (.int .u64 (t : Nat))]).flatten = toksD l := by
  induction l with
  | nil => rfl
  | cons s l ih => simp only [List.map_cons, List.flatten_cons, ih]; rfl
theorem rd_toks : Rd enc Tryz.prog w 224 fun xs => ∃ l : List Nat, xs = [.l l.length (toksD l)] ∧ l.length ≤ 9223372036854775807 ∧ ∀ t ∈ l, t < 18446744073709551616 := by
  refine Rd.mono (Rd.list (f := fun t : Nat => [D.s (.int .u64 (t : Nat))]) (ok := fun t => t < 18446744073709551616) Tryz.underlying224 (by kernel_rfl) Nat.one_pos (Rd.mono (Rd.int Tryz.underlying23) fun xs h => ?_)) fun xs h => ?_
  · obtain ⟨n, rfl, hn⟩ := h
    have h1 := wf_u64 hn
    refine ⟨n.toNat, ?_, by omega⟩
    have : ((n.toNat : Nat) : Int) = n := by omega
    rw [this]
  · obtain ⟨l, rfl, h1, h2⟩ := h
    exact ⟨l, by rw [toks_flat], h2, h1⟩
theorem rd_mb : Rd enc Tryz.prog w 226 fun xs => ∃ x : Mb, xs = mbD x ∧ x.fits ∧ x.name.length ≤ 9223372036854775807 ∧ x.toks.length ≤ 9223372036854775807 := by
  refine Rd.mono (Rd.struct (Ss := [_, _, _, _]) Tryz.underlying226 (by kernel_rfl) ⟨Rd.str Tryz.underlying9, Rd.int Tryz.underlying23, Rd.int Tryz.underlying5, rd_toks, trivial⟩) fun xs h => ?_
  obtain ⟨_, _, ⟨s, rfl, hs⟩, ⟨_, _, ⟨n, rfl, hn⟩, ⟨_, _, ⟨b, rfl, hb⟩, ⟨_, _, ⟨l, rfl, h1, h2⟩, rfl, rfl⟩, rfl⟩, rfl⟩, rfl⟩ := h
  have g1 := wf_u64 hn
  have g2 := wf_u8 hb
  refine ⟨⟨s, n.toNat, b.toNat, l⟩, ?_, ⟨by show n.toNat < _; omega, by show b.toNat < _; omega, h2⟩, hs, h1⟩
  have e1 : ((n.toNat : Nat) : Int) = n := by omega
  have e2 : ((b.toNat : Nat) : Int) = b := by omega
  simp [mbD, e1, e2]
theorem rd_ring : Rd enc Tryz.prog w 36 fun xs => ∃ l : Ring, xs = [.l l.length (ringD l)] ∧ l.fits := by
  refine Rd.mono (Rd.list (f := mbD) Tryz.underlying36 (sz := 4) (by kernel_rfl) (by decide) rd_mb) fun xs h => ?_
  obtain ⟨l, rfl, h1, h2⟩ := h
  exact ⟨l, rfl, h2, h1⟩
end
end Go.AW
/-
  Messages: how the laws' arguments are read.
-/
namespace Go.AW
open Go Go.Proofs Go.RowKit

section
variable {H : Type} {enc : TypeId × Value → H} {w : World}
theorem rd_it : Rd enc Tryz.prog w 221 fun xs => ∃ x : It, xs = itD x ∧ x.1.length ≤ 9223372036854775807 ∧ x.2.length ≤ 9223372036854775807 := by
  refine Rd.mono (Rd.struct (Ss := [_, _]) Tryz.underlying221 (by kernel_rfl) ⟨Rd.str Tryz.underlying9, Rd.str Tryz.underlying9, trivial⟩) fun xs h => ?_
  obtain ⟨_, _, ⟨s, rfl, hs⟩, ⟨_, _, ⟨n, rfl, hn⟩, rfl, rfl⟩, rfl⟩ := h
  exact ⟨(s, n), rfl, hs, hn⟩
theorem rd_sl : Rd enc Tryz.prog w 223 fun xs => ∃ x : Sl, xs = slD x ∧ x.1 < 256 ∧ x.2.length ≤ 9223372036854775807 := by
  refine Rd.mono (Rd.struct (Ss := [_, _]) Tryz.underlying223 (by kernel_rfl) ⟨Rd.int Tryz.underlying5, Rd.str Tryz.underlying9, trivial⟩) fun xs h => ?_
  obtain ⟨_, _, ⟨b, rfl, hb⟩, ⟨_, _, ⟨n, rfl, hn⟩, rfl, rfl⟩, rfl⟩ := h
  have g2 := wf_u8 hb
  refine ⟨(b.toNat, n), ?_, by show b.toNat < _; omega, hn⟩
  have e2 : ((b.toNat : Nat) : Int) = b := by omega
  simp [slD, e2]
theorem rd_its : Rd enc Tryz.prog w 33 fun xs => ∃ l : List It, xs = [.l l.length (itsD l)] ∧ l.length ≤ 9223372036854775807 ∧ ∀ x ∈ l, x.1.length ≤ 9223372036854775807 ∧ x.2.length ≤ 9223372036854775807 := by
  refine Rd.mono (Rd.list (f := itD) Tryz.underlying33 (sz := 2) (by kernel_rfl) (by decide) rd_it) fun xs h => ?_
  obtain ⟨l, rfl, h1, h2⟩ := h
  exact ⟨l, rfl, h2, h1⟩
theorem rd_sls : Rd enc Tryz.prog w 32 fun xs => ∃ l : List Sl, xs = [.l l.length (slsD l)] ∧ l.length ≤ 9223372036854775807 ∧ ∀ x ∈ l, x.1 < 256 ∧ x.2.length ≤ 9223372036854775807 := by
  refine Rd.mono (Rd.list (f := slD) Tryz.underlying32 (sz := 2) (by kernel_rfl) (by decide) rd_sl) fun xs h => ?_
  obtain ⟨l, rfl, h1, h2⟩ := h
  exact ⟨l, rfl, h2, h1⟩
theorem rd_pg : Rd enc Tryz.prog w 35 fun xs => ∃ g : Pg, xs = [.s (.string ⟨g.pre.toArray⟩), .s (.bool g.leaf), .l g.slots.length (slsD g.slots), .l g.items.length (itsD g.items)] ∧ g.fits := by
  refine Rd.mono (Rd.struct (Ss := [_, _, _, _]) Tryz.underlying35 (by kernel_rfl) ⟨Rd.str Tryz.underlying9, Rd.bool Tryz.underlying4, rd_sls, rd_its, trivial⟩) fun xs h => ?_
  obtain ⟨_, _, ⟨t, rfl, ht⟩, ⟨_, _, ⟨f, rfl⟩, ⟨_, _, ⟨l, rfl, h1, h2⟩, ⟨_, _, ⟨m, rfl, h3, h4⟩, rfl, rfl⟩, rfl⟩, rfl⟩, rfl⟩ := h
  exact ⟨⟨t, f, l, m⟩, rfl, ht, ⟨h1, h2⟩, h3, h4⟩
theorem rd_mg : Rd enc Tryz.prog w 38 fun xs => ∃ m : Mg, xs = mgD m ∧ m.fits := by
  refine Rd.mono (Rd.struct (Ss := [_, _, _, _, _, _, _, _, _, _, _, _, _, _, _]) Tryz.underlying38 (by kernel_rfl)
    ⟨Rd.int Tryz.underlying5, Rd.int Tryz.underlying23, Rd.str Tryz.underlying9, Rd.bool Tryz.underlying4, rd_oj, rd_od, rd_vec, rd_prs, Rd.bool Tryz.underlying4, Rd.str Tryz.underlying9, Rd.str Tryz.underlying9, rd_pg, rd_ring, Rd.int Tryz.underlying3, Rd.str Tryz.underlying9, trivial⟩) fun xs h => ?_
  obtain ⟨_, _, ⟨k, rfl, hk⟩, ⟨_, _, ⟨i, rfl, hi⟩, ⟨_, _, ⟨ky, rfl, hky⟩, ⟨_, _, ⟨fo, rfl⟩, ⟨_, _, ⟨o, rfl, ho⟩, ⟨_, _, ⟨q, rfl, hq⟩, ⟨_, _, ⟨cx, rfl, hcx⟩, ⟨_, _, ⟨mt, rfl, hmt⟩, ⟨_, _, ⟨dd, rfl⟩, ⟨_, _, ⟨vl, rfl, hvl⟩, ⟨_, _, ⟨px, rfl, hpx⟩, ⟨_, _, ⟨pg, rfl, hpg⟩, ⟨_, _, ⟨rg, rfl, hrg⟩, ⟨_, _, ⟨cd, rfl, hcd⟩, ⟨_, _, ⟨tx, rfl, htx⟩, rfl, rfl⟩, rfl⟩, rfl⟩, rfl⟩, rfl⟩, rfl⟩, rfl⟩, rfl⟩, rfl⟩, rfl⟩, rfl⟩, rfl⟩, rfl⟩, rfl⟩, rfl⟩ := h
  have g1 := wf_u8 hk
  have g2 := wf_u64 hi
  refine ⟨⟨k.toNat, i.toNat, ky, fo, o, q, cx, mt, dd, vl, px, pg, rg, cd, tx⟩, ?_, ⟨by show k.toNat < _; omega, by show i.toNat < _; omega, hky, ho, hq, hcx, hmt, hvl, hpx, hpg, hrg, ⟨(wf_i64 hcd).1, (wf_i64 hcd).2⟩, htx⟩⟩
  have e1 : ((k.toNat : Nat) : Int) = k := by omega
  have e2 : ((i.toNat : Nat) : Int) = i := by omega
  simp [mgD, e1, e2]
end
end Go.AW
/-
  The seat's program: what every row asks of it, once.
-/
namespace Go.AW
open Go Go.Proofs
set_option linter.unusedSimpArgs false

def chs (l : List Nat) : List Char := l.map Char.ofNat
theorem words_app (r : List Char) : ∀ w : List Nat, (w.all fun c => !(Char.ofNat c == Char.ofNat 32)) = true → wordsSigns (chs w ++ Char.ofNat 32 :: r) = chs w :: wordsSigns r
  | [], _ => rfl
  | c :: w, h => by
    simp only [List.all_cons, Bool.and_eq_true] at h
    have ih := words_app r w h.2
    have hc : Char.ofNat c ≠ Char.ofNat 32 := by simpa using h.1
    show wordsSigns (Char.ofNat c :: (chs w ++ Char.ofNat 32 :: r)) = _
    conv => lhs; unfold wordsSigns
    split
    · rename_i heq; cases heq
    · rename_i heq
      obtain ⟨h1, h2⟩ := List.cons.inj heq
      exact absurd h1 hc
    · rename_i heq
      obtain ⟨h1, h2⟩ := List.cons.inj heq
      subst h1 h2
      rw [ih]
      rfl
def headWord : List Nat := [104, 97, 114, 110, 101, 115, 115]
def headSum : List Nat := [97, 101, 102, 54, 50, 97, 56, 50, 98, 98, 52, 50, 51, 100, 52, 57, 99, 54, 99, 100, 57, 97, 99, 51, 98, 54, 57, 102, 102, 102, 51, 53, 102, 101, 49, 52, 50, 53, 50, 57, 48, 99, 48, 102, 100, 48, 52, 100, 101, 54, 53, 57, 50, 99, 48, 48, 55, 52, 102, 57, 54, 57, 49, 99]
def headCut : List Nat := [99, 117, 116]
def headRest : List Nat := [97, 116, 32, 115, 112, 101, 110, 99, 101, 47, 115, 112, 101, 110, 99, 101, 108, 97, 119, 50, 51, 46, 77, 115, 103, 68, 101, 99, 111, 100, 101, 115, 32, 115, 112, 101, 110, 99, 101, 47, 115, 112, 101, 110, 99, 101, 108, 97, 119, 50, 51, 46, 77, 115, 103, 67, 117, 116, 115, 32, 115, 112, 101, 110, 99, 101, 47, 115, 112, 101, 110, 99, 101, 108, 97, 119, 50, 52, 46, 82, 112, 99, 83, 101, 97, 108, 115, 32, 115, 112, 101, 110, 99, 101, 47, 115, 112, 101, 110, 99, 101, 108, 97, 119, 50, 51, 46, 77, 115, 103, 75, 105, 110, 100, 115, 32, 115, 112, 101, 110, 99, 101, 47, 115, 112, 101, 110, 99, 101, 108, 97, 119, 50, 51, 46, 77, 115, 103, 80, 108, 97, 105, 110, 32, 115, 112, 101, 110, 99, 101, 47, 115, 112, 101, 110, 99, 101, 108, 97, 119, 50, 51, 46, 77, 115, 103, 69, 110, 99, 111, 100, 101, 115, 32, 115, 112, 101, 110, 99, 101, 47, 115, 112, 101, 110, 99, 101, 108, 97, 119, 51, 49, 46, 80, 97, 114, 116, 115, 67, 117, 116, 32, 115, 112, 101, 110, 99, 101, 47, 115, 112, 101, 110, 99, 101, 108, 97, 119, 51, 49, 46, 80, 97, 114, 116, 115, 84, 101, 108, 108, 32, 115, 112, 101, 110, 99, 101, 47, 115, 112, 101, 110, 99, 101, 108, 97, 119, 50, 52, 46, 82, 112, 99, 82, 101, 97, 100, 115, 32, 115, 112, 101, 110, 99, 101, 47, 115, 112, 101, 110, 99, 101, 108, 97, 119, 51, 49, 46, 80, 97, 114, 116, 115, 80, 97, 121, 108, 111, 97, 100, 32, 115, 112, 101, 110, 99, 101, 47, 115, 112, 101, 110, 99, 101, 108, 97, 119, 51, 49, 46, 80, 97, 114, 116, 115, 67, 111, 118, 101, 114, 32, 115, 112, 101, 110, 99, 101, 47, 115, 112, 101, 110, 99, 101, 108, 97, 119, 50, 52, 46, 82, 112, 99, 87, 114, 105, 116, 101, 115]
def hcs : List Char := chs headWord ++ Char.ofNat 32 :: (chs headSum ++ Char.ofNat 32 :: (chs headCut ++ Char.ofNat 32 :: chs headRest))
theorem head_o : Tryz.prog.initOrder = String.ofList hcs := by kernel_rfl
theorem head_w : behindMainWord (wordsSigns Tryz.prog.initOrder.toList) = "cut".toList :: wordsSigns (chs headRest) := by
  rw [head_o, String.toList_ofList, hcs, words_app _ _ (by decide +kernel), words_app _ _ (by decide +kernel), words_app _ _ (by decide +kernel)]
  have h1 : chs headWord = "harness".toList := by decide +kernel
  have h2 : isSumSigns (chs headSum) = true := by decide +kernel
  have h3 : chs headCut = "cut".toList := by decide +kernel
  rw [h1, h3]
  unfold behindMainWord
  simp only [h2, beq_self_eq_true, Bool.true_or, Bool.true_and, if_true]
theorem head_strip (ws : List (List Char)) : stripLifts liftWords ("cut".toList :: ws) = ([], "cut".toList :: ws) := by
  have : ∀ l : List String, (l.all fun o => !("cut".toList == o.toList)) = true → stripLifts l ("cut".toList :: ws) = ([], "cut".toList :: ws) := by
    intro l
    induction l with
    | nil => intro _; rfl
    | cons o l ih =>
      intro h
      simp only [List.all_cons, Bool.and_eq_true, Bool.not_eq_true'] at h
      unfold stripLifts
      rw [if_neg (by rw [h.1]; decide)]
      exact ih h.2
  exact this _ (by decide +kernel)
theorem head_lifts : Tryz.prog.headLifts = [] := by
  unfold Program.headLifts
  rw [head_w, head_strip]
  simp
theorem head_final : Tryz.prog.liftsFinal = false := by
  unfold Program.liftsFinal
  rw [head_w, head_lifts]
  have : ((some "cut".toList == some "carried".toList) = false) := by decide +kernel
  simp only [List.head?_cons, this, Bool.false_and, Bool.false_or]
  rfl
theorem make_of {P : Program} {r : List (List Char)} (h : behindMainWord (wordsSigns P.initOrder.toList) = "cut".toList :: r) : P.make = some .cut := by
  unfold Program.make
  rw [h]
  have h1 : (("cut".toList == "gc".toList || "cut".toList == "spec".toList) = false) := by decide +kernel
  simp only [h1, Bool.false_eq_true, if_false, beq_self_eq_true, Bool.true_or, if_true]
theorem enter_of {P : Program} {r : List (List Char)} (h : behindMainWord (wordsSigns P.initOrder.toList) = "cut".toList :: r) (hl : P.laysLater = false) (hr : P.bearsReflect = false) (hd : P.doorRows = []) : P.mayEnter = true := by
  unfold Program.mayEnter
  rw [h]
  have h1 : (("cut".toList == "gc".toList || "cut".toList == "spec".toList) = false) := by decide +kernel
  have h2 : (("cut".toList == "carried".toList) = false) := by decide +kernel
  have h3 : P.doorFits [] = true := by
    unfold Program.doorFits
    rw [hd]
    rfl
  simp only [h1, h2, head_strip, hl, hr, h3, List.head?_cons, beq_self_eq_true, Bool.not_false, Bool.or_true, Bool.and_true, Bool.false_and, Bool.or_false, Bool.true_and, Bool.false_or, List.contains_nil, Bool.or_self]
theorem head_make : Tryz.prog.make = some .cut := make_of head_w
theorem head_lays : Tryz.prog.laysLater = false := by
  unfold Program.laysLater
  rw [← Array.any_toList]
  kernel_rfl
theorem head_refl : Tryz.prog.bearsReflect = false := by kernel_rfl
theorem head_rows : Tryz.prog.doorRows = [] := by kernel_rfl
theorem head_enter : Tryz.prog.mayEnter = true := enter_of head_w head_lays head_refl head_rows
theorem head_laid : laidOutB Tryz.prog = true := by kernel_rfl
theorem head_maps : mapsRowed Tryz.prog = true := by kernel_rfl
theorem head_keys : Tryz.prog.plainKeys = true := by kernel_rfl
theorem head_stops : Tryz.prog.stops = [] := by kernel_rfl
theorem head_knobs : Tryz.prog.stopKnobs = [] := by kernel_rfl
theorem head_heard : Tryz.prog.stopsHeard = true := by kernel_rfl
theorem joined_of {P : Program} {f : FuncId} {fn : Func} {s : ChangeSpec} {c : OpenClaim} (h1 : laidOutB P = true) (h2 : mapsRowed P = true) (h3 : P.stops = []) (h4 : P.stopKnobs = []) (h5 : (c.inPlace == P.inPlace f) = true) (h6 : (c.unfollowed == P.unfollowed f) = true) (h7 : (c.recurses == P.recurses f) = true) (h8 : (c.named == P.varsNamed f) = true)
    (h9 : P.stopsHeard = true) (h10 : P.mayEnter = true) (h11 : P.liftsFinal = c.lifted) (h12 : P.make = some c.make) (h13 : P.plainKeys = c.plainKeys)
    (h : (c.wf (OpenSpec.ofChange s) &&
      fn.params.all (P.readableRec ·) &&
      namedTie P c.named s.vars &&
      (c.stops == []) &&
      (c.knobs == []) &&
      (c.maps == (fn.params.toList ++ s.plain.varTypes P).any (P.mapsRec ·)) &&
      (c.ifaces == (fn.params.toList ++ s.plain.varTypes P).any (P.ifacesRec ·)) &&
      (c.mapsOut == P.mapsAmong fn.resultTypes.toList) &&
      (c.loops == (fn.params.toList ++ s.plain.varTypes P).any (P.loopsFrom ·)) &&
      (c.wideKeys == (fn.params.toList ++ s.plain.varTypes P ++ fn.resultTypes.toList).any (P.wideKeysFrom ·)) &&
      s.vars.all (P.varReadable ·) &&
      fn.resultTypes.all (fun t => P.readableRec t && decide (t < P.types.size)) &&
      (c.ifacesOut == fn.resultTypes.toList.any (P.ifacesRec ·)) &&
      (c.loopsOut == fn.resultTypes.toList.any (P.loopsFrom ·)) &&
      c.shortTexts.isNone &&
      (c.kinds == (if c.domain.isEmpty then [] else fn.params.toList.map fun t => match P.underlying t with | some (.int k) => some k | _ => none)) &&
      (c.pinned == c.pinnedBy) &&
      (c.veiled == (fn.params.toList ++ s.plain.varTypes P ++ fn.resultTypes.toList).any (P.veiledRec ·)) &&
      c.veiledFits P fn.params.toList (fn.params.toList ++ s.plain.varTypes P ++ fn.resultTypes.toList)) = true) : joinedFacts P f fn s c = true := by
  unfold joinedFacts
  simp only [Bool.and_eq_true] at h ⊢
  obtain ⟨⟨⟨⟨⟨⟨⟨⟨⟨⟨⟨⟨⟨⟨⟨⟨⟨⟨a0, a1⟩, a2⟩, a3⟩, a4⟩, a5⟩, a6⟩, a7⟩, a8⟩, a9⟩, a10⟩, a11⟩, a12⟩, a13⟩, a14⟩, a15⟩, a16⟩, a17⟩, a18⟩ := h
  exact ⟨⟨⟨⟨⟨⟨⟨⟨⟨⟨⟨⟨⟨⟨⟨⟨⟨⟨⟨⟨⟨⟨⟨⟨⟨⟨⟨⟨⟨⟨⟨a0, h1⟩, h2⟩, a1⟩, a2⟩, a3⟩, (by rw [h3]; rfl)⟩, a4⟩, (by rw [h4]; rfl)⟩, h5⟩, h6⟩, h7⟩, h8⟩, a5⟩, a6⟩, a7⟩, a8⟩, a9⟩, a10⟩, a11⟩, a12⟩, a13⟩, (by rw [h13]; exact beq_self_eq_true _)⟩, a14⟩, h9⟩, h10⟩, (by rw [h11]; exact beq_self_eq_true _)⟩, (by rw [h12]; exact beq_self_eq_true _)⟩, a15⟩, a16⟩, a17⟩, a18⟩
end Go.AW
