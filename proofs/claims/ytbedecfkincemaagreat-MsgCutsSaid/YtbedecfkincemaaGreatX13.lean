/-
  right rings: the program's and the document's.
-/
import Derived.Test.YtbedecfkincemaaGreatX12
import Derived.Test.YtbedecfkincemaaGreatX06
namespace Go.AW
open Go Go.Proofs
set_option maxHeartbeats 2000000
set_option maxRecDepth 10000
set_option linter.unusedSimpArgs false
set_option linter.unusedVariables false
attribute [local irreducible] thenQ blockQ RetQ AL AW AC AOp

def mbD (x : Mb) : List D := [.s (.string ⟨x.name.toArray⟩), .s (.int .u64 (x.ep : Nat)), .s (.int .u8 (x.st : Nat)), .l x.toks.length (toksD x.toks)]
abbrev mbV (x : Mb) : V := .a [sv (bs x.name), iv .u64 (x.ep : Nat), iv .u8 (x.st : Nat), .d (.l x.toks.length (toksD x.toks))]
abbrev ringD (l : Ring) : List D := (l.map mbD).flatten
theorem ring_drop {l r : Ring} {x : Mb} {i : Nat} (h : l.drop i = x :: r) : (ringD l).drop (i * 4) = .s (.string ⟨x.name.toArray⟩) :: .s (.int .u64 (x.ep : Nat)) :: .s (.int .u8 (x.st : Nat)) :: .l x.toks.length (toksD x.toks) :: ringD r := by
  rw [ringD, flat_drop (f := mbD) (sz := 4) (fun _ => rfl), h]; rfl
/-- What is known of any ring: its numbers, its lengths. -/
def Ring.fits (l : Ring) : Prop := l.length ≤ 9223372036854775807 ∧ ∀ x ∈ l, x.fits ∧ x.name.length ≤ 9223372036854775807 ∧ x.toks.length ≤ 9223372036854775807
/-- The name ahead of place i. -/
def Ring.ahead (l : Ring) (i : Nat) (p : List UInt8) : Prop := (i = 0 ∧ p = []) ∨ (0 < i ∧ p.length ≤ 32 ∧ ∃ y r, l.drop (i - 1) = y :: r ∧ y.name = p)
theorem mcheck_step {p : List UInt8} {x : Mb} {r : Ring} {R : Int} (h : mcheck p (x :: r) = R) :
    (32 < x.name.length → R = 3) ∧ (¬ 32 < x.name.length → x.name = [] → R = 14) ∧ (¬ 32 < x.name.length → x.name ≠ [] → lessB p x.name = false → R = 6) ∧
    (¬ 32 < x.name.length → x.name ≠ [] → lessB p x.name = true → (x.ep = 0 → R = 7) ∧ (x.ep ≠ 0 → (3 < x.st → R = 13) ∧ (¬ 3 < x.st → (16 < x.toks.length → R = 3) ∧ (¬ 16 < x.toks.length → (rises none x.toks = false → R = 6) ∧ (rises none x.toks = true → mcheck x.name r = R))))) := by
  unfold mcheck at h
  refine ⟨fun h1 => ?_, fun h1 h2 => ?_, fun h1 h2 h3 => ?_, fun h1 h2 h3 => ⟨fun h4 => ?_, fun h4 => ⟨fun h5 => ?_, fun h5 => ⟨fun h6 => ?_, fun h6 => ⟨fun h7 => ?_, fun h7 => ?_⟩⟩⟩⟩⟩
  · rw [if_pos h1] at h; exact h.symm
  · rw [if_neg h1, if_pos h2] at h; exact h.symm
  · rw [if_neg h1, if_neg h2, if_pos h3] at h; exact h.symm
  · rw [if_neg h1, if_neg h2, if_neg (by simp [h3]), if_pos h4] at h; exact h.symm
  · rw [if_neg h1, if_neg h2, if_neg (by simp [h3]), if_neg h4, if_pos h5] at h; exact h.symm
  · rw [if_neg h1, if_neg h2, if_neg (by simp [h3]), if_neg h4, if_neg h5, if_pos h6] at h; exact h.symm
  · rw [if_neg h1, if_neg h2, if_neg (by simp [h3]), if_neg h4, if_neg h5, if_neg h6, if_pos h7] at h; exact h.symm
  · rw [if_neg h1, if_neg h2, if_neg (by simp [h3]), if_neg h4, if_neg h5, if_neg h6, if_neg (by simp [h7])] at h; exact h

theorem ref22_Check (l : Ring) (hf : l.fits) : AC Tryz.prog 111 [.d (.l l.length (ringD l))] [] fun x σ => x = iv .i64 (Ring.check l) ∧ σ = [] := by
  refine AC.walk Tryz.func111 rfl (by decide) (of_decide_eq_true rfl) ?_
  have hll := hf.1
  by_cases h32 : 32 < l.length
  · have hc : Ring.check l = 3 := by unfold Ring.check; rw [if_pos h32]
    rw [hc]
    focus (have kxs := kx0; (repeat' (first | (refine ADr.nil ?_; try clear hgv) | refine GO ?_ | refine AW.ret ?_ | (refine GC ?_ ?_ <;> intro h <;> (try simp only [hsB] at h) <;> try exact xf) | (refine GD ?_ ?_ <;> intro h <;> (try intro hgv) <;> (try simp only [hsN] at h) <;> (try simp only [h]) <;> (try simp only [hsB] at h) <;> try exact xf) | (refine GL ?_ ?_ <;> intro h <;> (try simp only [hsN] at h) <;> (try simp only [h]) <;> (try simp only [hsB] at h) <;> try exact xf) | fail)); all_goals clear kxs)
    all_goals first | (exfalso; omega) | exact RetQ.fr 0 | exact RetQ.fn 0
  generalize hR : mcheck [] l = R
  have hc : Ring.check l = R := by unfold Ring.check; rw [if_neg h32, hR]
  rw [hc]
  focus (have kxs := kx0; (repeat' (first | (refine ADr.nil ?_; try clear hgv) | refine GO ?_ | refine AW.ret ?_ | (refine GC ?_ ?_ <;> intro h <;> (try simp only [hsB] at h) <;> try exact xf) | (refine GD ?_ ?_ <;> intro h <;> (try intro hgv) <;> (try simp only [hsN] at h) <;> (try simp only [h]) <;> (try simp only [hsB] at h) <;> try exact xf) | (refine GL ?_ ?_ <;> intro h <;> (try simp only [hsN] at h) <;> (try simp only [h]) <;> (try simp only [hsB] at h) <;> try exact xf) | fail)); all_goals clear kxs)
  all_goals first | (exfalso; omega) | skip
  refine AW.rounds [0, 2, 3] (fun i : Nat => [(0, .d (.l l.length (ringD l))), (2, iv .i64 0), (3, iv .i64 i)]) (fun _ => [])
    (fun i => i ≤ l.length ∧ ∃ p, l.ahead i p ∧ mcheck p (l.drop i) = R) (fun i => l.length - i) 0 ⟨Nat.zero_le _, [], .inl ⟨rfl, rfl⟩, hR⟩ rfl rfl (fun _ _ => Nat.zero_le _) (fun _ _ => rfl) (fun _ _ => rfl) ?_
  rintro i ⟨hi, p, hp, hr⟩ J hJ
  by_cases hil : i < l.length
  case neg =>
    focus (have kxs := kx0; (repeat' (first | (refine ADr.nil ?_; try clear hgv) | refine GO ?_ | refine AW.ret ?_ | (refine GC ?_ ?_ <;> intro h <;> (try simp only [hsB] at h) <;> try exact xf) | (refine GD ?_ ?_ <;> intro h <;> (try intro hgv) <;> (try simp only [hsN] at h) <;> (try simp only [h]) <;> (try simp only [hsB] at h) <;> try exact xf) | (refine GL ?_ ?_ <;> intro h <;> (try simp only [hsN] at h) <;> (try simp only [h]) <;> (try simp only [hsB] at h) <;> try exact xf) | fail)); all_goals clear kxs)
    have h0 : l.drop i = [] := List.drop_eq_nil_of_le (by omega)
    rw [h0] at hr
    have hR0 : R = 0 := hr.symm
    rw [hR0]
    (all_goals first | exact RetQ.fr 0 | exact RetQ.fn 0 | fail)
  obtain ⟨x, r, hd⟩ := next_at hil
  have hcd := ring_drop hd
  rw [hd] at hr
  obtain ⟨c1, c2, c3, c4⟩ := mcheck_step hr
  obtain ⟨⟨hep, hst, _⟩, hxl, htl⟩ := hf.2 x (next_mem hd)
  have hnx : ∀ hx : ¬ 32 < x.name.length, l.ahead (i + 1) x.name := fun hx => .inr ⟨by omega, by omega, x, r, by simpa using hd, rfl⟩
  have hnd := next_drop hd
  have go : ¬ 32 < x.name.length → mcheck x.name r = R → ∀ T' σ', keepT T' [0, 2, 3] = [(0, .d (.l l.length (ringD l))), (2, iv .i64 0), (3, iv .i64 ((i : Int) + 1))] → J T' σ' := fun h1 h2 T' σ' h3 =>
    hJ (i + 1) T' σ' (by omega) ⟨hil, x.name, hnx h1, by rw [hnd]; exact h2⟩ h3 rfl
  clear hJ hr hR
  generalize hrr : rises none x.toks = rr at *
  by_cases a1 : 32 < x.name.length
  · rw [c1 a1]
    focus (have kxs := hcd; (repeat' (first | (refine ADr.nil ?_; try clear hgv) | refine GO ?_ | refine AW.ret ?_ | (refine GC ?_ ?_ <;> intro h <;> (try simp only [hsB] at h) <;> try exact xf) | (refine GD ?_ ?_ <;> intro h <;> (try intro hgv) <;> (try simp only [hsN] at h) <;> (try simp only [h]) <;> (try simp only [hsB] at h) <;> try exact xf) | (refine GL ?_ ?_ <;> intro h <;> (try simp only [hsN] at h) <;> (try simp only [h]) <;> (try simp only [hsB] at h) <;> try exact xf) | fail)); all_goals clear kxs)
    all_goals first | exact RetQ.fr 0 | exact RetQ.fn 0 | (exfalso; omega) | (exfalso; simp_all; done)
  by_cases a2 : x.name = []
  · rw [c2 a1 a2]
    focus (have kxs := And.intro hcd a2; (repeat' (first | (refine ADr.nil ?_; try clear hgv) | refine GO ?_ | refine AW.ret ?_ | (refine GC ?_ ?_ <;> intro h <;> (try simp only [hsB] at h) <;> try exact xf) | (refine GD ?_ ?_ <;> intro h <;> (try intro hgv) <;> (try simp only [hsN] at h) <;> (try simp only [h]) <;> (try simp only [hsB] at h) <;> try exact xf) | (refine GL ?_ ?_ <;> intro h <;> (try simp only [hsN] at h) <;> (try simp only [h]) <;> (try simp only [hsB] at h) <;> try exact xf) | fail)); all_goals clear kxs)
    all_goals first | exact RetQ.fr 0 | exact RetQ.fn 0 | (exfalso; omega) | (exfalso; simp_all; done)
  cases a3 : lessB p x.name with
  | false =>
    rw [c3 a1 a2 a3]
    rcases hp with ⟨rfl, rfl⟩ | ⟨h0, hpl, y, r', hp, rfl⟩
    · exfalso
      cases hx : x.name with
      | nil => exact a2 hx
      | cons b t =>
        have h9 : lessB [] (b :: t) = true := less_nil_cons b t
        rw [hx, h9] at a3; cases a3
    · have hcp := ring_drop hp
      have hi1 : ((i : Int) - 1).toNat = i - 1 := by omega
      have hbe := ref06_Below y.name x.name (by omega) (by omega)
      rw [show Op.bytesLess y.name x.name = _ from a3] at hbe
      focus (have kxs := And.intro hcd (And.intro hcp hi1); have kk1 := uN [] (hbe); (repeat' (first | (refine ADr.nil ?_; try clear hgv) | refine GO ?_ | refine AW.ret ?_ | (refine GC ?_ ?_ <;> intro h <;> (try simp only [hsB] at h) <;> try exact xf) | (refine GD ?_ ?_ <;> intro h <;> (try intro hgv) <;> (try simp only [hsN] at h) <;> (try simp only [h]) <;> (try simp only [hsB] at h) <;> try exact xf) | (refine GL ?_ ?_ <;> intro h <;> (try simp only [hsN] at h) <;> (try simp only [h]) <;> (try simp only [hsB] at h) <;> try exact xf) | fail)); all_goals clear kxs kk1)
      all_goals first | exact RetQ.fr 0 | exact RetQ.fn 0 | (exfalso; omega) | (exfalso; simp_all; done)
  | true =>
    obtain ⟨c5, c6⟩ := c4 a1 a2 a3
    by_cases a4 : x.ep = 0
    · rw [c5 a4]
      rcases hp with ⟨rfl, rfl⟩ | ⟨h0, hpl, y, r', hp, rfl⟩
      · focus (have kxs := And.intro hcd a4; (repeat' (first | (refine ADr.nil ?_; try clear hgv) | refine GO ?_ | refine AW.ret ?_ | (refine GC ?_ ?_ <;> intro h <;> (try simp only [hsB] at h) <;> try exact xf) | (refine GD ?_ ?_ <;> intro h <;> (try intro hgv) <;> (try simp only [hsN] at h) <;> (try simp only [h]) <;> (try simp only [hsB] at h) <;> try exact xf) | (refine GL ?_ ?_ <;> intro h <;> (try simp only [hsN] at h) <;> (try simp only [h]) <;> (try simp only [hsB] at h) <;> try exact xf) | fail)); all_goals clear kxs)
        all_goals first | exact RetQ.fr 0 | exact RetQ.fn 0 | (exfalso; omega) | (exfalso; simp_all; done)
      · have hcp := ring_drop hp
        have hi1 : ((i : Int) - 1).toNat = i - 1 := by omega
        have hbe := ref06_Below y.name x.name (by omega) (by omega)
        rw [show Op.bytesLess y.name x.name = _ from a3] at hbe
        focus (have kxs := And.intro hcd (And.intro hcp (And.intro hi1 a4)); have kk1 := uN [] (hbe); (repeat' (first | (refine ADr.nil ?_; try clear hgv) | refine GO ?_ | refine AW.ret ?_ | (refine GC ?_ ?_ <;> intro h <;> (try simp only [hsB] at h) <;> try exact xf) | (refine GD ?_ ?_ <;> intro h <;> (try intro hgv) <;> (try simp only [hsN] at h) <;> (try simp only [h]) <;> (try simp only [hsB] at h) <;> try exact xf) | (refine GL ?_ ?_ <;> intro h <;> (try simp only [hsN] at h) <;> (try simp only [h]) <;> (try simp only [hsB] at h) <;> try exact xf) | fail)); all_goals clear kxs kk1)
        all_goals first | exact RetQ.fr 0 | exact RetQ.fn 0 | (exfalso; omega) | (exfalso; simp_all; done)
    obtain ⟨c7, c8⟩ := c6 a4
    by_cases a5 : 3 < x.st
    · rw [c7 a5]
      rcases hp with ⟨rfl, rfl⟩ | ⟨h0, hpl, y, r', hp, rfl⟩
      · focus (have kxs := hcd; (repeat' (first | (refine ADr.nil ?_; try clear hgv) | refine GO ?_ | refine AW.ret ?_ | (refine GC ?_ ?_ <;> intro h <;> (try simp only [hsB] at h) <;> try exact xf) | (refine GD ?_ ?_ <;> intro h <;> (try intro hgv) <;> (try simp only [hsN] at h) <;> (try simp only [h]) <;> (try simp only [hsB] at h) <;> try exact xf) | (refine GL ?_ ?_ <;> intro h <;> (try simp only [hsN] at h) <;> (try simp only [h]) <;> (try simp only [hsB] at h) <;> try exact xf) | fail)); all_goals clear kxs)
        all_goals first | exact RetQ.fr 0 | exact RetQ.fn 0 | (exfalso; omega) | (exfalso; simp_all; done)
      · have hcp := ring_drop hp
        have hi1 : ((i : Int) - 1).toNat = i - 1 := by omega
        have hbe := ref06_Below y.name x.name (by omega) (by omega)
        rw [show Op.bytesLess y.name x.name = _ from a3] at hbe
        focus (have kxs := And.intro hcd (And.intro hcp hi1); have kk1 := uN [] (hbe); (repeat' (first | (refine ADr.nil ?_; try clear hgv) | refine GO ?_ | refine AW.ret ?_ | (refine GC ?_ ?_ <;> intro h <;> (try simp only [hsB] at h) <;> try exact xf) | (refine GD ?_ ?_ <;> intro h <;> (try intro hgv) <;> (try simp only [hsN] at h) <;> (try simp only [h]) <;> (try simp only [hsB] at h) <;> try exact xf) | (refine GL ?_ ?_ <;> intro h <;> (try simp only [hsN] at h) <;> (try simp only [h]) <;> (try simp only [hsB] at h) <;> try exact xf) | fail)); all_goals clear kxs kk1)
        all_goals first | exact RetQ.fr 0 | exact RetQ.fn 0 | (exfalso; omega) | (exfalso; simp_all; done)
    obtain ⟨c9, c10⟩ := c8 a5
    by_cases a6 : 16 < x.toks.length
    · rw [c9 a6]
      rcases hp with ⟨rfl, rfl⟩ | ⟨h0, hpl, y, r', hp, rfl⟩
      · focus (have kxs := hcd; (repeat' (first | (refine ADr.nil ?_; try clear hgv) | refine GO ?_ | refine AW.ret ?_ | (refine GC ?_ ?_ <;> intro h <;> (try simp only [hsB] at h) <;> try exact xf) | (refine GD ?_ ?_ <;> intro h <;> (try intro hgv) <;> (try simp only [hsN] at h) <;> (try simp only [h]) <;> (try simp only [hsB] at h) <;> try exact xf) | (refine GL ?_ ?_ <;> intro h <;> (try simp only [hsN] at h) <;> (try simp only [h]) <;> (try simp only [hsB] at h) <;> try exact xf) | fail)); all_goals clear kxs)
        all_goals first | exact RetQ.fr 0 | exact RetQ.fn 0 | (exfalso; omega) | (exfalso; simp_all; done)
      · have hcp := ring_drop hp
        have hi1 : ((i : Int) - 1).toNat = i - 1 := by omega
        have hbe := ref06_Below y.name x.name (by omega) (by omega)
        rw [show Op.bytesLess y.name x.name = _ from a3] at hbe
        focus (have kxs := And.intro hcd (And.intro hcp hi1); have kk1 := uN [] (hbe); (repeat' (first | (refine ADr.nil ?_; try clear hgv) | refine GO ?_ | refine AW.ret ?_ | (refine GC ?_ ?_ <;> intro h <;> (try simp only [hsB] at h) <;> try exact xf) | (refine GD ?_ ?_ <;> intro h <;> (try intro hgv) <;> (try simp only [hsN] at h) <;> (try simp only [h]) <;> (try simp only [hsB] at h) <;> try exact xf) | (refine GL ?_ ?_ <;> intro h <;> (try simp only [hsN] at h) <;> (try simp only [h]) <;> (try simp only [hsB] at h) <;> try exact xf) | fail)); all_goals clear kxs kk1)
        all_goals first | exact RetQ.fr 0 | exact RetQ.fn 0 | (exfalso; omega) | (exfalso; simp_all; done)
    obtain ⟨c11, c12⟩ := c10 a6
    have hstart : 1 ≤ 1 ∧ (1 ≤ x.toks.length ∨ x.toks = []) ∧ (x.toks ≠ [] → ∃ q, x.toks.drop (1 - 1) = q :: x.toks.drop 1 ∧ rises (some q) (x.toks.drop 1) = rr) := by
      cases hx : x.toks with
      | nil => exact ⟨Nat.le_refl _, .inr rfl, fun h => absurd rfl h⟩
      | cons q u => exact ⟨Nat.le_refl _, .inl (by simp), fun _ => ⟨q, rfl, by rw [← hrr, hx]; rfl⟩⟩
    have hemp : x.toks = [] → rr = true := fun h => by rw [← hrr, h]; rfl
    clear hrr
    rcases hp with ⟨h0, rfl⟩ | ⟨h0, hpl, y, r', hp, rfl⟩
    · focus (have kxs := hcd; (repeat' (first | (refine ADr.nil ?_; try clear hgv) | refine GO ?_ | refine AW.ret ?_ | (refine GC ?_ ?_ <;> intro h <;> (try simp only [hsB] at h) <;> try exact xf) | (refine GD ?_ ?_ <;> intro h <;> (try intro hgv) <;> (try simp only [hsN] at h) <;> (try simp only [h]) <;> (try simp only [hsB] at h) <;> try exact xf) | (refine GL ?_ ?_ <;> intro h <;> (try simp only [hsN] at h) <;> (try simp only [h]) <;> (try simp only [hsB] at h) <;> try exact xf) | fail)); all_goals clear kxs)
      all_goals first | (exfalso; omega) | (exfalso; simp_all; done) | skip
      refine AW.rounds [0, 2, 3, 4, 5] (fun j : Nat => [(0, .d (.l l.length (ringD l))), (2, iv .i64 0), (3, iv .i64 i), (4, .p 0 0), (5, iv .i64 j)]) (fun _ => [.box 226 [sv (bs x.name), iv .u64 (x.ep : Nat), iv .u8 (x.st : Nat), .d (.l x.toks.length (toksD x.toks))]])
        (fun j => 1 ≤ j ∧ (j ≤ x.toks.length ∨ x.toks = []) ∧ (x.toks ≠ [] → ∃ q, x.toks.drop (j - 1) = q :: x.toks.drop j ∧ rises (some q) (x.toks.drop j) = rr)) (fun j => x.toks.length - j) 1 hstart rfl rfl (fun _ _ => Nat.zero_le _) (fun _ _ => rfl) (fun _ _ => rfl) ?_
      rintro j ⟨g1, g2, g3⟩ J2 hJ2
      by_cases hjl : j < x.toks.length
      · have hne : x.toks ≠ [] := by intro e; rw [e] at hjl; simp at hjl
        obtain ⟨q, hq, hr⟩ := g3 hne
        obtain ⟨u, r2, hd2⟩ := next_at hjl
        have hcd2 := toks_drop hd2
        have hcq2 := toks_drop hq
        have hj1 : ((j : Int) - 1).toNat = j - 1 := by omega
        rw [hd2] at hr
        have hr2 : (decide (q < u) && rises (some u) r2) = rr := hr
        have hnd2 := next_drop hd2
        clear hcd go
        focus (have kxs := And.intro hcd2 (And.intro hcq2 (And.intro hj1 @Nat.mul_one)); (repeat' (first | (refine ADr.nil ?_; try clear hgv) | refine GO ?_ | refine AW.ret ?_ | (refine GC ?_ ?_ <;> intro h <;> (try simp only [hsB] at h) <;> try exact xf) | (refine GD ?_ ?_ <;> intro h <;> (try intro hgv) <;> (try simp only [hsN] at h) <;> (try simp only [h]) <;> (try simp only [hsB] at h) <;> try exact xf) | (refine GL ?_ ?_ <;> intro h <;> (try simp only [hsN] at h) <;> (try simp only [h]) <;> (try simp only [hsB] at h) <;> try exact xf) | fail)); all_goals clear kxs)
        all_goals first
          | (rw [c11 (by rw [← hr2, decide_eq_false (by omega)]; rfl)]; (all_goals first | exact RetQ.fr 0 | exact RetQ.fn 0 | fail); done)
          | (refine hJ2 (j + 1) _ _ (by omega) ⟨by omega, .inl hjl, fun _ => ⟨u, ?_, ?_⟩⟩ rfl rfl
             · rw [hnd2]; exact hd2
             · rw [hnd2, ← hr2, decide_eq_true (show q < u by omega)]; rfl)
          | (exfalso; clear hJ2 hr hr2 g3 c11 c12; simp_all; done)
      · have hR0 : rr = true := by
          by_cases hne : x.toks = []
          · exact hemp hne
          · obtain ⟨q, hq, hr⟩ := g3 hne
            rw [List.drop_eq_nil_of_le (by omega)] at hr
            exact hr.symm
        have go := go a1 (c12 hR0)
        clear hcd hJ2 g3
        focus (have kxs := kx0; (repeat' (first | (refine ADr.nil ?_; try clear hgv) | refine GO ?_ | refine AW.ret ?_ | (refine GC ?_ ?_ <;> intro h <;> (try simp only [hsB] at h) <;> try exact xf) | (refine GD ?_ ?_ <;> intro h <;> (try intro hgv) <;> (try simp only [hsN] at h) <;> (try simp only [h]) <;> (try simp only [hsB] at h) <;> try exact xf) | (refine GL ?_ ?_ <;> intro h <;> (try simp only [hsN] at h) <;> (try simp only [h]) <;> (try simp only [hsB] at h) <;> try exact xf) | fail)); all_goals clear kxs)
        all_goals first | exact go _ _ rfl | (exfalso; omega) | (exfalso; simp_all; done)
    · have hcp := ring_drop hp
      have hi1 : ((i : Int) - 1).toNat = i - 1 := by omega
      have hbe := ref06_Below y.name x.name (by omega) (by omega)
      rw [show Op.bytesLess y.name x.name = _ from a3] at hbe
      focus (have kxs := And.intro hcd (And.intro hcp hi1); have kk1 := uN [] (hbe); (repeat' (first | (refine ADr.nil ?_; try clear hgv) | refine GO ?_ | refine AW.ret ?_ | (refine GC ?_ ?_ <;> intro h <;> (try simp only [hsB] at h) <;> try exact xf) | (refine GD ?_ ?_ <;> intro h <;> (try intro hgv) <;> (try simp only [hsN] at h) <;> (try simp only [h]) <;> (try simp only [hsB] at h) <;> try exact xf) | (refine GL ?_ ?_ <;> intro h <;> (try simp only [hsN] at h) <;> (try simp only [h]) <;> (try simp only [hsB] at h) <;> try exact xf) | fail)); all_goals clear kxs kk1)
      all_goals first | (exfalso; omega) | (exfalso; simp_all; done) | skip
      refine AW.rounds [0, 2, 3, 4, 5] (fun j : Nat => [(0, .d (.l l.length (ringD l))), (2, iv .i64 0), (3, iv .i64 i), (4, .p 0 0), (5, iv .i64 j)]) (fun _ => [.box 226 [sv (bs x.name), iv .u64 (x.ep : Nat), iv .u8 (x.st : Nat), .d (.l x.toks.length (toksD x.toks))]])
        (fun j => 1 ≤ j ∧ (j ≤ x.toks.length ∨ x.toks = []) ∧ (x.toks ≠ [] → ∃ q, x.toks.drop (j - 1) = q :: x.toks.drop j ∧ rises (some q) (x.toks.drop j) = rr)) (fun j => x.toks.length - j) 1 hstart rfl rfl (fun _ _ => Nat.zero_le _) (fun _ _ => rfl) (fun _ _ => rfl) ?_
      rintro j ⟨g1, g2, g3⟩ J2 hJ2
      by_cases hjl : j < x.toks.length
      · have hne : x.toks ≠ [] := by intro e; rw [e] at hjl; simp at hjl
        obtain ⟨q, hq, hr⟩ := g3 hne
        obtain ⟨u, r2, hd2⟩ := next_at hjl
        have hcd2 := toks_drop hd2
        have hcq2 := toks_drop hq
        have hj1 : ((j : Int) - 1).toNat = j - 1 := by omega
        rw [hd2] at hr
        have hr2 : (decide (q < u) && rises (some u) r2) = rr := hr
        have hnd2 := next_drop hd2
        clear hcd go
        focus (have kxs := And.intro hcd2 (And.intro hcq2 (And.intro hj1 @Nat.mul_one)); (repeat' (first | (refine ADr.nil ?_; try clear hgv) | refine GO ?_ | refine AW.ret ?_ | (refine GC ?_ ?_ <;> intro h <;> (try simp only [hsB] at h) <;> try exact xf) | (refine GD ?_ ?_ <;> intro h <;> (try intro hgv) <;> (try simp only [hsN] at h) <;> (try simp only [h]) <;> (try simp only [hsB] at h) <;> try exact xf) | (refine GL ?_ ?_ <;> intro h <;> (try simp only [hsN] at h) <;> (try simp only [h]) <;> (try simp only [hsB] at h) <;> try exact xf) | fail)); all_goals clear kxs)
        all_goals first
          | (rw [c11 (by rw [← hr2, decide_eq_false (by omega)]; rfl)]; (all_goals first | exact RetQ.fr 0 | exact RetQ.fn 0 | fail); done)
          | (refine hJ2 (j + 1) _ _ (by omega) ⟨by omega, .inl hjl, fun _ => ⟨u, ?_, ?_⟩⟩ rfl rfl
             · rw [hnd2]; exact hd2
             · rw [hnd2, ← hr2, decide_eq_true (show q < u by omega)]; rfl)
          | (exfalso; clear hJ2 hr hr2 g3 c11 c12; simp_all; done)
      · have hR0 : rr = true := by
          by_cases hne : x.toks = []
          · exact hemp hne
          · obtain ⟨q, hq, hr⟩ := g3 hne
            rw [List.drop_eq_nil_of_le (by omega)] at hr
            exact hr.symm
        have go := go a1 (c12 hR0)
        clear hcd hJ2 g3
        focus (have kxs := kx0; (repeat' (first | (refine ADr.nil ?_; try clear hgv) | refine GO ?_ | refine AW.ret ?_ | (refine GC ?_ ?_ <;> intro h <;> (try simp only [hsB] at h) <;> try exact xf) | (refine GD ?_ ?_ <;> intro h <;> (try intro hgv) <;> (try simp only [hsN] at h) <;> (try simp only [h]) <;> (try simp only [hsB] at h) <;> try exact xf) | (refine GL ?_ ?_ <;> intro h <;> (try simp only [hsN] at h) <;> (try simp only [h]) <;> (try simp only [hsB] at h) <;> try exact xf) | fail)); all_goals clear kxs)
        all_goals first | exact go _ _ rfl | (exfalso; omega) | (exfalso; simp_all; done)
end Go.AW
