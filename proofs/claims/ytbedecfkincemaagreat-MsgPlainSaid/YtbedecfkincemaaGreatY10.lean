/-
  numbers of eight bytes that are read; rising tokens; right rings: the program's and the document's.
-/
import Derived.Test.YtbedecfkincemaaGreatY05
import Derived.Test.YtbedecfkincemaaGreatY06
import Derived.Test.YtbedecfkincemaaGreatY09
namespace Go.AW
open Go Go.Proofs
set_option maxHeartbeats 2000000
set_option maxRecDepth 10000
set_option linter.unusedSimpArgs false
set_option linter.unusedVariables false
attribute [local irreducible] thenQ blockQ RetQ AL AW AC AOp

theorem lts_map (m : Nat) : ∀ l : List D, lts m (l.map V.d) = true
  | [] => rfl
  | x :: l => by
    show (true && lts m (l.map V.d)) = true
    rw [lts_map m l]; rfl
section
variable (s : List UInt8) (a : Nat) (e : Int)
theorem fixed_right : AC Tryz.prog 316 [iv .i64 8] [] fun x σ => x = bv true ∧ σ = [] := by
  refine AC.walk Tryz.func316 rfl (by decide) (of_decide_eq_true rfl) ?_
  focus (have kxs : 987654321 = 987654320 + 1 := rfl; (repeat' (first | refine G ?_ | refine AW.ret ?_ | (refine GC ?_ ?_ <;> intro h <;> (try simp only [hsB] at h) <;> try (exfalso; first | omega | contradiction)) | (refine GL ?_ ?_ <;> intro h <;> (try simp only [Bool.not_true, Bool.not_false] at h) <;> (try simp only [h]) <;> (try simp only [hsB] at h) <;> try (exfalso; first | omega | contradiction)) | fail)); all_goals clear kxs)
  all_goals first | ((all_goals first | exact RetQ.fr 0 | exact RetQ.fn 0 | fail); done) | (exfalso; simp_all; done)
end

/-! ### Tokens, members -/

abbrev toksD (l : List Nat) : List D := l.map fun t => D.s (.int .u64 (t : Nat))
theorem toks_drop {l r : List Nat} {t i : Nat} (h : l.drop i = t :: r) : (toksD l).drop i = .s (.int .u64 (t : Nat)) :: toksD r := by
  rw [toksD, ← List.map_drop, h]; rfl
theorem ring_rising (l : List Nat) (hl : l.length ≤ 9223372036854775807) : AC Tryz.prog 310 [.d (.l l.length (toksD l))] [] fun x σ => x = bv (rises none l) ∧ σ = [] := by
  refine AC.walk Tryz.func310 rfl (by decide) (of_decide_eq_true rfl) ?_
  generalize hR : rises none l = R
  focus (have kxs : 987654321 = 987654320 + 1 := rfl; (repeat' (first | (refine ADr.nil ?_; try clear hgv) | refine GO ?_ | refine AW.ret ?_ | (refine GC ?_ ?_ <;> intro h <;> (try simp only [hsB] at h) <;> try (exfalso; first | omega | contradiction)) | (refine GD ?_ ?_ <;> intro h <;> (try intro hgv) <;> (try simp only [Bool.not_true, Bool.not_false] at h) <;> (try simp only [h]) <;> (try simp only [hsB] at h) <;> try (exfalso; first | omega | contradiction)) | (refine GL ?_ ?_ <;> intro h <;> (try simp only [Bool.not_true, Bool.not_false] at h) <;> (try simp only [h]) <;> (try simp only [hsB] at h) <;> try (exfalso; first | omega | contradiction)) | fail)); all_goals clear kxs)
  refine AW.rounds [0, 2, 3] (fun i : Nat => [(0, .d (.l l.length (toksD l))), (2, bv false), (3, iv .i64 i)]) (fun _ => [])
    (fun i => 1 ≤ i ∧ (i ≤ l.length ∨ l = []) ∧ (l ≠ [] → ∃ q, l.drop (i - 1) = q :: l.drop i ∧ rises (some q) (l.drop i) = R)) (fun i => l.length - i) 1
    ⟨Nat.le_refl _, by cases l <;> simp, fun h => by
      cases l with
      | nil => exact absurd rfl h
      | cons t r => exact ⟨t, rfl, hR⟩⟩ rfl rfl (fun _ _ => Nat.zero_le _) (fun _ _ => rfl) (fun _ _ => rfl) ?_
  rintro i ⟨h1, h2, h3⟩ J hJ
  by_cases hil : i < l.length
  · have hne : l ≠ [] := by rintro rfl; simp at hil
    obtain ⟨q, hq, hr⟩ := h3 hne
    obtain ⟨t, r, hd⟩ := next_at hil
    have hcd := toks_drop hd
    have hcq := toks_drop hq
    have hi1 : ((i : Int) - 1).toNat = i - 1 := by omega
    rw [hd] at hr
    have hr2 : (decide (q < t) && rises (some t) r) = R := hr
    have hnd := next_drop hd
    focus (have kxs := And.intro hcd (And.intro hcq (And.intro hi1 @Nat.mul_one)); (repeat' (first | (refine ADr.nil ?_; try clear hgv) | refine GO ?_ | refine AW.ret ?_ | (refine GC ?_ ?_ <;> intro h <;> (try simp only [hsB] at h) <;> try (exfalso; first | omega | contradiction)) | (refine GD ?_ ?_ <;> intro h <;> (try intro hgv) <;> (try simp only [Bool.not_true, Bool.not_false] at h) <;> (try simp only [h]) <;> (try simp only [hsB] at h) <;> try (exfalso; first | omega | contradiction)) | (refine GL ?_ ?_ <;> intro h <;> (try simp only [Bool.not_true, Bool.not_false] at h) <;> (try simp only [h]) <;> (try simp only [hsB] at h) <;> try (exfalso; first | omega | contradiction)) | fail)); all_goals clear kxs)
    all_goals first
      | (rw [show R = false from by rw [← hr2, decide_eq_false (by omega)]; rfl]; (all_goals first | exact RetQ.fr 0 | exact RetQ.fn 0 | fail); done)
      | (refine hJ (i + 1) _ _ (by omega) ⟨by omega, .inl hil, fun _ => ⟨t, ?_, ?_⟩⟩ rfl rfl
         · rw [hnd]; exact hd
         · rw [hnd, ← hr2, decide_eq_true (show q < t by omega)]; rfl)
      | (exfalso; clear hJ hr hr2 hR h3; simp_all; done)
  · have hR0 : R = true := by
      rcases h2 with h2 | rfl
      · by_cases hne : l = []
        · subst hne; exact hR.symm
        · obtain ⟨q, hq, hr⟩ := h3 hne
          rw [List.drop_eq_nil_of_le (by omega)] at hr
          exact hr.symm
      · exact hR.symm
    rw [hR0]
    focus (have kxs : 987654321 = 987654320 + 1 := rfl; (repeat' (first | (refine ADr.nil ?_; try clear hgv) | refine GO ?_ | refine AW.ret ?_ | (refine GC ?_ ?_ <;> intro h <;> (try simp only [hsB] at h) <;> try (exfalso; first | omega | contradiction)) | (refine GD ?_ ?_ <;> intro h <;> (try intro hgv) <;> (try simp only [Bool.not_true, Bool.not_false] at h) <;> (try simp only [h]) <;> (try simp only [hsB] at h) <;> try (exfalso; first | omega | contradiction)) | (refine GL ?_ ?_ <;> intro h <;> (try simp only [Bool.not_true, Bool.not_false] at h) <;> (try simp only [h]) <;> (try simp only [hsB] at h) <;> try (exfalso; first | omega | contradiction)) | fail)); all_goals clear kxs)
    all_goals first | ((all_goals first | exact RetQ.fr 0 | exact RetQ.fn 0 | fail); done) | (exfalso; simp_all; done)
end Go.AW
/-
  right rings: the program's and the document's.
-/
namespace Go.AW
open Go Go.Proofs
set_option maxHeartbeats 2000000
set_option maxRecDepth 10000
set_option linter.unusedSimpArgs false
set_option linter.unusedVariables false
attribute [local irreducible] thenQ blockQ RetQ AL AW AC AOp

def mbD (x : Mb) : List D := [.s (.string ⟨x.name.toArray⟩), .s (.int .u64 (x.ep : Nat)), .s (.int .u8 (x.st : Nat)), .l x.toks.length (toksD x.toks)]
abbrev mbV (x : Mb) : V := .a [sv (bs x.name), iv .u64 (x.ep : Nat), iv .u8 (x.st : Nat), .d (.l x.toks.length (toksD x.toks))]
abbrev ringD (l : Ring) : List D := (l.map mbD).flatten
theorem ring_drop {l r : Ring} {x : Mb} {i : Nat} (h : l.drop i = x :: r) : (ringD l).drop (i * 4) = .s (.string ⟨x.name.toArray⟩) :: .s (.int .u64 (x.ep : Nat)) :: .s (.int .u8 (x.st : Nat)) :: .l x.toks.length (toksD x.toks) :: ringD r := by
  rw [ringD, flat_drop (f := mbD) (sz := 4) (fun _ => rfl), h]; rfl
/-- What is known of any ring: its numbers, its lengths. -/
def Ring.fits (l : Ring) : Prop := l.length ≤ 9223372036854775807 ∧ ∀ x ∈ l, x.fits ∧ x.name.length ≤ 9223372036854775807 ∧ x.toks.length ≤ 9223372036854775807
/-- The name ahead of place i. -/
def Ring.ahead (l : Ring) (i : Nat) (p : List UInt8) : Prop := (i = 0 ∧ p = []) ∨ (0 < i ∧ p.length ≤ 32 ∧ ∃ y r, l.drop (i - 1) = y :: r ∧ y.name = p)
theorem mcheck_step {p : List UInt8} {x : Mb} {r : Ring} {R : Int} (h : mcheck p (x :: r) = R) :
    (32 < x.name.length → R = 3) ∧ (¬ 32 < x.name.length → x.name = [] → R = 14) ∧ (¬ 32 < x.name.length → x.name ≠ [] → lessB p x.name = false → R = 6) ∧
    (¬ 32 < x.name.length → x.name ≠ [] → lessB p x.name = true → (x.ep = 0 → R = 7) ∧ (x.ep ≠ 0 → (3 < x.st → R = 13) ∧ (¬ 3 < x.st → (16 < x.toks.length → R = 3) ∧ (¬ 16 < x.toks.length → (rises none x.toks = false → R = 6) ∧ (rises none x.toks = true → mcheck x.name r = R))))) := by
  unfold mcheck at h
  refine ⟨fun h1 => ?_, fun h1 h2 => ?_, fun h1 h2 h3 => ?_, fun h1 h2 h3 => ⟨fun h4 => ?_, fun h4 => ⟨fun h5 => ?_, fun h5 => ⟨fun h6 => ?_, fun h6 => ⟨fun h7 => ?_, fun h7 => ?_⟩⟩⟩⟩⟩
  · rw [if_pos h1] at h; exact h.symm
  · rw [if_neg h1, if_pos h2] at h; exact h.symm
  · rw [if_neg h1, if_neg h2, if_pos h3] at h; exact h.symm
  · rw [if_neg h1, if_neg h2, if_neg (by simp [h3]), if_pos h4] at h; exact h.symm
  · rw [if_neg h1, if_neg h2, if_neg (by simp [h3]), if_neg h4, if_pos h5] at h; exact h.symm
  · rw [if_neg h1, if_neg h2, if_neg (by simp [h3]), if_neg h4, if_neg h5, if_pos h6] at h; exact h.symm
  · rw [if_neg h1, if_neg h2, if_neg (by simp [h3]), if_neg h4, if_neg h5, if_neg h6, if_pos h7] at h; exact h.symm
  · rw [if_neg h1, if_neg h2, if_neg (by simp [h3]), if_neg h4, if_neg h5, if_neg h6, if_neg (by simp [h7])] at h; exact h

theorem ring_Check (l : Ring) (hf : l.fits) : AC Tryz.prog 274 [.d (.l l.length (ringD l))] [] fun x σ => x = iv .i64 (Ring.check l) ∧ σ = [] := by
  refine AC.walk Tryz.func274 rfl (by decide) (of_decide_eq_true rfl) ?_
  have hll := hf.1
  by_cases h32 : 32 < l.length
  · have hc : Ring.check l = 3 := by unfold Ring.check; rw [if_pos h32]
    rw [hc]
    focus (have kxs : 987654321 = 987654320 + 1 := rfl; (repeat' (first | (refine ADr.nil ?_; try clear hgv) | refine GO ?_ | refine AW.ret ?_ | (refine GC ?_ ?_ <;> intro h <;> (try simp only [hsB] at h) <;> try (exfalso; first | omega | contradiction)) | (refine GD ?_ ?_ <;> intro h <;> (try intro hgv) <;> (try simp only [Bool.not_true, Bool.not_false] at h) <;> (try simp only [h]) <;> (try simp only [hsB] at h) <;> try (exfalso; first | omega | contradiction)) | (refine GL ?_ ?_ <;> intro h <;> (try simp only [Bool.not_true, Bool.not_false] at h) <;> (try simp only [h]) <;> (try simp only [hsB] at h) <;> try (exfalso; first | omega | contradiction)) | fail)); all_goals clear kxs)
    all_goals first | (exfalso; omega) | ((all_goals first | exact RetQ.fr 0 | exact RetQ.fn 0 | fail); done)
  generalize hR : mcheck [] l = R
  have hc : Ring.check l = R := by unfold Ring.check; rw [if_neg h32, hR]
  rw [hc]
  focus (have kxs : 987654321 = 987654320 + 1 := rfl; (repeat' (first | (refine ADr.nil ?_; try clear hgv) | refine GO ?_ | refine AW.ret ?_ | (refine GC ?_ ?_ <;> intro h <;> (try simp only [hsB] at h) <;> try (exfalso; first | omega | contradiction)) | (refine GD ?_ ?_ <;> intro h <;> (try intro hgv) <;> (try simp only [Bool.not_true, Bool.not_false] at h) <;> (try simp only [h]) <;> (try simp only [hsB] at h) <;> try (exfalso; first | omega | contradiction)) | (refine GL ?_ ?_ <;> intro h <;> (try simp only [Bool.not_true, Bool.not_false] at h) <;> (try simp only [h]) <;> (try simp only [hsB] at h) <;> try (exfalso; first | omega | contradiction)) | fail)); all_goals clear kxs)
  all_goals first | (exfalso; omega) | skip
  refine AW.rounds [0, 2, 8, 9, 10] (fun i : Nat => [(0, .d (.l l.length (ringD l))), (2, iv .i64 0), (8, .d (.l l.length (ringD l))), (9, iv .i64 l.length), (10, iv .i64 i)]) (fun _ => [])
    (fun i => i ≤ l.length ∧ ∃ p, l.ahead i p ∧ mcheck p (l.drop i) = R) (fun i => l.length - i) 0 ⟨Nat.zero_le _, [], .inl ⟨rfl, rfl⟩, hR⟩ rfl rfl (fun _ _ => Nat.zero_le _) (fun _ _ => rfl) (fun _ _ => rfl) ?_
  rintro i ⟨hi, p, hp, hr⟩ J hJ
  by_cases hil : i < l.length
  case neg =>
    focus (have kxs : 987654321 = 987654320 + 1 := rfl; (repeat' (first | (refine ADr.nil ?_; try clear hgv) | refine GO ?_ | refine AW.ret ?_ | (refine GC ?_ ?_ <;> intro h <;> (try simp only [hsB] at h) <;> try (exfalso; first | omega | contradiction)) | (refine GD ?_ ?_ <;> intro h <;> (try intro hgv) <;> (try simp only [Bool.not_true, Bool.not_false] at h) <;> (try simp only [h]) <;> (try simp only [hsB] at h) <;> try (exfalso; first | omega | contradiction)) | (refine GL ?_ ?_ <;> intro h <;> (try simp only [Bool.not_true, Bool.not_false] at h) <;> (try simp only [h]) <;> (try simp only [hsB] at h) <;> try (exfalso; first | omega | contradiction)) | fail)); all_goals clear kxs)
    have h0 : l.drop i = [] := List.drop_eq_nil_of_le (by omega)
    rw [h0] at hr
    have hR0 : R = 0 := hr.symm
    rw [hR0]
    (all_goals first | exact RetQ.fr 0 | exact RetQ.fn 0 | fail)
  obtain ⟨x, r, hd⟩ := next_at hil
  have hcd := ring_drop hd
  rw [hd] at hr
  obtain ⟨c1, c2, c3, c4⟩ := mcheck_step hr
  obtain ⟨⟨hep, hst, _⟩, hxl, htl⟩ := hf.2 x (next_mem hd)
  have hnx : ∀ hx : ¬ 32 < x.name.length, l.ahead (i + 1) x.name := fun hx => .inr ⟨by omega, by omega, x, r, by simpa using hd, rfl⟩
  have hnd := next_drop hd
  have hri := ring_rising x.toks htl
  have go : ¬ 32 < x.name.length → mcheck x.name r = R → ∀ T' σ', keepT T' [0, 2, 8, 9, 10] = [(0, .d (.l l.length (ringD l))), (2, iv .i64 0), (8, .d (.l l.length (ringD l))), (9, iv .i64 l.length), (10, iv .i64 ((i : Int) + 1))] → J T' σ' := fun h1 h2 T' σ' h3 =>
    hJ (i + 1) T' σ' (by omega) ⟨hil, x.name, hnx h1, by rw [hnd]; exact h2⟩ h3 rfl
  clear hJ hr hR
  generalize rises none x.toks = rr at *
  by_cases a1 : 32 < x.name.length
  · rw [c1 a1]
    focus (have kxs := hcd; (repeat' (first | (refine ADr.nil ?_; try clear hgv) | refine GO ?_ | refine AW.ret ?_ | (refine GC ?_ ?_ <;> intro h <;> (try simp only [hsB] at h) <;> try (exfalso; first | omega | contradiction)) | (refine GD ?_ ?_ <;> intro h <;> (try intro hgv) <;> (try simp only [Bool.not_true, Bool.not_false] at h) <;> (try simp only [h]) <;> (try simp only [hsB] at h) <;> try (exfalso; first | omega | contradiction)) | (refine GL ?_ ?_ <;> intro h <;> (try simp only [Bool.not_true, Bool.not_false] at h) <;> (try simp only [h]) <;> (try simp only [hsB] at h) <;> try (exfalso; first | omega | contradiction)) | fail)); all_goals clear kxs)
    all_goals first | ((all_goals first | exact RetQ.fr 0 | exact RetQ.fn 0 | fail); done) | (exfalso; omega) | (exfalso; simp_all; done)
  by_cases a2 : x.name = []
  · rw [c2 a1 a2]
    focus (have kxs := And.intro hcd a2; (repeat' (first | (refine ADr.nil ?_; try clear hgv) | refine GO ?_ | refine AW.ret ?_ | (refine GC ?_ ?_ <;> intro h <;> (try simp only [hsB] at h) <;> try (exfalso; first | omega | contradiction)) | (refine GD ?_ ?_ <;> intro h <;> (try intro hgv) <;> (try simp only [Bool.not_true, Bool.not_false] at h) <;> (try simp only [h]) <;> (try simp only [hsB] at h) <;> try (exfalso; first | omega | contradiction)) | (refine GL ?_ ?_ <;> intro h <;> (try simp only [Bool.not_true, Bool.not_false] at h) <;> (try simp only [h]) <;> (try simp only [hsB] at h) <;> try (exfalso; first | omega | contradiction)) | fail)); all_goals clear kxs)
    all_goals first | ((all_goals first | exact RetQ.fr 0 | exact RetQ.fn 0 | fail); done) | (exfalso; omega) | (exfalso; simp_all; done)
  cases a3 : lessB p x.name with
  | false =>
    rw [c3 a1 a2 a3]
    rcases hp with ⟨rfl, rfl⟩ | ⟨h0, hpl, y, r', hp, rfl⟩
    · exfalso
      cases hx : x.name with
      | nil => exact a2 hx
      | cons b t =>
        have h9 : lessB [] (b :: t) = true := less_nil_cons b t
        rw [hx, h9] at a3; cases a3
    · have hcp := ring_drop hp
      have hi1 : ((i : Int) - 1).toNat = i - 1 := by omega
      have htri := less_tri x.name y.name
      have a3' : Op.bytesLess y.name x.name = false := a3
      focus (have kxs := And.intro hcd (And.intro hcp (And.intro hi1 (And.intro htri a3'))); (repeat' (first | (refine ADr.nil ?_; try clear hgv) | refine GO ?_ | refine AW.ret ?_ | (refine GC ?_ ?_ <;> intro h <;> (try simp only [hsB] at h) <;> try (exfalso; first | omega | contradiction)) | (refine GD ?_ ?_ <;> intro h <;> (try intro hgv) <;> (try simp only [Bool.not_true, Bool.not_false] at h) <;> (try simp only [h]) <;> (try simp only [hsB] at h) <;> try (exfalso; first | omega | contradiction)) | (refine GL ?_ ?_ <;> intro h <;> (try simp only [Bool.not_true, Bool.not_false] at h) <;> (try simp only [h]) <;> (try simp only [hsB] at h) <;> try (exfalso; first | omega | contradiction)) | fail)); all_goals clear kxs)
      all_goals first | ((all_goals first | exact RetQ.fr 0 | exact RetQ.fn 0 | fail); done) | (exfalso; omega) | (exfalso; simp_all; done)
  | true =>
    obtain ⟨c5, c6⟩ := c4 a1 a2 a3
    have a3' : Op.bytesLess p x.name = true := a3
    by_cases a4 : x.ep = 0
    · rw [c5 a4]
      rcases hp with ⟨rfl, rfl⟩ | ⟨h0, hpl, y, r', hp, rfl⟩
      · focus (have kxs := And.intro hcd a4; (repeat' (first | (refine ADr.nil ?_; try clear hgv) | refine GO ?_ | refine AW.ret ?_ | (refine GC ?_ ?_ <;> intro h <;> (try simp only [hsB] at h) <;> try (exfalso; first | omega | contradiction)) | (refine GD ?_ ?_ <;> intro h <;> (try intro hgv) <;> (try simp only [Bool.not_true, Bool.not_false] at h) <;> (try simp only [h]) <;> (try simp only [hsB] at h) <;> try (exfalso; first | omega | contradiction)) | (refine GL ?_ ?_ <;> intro h <;> (try simp only [Bool.not_true, Bool.not_false] at h) <;> (try simp only [h]) <;> (try simp only [hsB] at h) <;> try (exfalso; first | omega | contradiction)) | fail)); all_goals clear kxs)
        all_goals first | ((all_goals first | exact RetQ.fr 0 | exact RetQ.fn 0 | fail); done) | (exfalso; omega) | (exfalso; simp_all; done)
      · have hcp := ring_drop hp
        have hi1 : ((i : Int) - 1).toNat = i - 1 := by omega
        have htri := less_tri x.name y.name
        focus (have kxs := And.intro hcd (And.intro hcp (And.intro hi1 (And.intro htri (And.intro a3' a4)))); (repeat' (first | (refine ADr.nil ?_; try clear hgv) | refine GO ?_ | refine AW.ret ?_ | (refine GC ?_ ?_ <;> intro h <;> (try simp only [hsB] at h) <;> try (exfalso; first | omega | contradiction)) | (refine GD ?_ ?_ <;> intro h <;> (try intro hgv) <;> (try simp only [Bool.not_true, Bool.not_false] at h) <;> (try simp only [h]) <;> (try simp only [hsB] at h) <;> try (exfalso; first | omega | contradiction)) | (refine GL ?_ ?_ <;> intro h <;> (try simp only [Bool.not_true, Bool.not_false] at h) <;> (try simp only [h]) <;> (try simp only [hsB] at h) <;> try (exfalso; first | omega | contradiction)) | fail)); all_goals clear kxs)
        all_goals first | ((all_goals first | exact RetQ.fr 0 | exact RetQ.fn 0 | fail); done) | (exfalso; omega) | (exfalso; simp_all; done)
    obtain ⟨c7, c8⟩ := c6 a4
    by_cases a5 : 3 < x.st
    · rw [c7 a5]
      rcases hp with ⟨rfl, rfl⟩ | ⟨h0, hpl, y, r', hp, rfl⟩
      · focus (have kxs := hcd; (repeat' (first | (refine ADr.nil ?_; try clear hgv) | refine GO ?_ | refine AW.ret ?_ | (refine GC ?_ ?_ <;> intro h <;> (try simp only [hsB] at h) <;> try (exfalso; first | omega | contradiction)) | (refine GD ?_ ?_ <;> intro h <;> (try intro hgv) <;> (try simp only [Bool.not_true, Bool.not_false] at h) <;> (try simp only [h]) <;> (try simp only [hsB] at h) <;> try (exfalso; first | omega | contradiction)) | (refine GL ?_ ?_ <;> intro h <;> (try simp only [Bool.not_true, Bool.not_false] at h) <;> (try simp only [h]) <;> (try simp only [hsB] at h) <;> try (exfalso; first | omega | contradiction)) | fail)); all_goals clear kxs)
        all_goals first | ((all_goals first | exact RetQ.fr 0 | exact RetQ.fn 0 | fail); done) | (exfalso; omega) | (exfalso; simp_all; done)
      · have hcp := ring_drop hp
        have hi1 : ((i : Int) - 1).toNat = i - 1 := by omega
        have htri := less_tri x.name y.name
        focus (have kxs := And.intro hcd (And.intro hcp (And.intro hi1 (And.intro htri a3'))); (repeat' (first | (refine ADr.nil ?_; try clear hgv) | refine GO ?_ | refine AW.ret ?_ | (refine GC ?_ ?_ <;> intro h <;> (try simp only [hsB] at h) <;> try (exfalso; first | omega | contradiction)) | (refine GD ?_ ?_ <;> intro h <;> (try intro hgv) <;> (try simp only [Bool.not_true, Bool.not_false] at h) <;> (try simp only [h]) <;> (try simp only [hsB] at h) <;> try (exfalso; first | omega | contradiction)) | (refine GL ?_ ?_ <;> intro h <;> (try simp only [Bool.not_true, Bool.not_false] at h) <;> (try simp only [h]) <;> (try simp only [hsB] at h) <;> try (exfalso; first | omega | contradiction)) | fail)); all_goals clear kxs)
        all_goals first | ((all_goals first | exact RetQ.fr 0 | exact RetQ.fn 0 | fail); done) | (exfalso; omega) | (exfalso; simp_all; done)
    obtain ⟨c9, c10⟩ := c8 a5
    by_cases a6 : 16 < x.toks.length
    · rw [c9 a6]
      rcases hp with ⟨rfl, rfl⟩ | ⟨h0, hpl, y, r', hp, rfl⟩
      · focus (have kxs := hcd; (repeat' (first | (refine ADr.nil ?_; try clear hgv) | refine GO ?_ | refine AW.ret ?_ | (refine GC ?_ ?_ <;> intro h <;> (try simp only [hsB] at h) <;> try (exfalso; first | omega | contradiction)) | (refine GD ?_ ?_ <;> intro h <;> (try intro hgv) <;> (try simp only [Bool.not_true, Bool.not_false] at h) <;> (try simp only [h]) <;> (try simp only [hsB] at h) <;> try (exfalso; first | omega | contradiction)) | (refine GL ?_ ?_ <;> intro h <;> (try simp only [Bool.not_true, Bool.not_false] at h) <;> (try simp only [h]) <;> (try simp only [hsB] at h) <;> try (exfalso; first | omega | contradiction)) | fail)); all_goals clear kxs)
        all_goals first | ((all_goals first | exact RetQ.fr 0 | exact RetQ.fn 0 | fail); done) | (exfalso; omega) | (exfalso; simp_all; done)
      · have hcp := ring_drop hp
        have hi1 : ((i : Int) - 1).toNat = i - 1 := by omega
        have htri := less_tri x.name y.name
        focus (have kxs := And.intro hcd (And.intro hcp (And.intro hi1 (And.intro htri a3'))); (repeat' (first | (refine ADr.nil ?_; try clear hgv) | refine GO ?_ | refine AW.ret ?_ | (refine GC ?_ ?_ <;> intro h <;> (try simp only [hsB] at h) <;> try (exfalso; first | omega | contradiction)) | (refine GD ?_ ?_ <;> intro h <;> (try intro hgv) <;> (try simp only [Bool.not_true, Bool.not_false] at h) <;> (try simp only [h]) <;> (try simp only [hsB] at h) <;> try (exfalso; first | omega | contradiction)) | (refine GL ?_ ?_ <;> intro h <;> (try simp only [Bool.not_true, Bool.not_false] at h) <;> (try simp only [h]) <;> (try simp only [hsB] at h) <;> try (exfalso; first | omega | contradiction)) | fail)); all_goals clear kxs)
        all_goals first | ((all_goals first | exact RetQ.fr 0 | exact RetQ.fn 0 | fail); done) | (exfalso; omega) | (exfalso; simp_all; done)
    obtain ⟨c11, c12⟩ := c10 a6
    cases rr with
    | false =>
      rw [c11 rfl]
      rcases hp with ⟨rfl, rfl⟩ | ⟨h0, hpl, y, r', hp, rfl⟩
      · focus (have kxs := hcd; have kk1 := uN [] (hri); (repeat' (first | (refine ADr.nil ?_; try clear hgv) | refine GO ?_ | refine AW.ret ?_ | (refine GC ?_ ?_ <;> intro h <;> (try simp only [hsB] at h) <;> try (exfalso; first | omega | contradiction)) | (refine GD ?_ ?_ <;> intro h <;> (try intro hgv) <;> (try simp only [Bool.not_true, Bool.not_false] at h) <;> (try simp only [h]) <;> (try simp only [hsB] at h) <;> try (exfalso; first | omega | contradiction)) | (refine GL ?_ ?_ <;> intro h <;> (try simp only [Bool.not_true, Bool.not_false] at h) <;> (try simp only [h]) <;> (try simp only [hsB] at h) <;> try (exfalso; first | omega | contradiction)) | fail)); all_goals clear kxs kk1)
        all_goals first | ((all_goals first | exact RetQ.fr 0 | exact RetQ.fn 0 | fail); done) | (exfalso; omega) | (exfalso; simp_all; done)
      · have hcp := ring_drop hp
        have hi1 : ((i : Int) - 1).toNat = i - 1 := by omega
        have htri := less_tri x.name y.name
        focus (have kxs := And.intro hcd (And.intro hcp (And.intro hi1 (And.intro htri a3'))); have kk1 := uN [] (hri); (repeat' (first | (refine ADr.nil ?_; try clear hgv) | refine GO ?_ | refine AW.ret ?_ | (refine GC ?_ ?_ <;> intro h <;> (try simp only [hsB] at h) <;> try (exfalso; first | omega | contradiction)) | (refine GD ?_ ?_ <;> intro h <;> (try intro hgv) <;> (try simp only [Bool.not_true, Bool.not_false] at h) <;> (try simp only [h]) <;> (try simp only [hsB] at h) <;> try (exfalso; first | omega | contradiction)) | (refine GL ?_ ?_ <;> intro h <;> (try simp only [Bool.not_true, Bool.not_false] at h) <;> (try simp only [h]) <;> (try simp only [hsB] at h) <;> try (exfalso; first | omega | contradiction)) | fail)); all_goals clear kxs kk1)
        all_goals first | ((all_goals first | exact RetQ.fr 0 | exact RetQ.fn 0 | fail); done) | (exfalso; omega) | (exfalso; simp_all; done)
    | true =>
      have go := go a1 (c12 rfl)
      rcases hp with ⟨rfl, rfl⟩ | ⟨h0, hpl, y, r', hp, rfl⟩
      · focus (have kxs := hcd; have kk1 := uN [] (hri); (repeat' (first | (refine ADr.nil ?_; try clear hgv) | refine GO ?_ | refine AW.ret ?_ | (refine GC ?_ ?_ <;> intro h <;> (try simp only [hsB] at h) <;> try (exfalso; first | omega | contradiction)) | (refine GD ?_ ?_ <;> intro h <;> (try intro hgv) <;> (try simp only [Bool.not_true, Bool.not_false] at h) <;> (try simp only [h]) <;> (try simp only [hsB] at h) <;> try (exfalso; first | omega | contradiction)) | (refine GL ?_ ?_ <;> intro h <;> (try simp only [Bool.not_true, Bool.not_false] at h) <;> (try simp only [h]) <;> (try simp only [hsB] at h) <;> try (exfalso; first | omega | contradiction)) | fail)); all_goals clear kxs kk1)
        all_goals first | exact go _ _ rfl | (exfalso; omega) | (exfalso; simp_all; done)
      · have hcp := ring_drop hp
        have hi1 : ((i : Int) - 1).toNat = i - 1 := by omega
        have htri := less_tri x.name y.name
        focus (have kxs := And.intro hcd (And.intro hcp (And.intro hi1 (And.intro htri a3'))); have kk1 := uN [] (hri); (repeat' (first | (refine ADr.nil ?_; try clear hgv) | refine GO ?_ | refine AW.ret ?_ | (refine GC ?_ ?_ <;> intro h <;> (try simp only [hsB] at h) <;> try (exfalso; first | omega | contradiction)) | (refine GD ?_ ?_ <;> intro h <;> (try intro hgv) <;> (try simp only [Bool.not_true, Bool.not_false] at h) <;> (try simp only [h]) <;> (try simp only [hsB] at h) <;> try (exfalso; first | omega | contradiction)) | (refine GL ?_ ?_ <;> intro h <;> (try simp only [Bool.not_true, Bool.not_false] at h) <;> (try simp only [h]) <;> (try simp only [hsB] at h) <;> try (exfalso; first | omega | contradiction)) | fail)); all_goals clear kxs kk1)
        all_goals first | exact go _ _ rfl | (exfalso; omega) | (exfalso; simp_all; done)
end Go.AW
