/-
  metadata: what is right, the same, too great: the program's and the document's.
-/
import Derived.Test.YtbjdiepceokmkaaClk5
import Derived.Test.YtbjdiepceokmkaaMc
namespace Go.AW
open Go Go.Proofs
set_option maxHeartbeats 2000000
set_option maxRecDepth 10000
set_option linter.unusedSimpArgs false
set_option linter.unusedVariables false
attribute [local irreducible] thenQ blockQ RetQ AL AW AC AOp

def prD (x : Pr) : List D := [.s (.string ⟨x.1.toArray⟩), .s (.string ⟨x.2.toArray⟩)]
abbrev prsD (v : Prs) : List D := (v.map prD).flatten
theorem prs_drop {v r : Prs} {x : Pr} {i : Nat} (h : v.drop i = x :: r) : (prsD v).drop (i * 2) = .s (.string ⟨x.1.toArray⟩) :: .s (.string ⟨x.2.toArray⟩) :: prsD r := by
  rw [prsD, flat_drop (f := prD) (sz := 2) (fun _ => rfl), h]; rfl
/-- What is known of any vector: its names, its length. -/
def Prs.fits (v : Prs) : Prop := v.length ≤ 9223372036854775807 ∧ (∀ x ∈ v, x.1.length ≤ 9223372036854775807) ∧ ∀ x ∈ v, x.2.length ≤ 9223372036854775807

/-- The name ahead of place i. -/
def Prs.ahead (v : Prs) (i : Nat) (p : List UInt8) : Prop := (i = 0 ∧ p = []) ∨ (0 < i ∧ p.length ≤ 32 ∧ ∃ n r, v.drop (i - 1) = (p, n) :: r)
theorem pcheck_step {p : List UInt8} {x : Pr} {r : Prs} {R : Int} (h : pcheck p (x :: r) = R) : R = if 32 < x.1.length then 3 else if x.1 = [] then 14 else if lessB p x.1 = false then 6 else if 32768 < x.2.length then 3 else pcheck x.1 r := h.symm

theorem pairs_Check (v : Prs) (hv : v.fits) : AC Try.prog 58 [.d (.l v.length (prsD v))] [] fun x σ => x = iv .i64 v.check ∧ σ = [] := by
  refine AC.walk Try.func58 rfl (by decide) (of_decide_eq_true rfl) ?_
  by_cases h8 : 8 < v.length
  · have hc : v.check = 3 := by unfold Prs.check; rw [if_pos h8]
    focus (have kxs := hc; (repeat' (first | (refine ADr.nil ?_; try clear hgv) | refine GO ?_ | refine AW.ret ?_ | (refine GC ?_ ?_ <;> intro h <;> (try simp only [hsB] at h) <;> try (exfalso; first | omega | contradiction)) | (refine GD ?_ ?_ <;> intro h <;> (try intro hgv) <;> (try simp only [Bool.not_true, Bool.not_false] at h) <;> (try simp only [h]) <;> (try simp only [hsB] at h) <;> try (exfalso; first | omega | contradiction)) | (refine GL ?_ ?_ <;> intro h <;> (try simp only [Bool.not_true, Bool.not_false] at h) <;> (try simp only [h]) <;> (try simp only [hsB] at h) <;> try (exfalso; first | omega | contradiction)) | fail)); all_goals clear kxs)
    all_goals first | (exfalso; omega) | ((all_goals have kxf := hc; first | exact RetQ.xr 0 | exact RetQ.xn 0 | fail); done)
  generalize hR : pcheck [] v = R
  have hc : v.check = R := by unfold Prs.check; rw [if_neg h8, hR]
  rw [hc]
  focus (have kxs : 987654321 = 987654320 + 1 := rfl; (repeat' (first | (refine ADr.nil ?_; try clear hgv) | refine GO ?_ | refine AW.ret ?_ | (refine GC ?_ ?_ <;> intro h <;> (try simp only [hsB] at h) <;> try (exfalso; first | omega | contradiction)) | (refine GD ?_ ?_ <;> intro h <;> (try intro hgv) <;> (try simp only [Bool.not_true, Bool.not_false] at h) <;> (try simp only [h]) <;> (try simp only [hsB] at h) <;> try (exfalso; first | omega | contradiction)) | (refine GL ?_ ?_ <;> intro h <;> (try simp only [Bool.not_true, Bool.not_false] at h) <;> (try simp only [h]) <;> (try simp only [hsB] at h) <;> try (exfalso; first | omega | contradiction)) | fail)); all_goals clear kxs)
  refine AW.rounds [0, 2, 8, 9, 10] (fun i : Nat => [(0, .d (.l v.length (prsD v))), (2, iv .i64 0), (8, .d (.l v.length (prsD v))), (9, iv .i64 v.length), (10, iv .i64 i)]) (fun _ => [])
    (fun i => i ≤ v.length ∧ ∃ p, v.ahead i p ∧ pcheck p (v.drop i) = R) (fun i => v.length - i) 0 ⟨Nat.zero_le _, [], .inl ⟨rfl, rfl⟩, hR⟩ rfl rfl (fun _ _ => Nat.zero_le _) (fun _ _ => rfl) (fun _ _ => rfl) ?_
  rintro i ⟨hi, p, hp, hr⟩ J hJ
  by_cases hil : i < v.length
  · obtain ⟨x, r, hd⟩ := next_at hil
    have hcd := prs_drop hd
    rw [hd] at hr
    have hR2 := pcheck_step hr
    have hxl := hv.2.1 x (next_mem hd)
    have hyl := hv.2.2 x (next_mem hd)
    have hnx : ∀ hx : ¬ 32 < x.1.length, v.ahead (i + 1) x.1 := fun hx => .inr ⟨by omega, by omega, x.2, r, by simpa using hd⟩
    have hnd := next_drop hd
    have hxe : x.1 = [] ↔ x.1.length = 0 := by simp
    rcases hp with ⟨rfl, rfl⟩ | ⟨h0, hpl, n, r', hp⟩
    · have hl0 : x.1 ≠ [] → lessB [] x.1 = true := fun h => by
        cases hx : x.1 with
        | nil => exact absurd hx h
        | cons b t => exact less_nil_cons b t
      focus (have kxs := hcd; (repeat' (first | (refine ADr.nil ?_; try clear hgv) | refine GO ?_ | refine AW.ret ?_ | (refine GC ?_ ?_ <;> intro h <;> (try simp only [hsB] at h) <;> try (exfalso; first | omega | contradiction)) | (refine GD ?_ ?_ <;> intro h <;> (try intro hgv) <;> (try simp only [Bool.not_true, Bool.not_false] at h) <;> (try simp only [h]) <;> (try simp only [hsB] at h) <;> try (exfalso; first | omega | contradiction)) | (refine GL ?_ ?_ <;> intro h <;> (try simp only [Bool.not_true, Bool.not_false] at h) <;> (try simp only [h]) <;> (try simp only [hsB] at h) <;> try (exfalso; first | omega | contradiction)) | fail)); all_goals clear kxs)
      all_goals first
        | (rw [show R = 3 from by rw [hR2, if_pos (by omega)]]; (first | exact RetQ.zr 0 | exact RetQ.zn 0 | fail))
        | (rw [show R = 14 from by rw [hR2, if_neg (by omega), if_pos (by first | assumption | (rw [hxe]; omega))]]; (first | exact RetQ.zr 0 | exact RetQ.zn 0 | fail))
        | (rw [show R = 6 from by rw [hR2, if_neg (by omega), if_neg (by first | assumption | (rw [hxe]; omega)), if_pos (by first | assumption | (clear hR2 hr hJ; simp_all; done))]]; (first | exact RetQ.zr 0 | exact RetQ.zn 0 | fail))
        | (rw [show R = 3 from by rw [hR2, if_neg (by omega), if_neg (by first | assumption | (rw [hxe]; omega)), if_neg (by first | (rw [hl0 (by first | assumption | (rw [ne_eq, hxe]; omega))]; decide) | (clear hR2 hr hJ; simp_all; done)), if_pos (by omega)]]; (first | exact RetQ.zr 0 | exact RetQ.zn 0 | fail))
        | (refine hJ 1 _ _ (by omega) ⟨hil, x.1, hnx (by omega), ?_⟩ rfl rfl; rw [hnd, hR2, if_neg (by omega), if_neg (by assumption), if_neg (by rw [hl0 (by assumption)]; decide), if_neg (by omega)])
        | (exfalso; clear hR2 hr hJ; simp_all; done)
    · have hcp := prs_drop hp
      have hi1 : ((i : Int) - 1).toNat = i - 1 := by omega
      have htri := less_tri x.1 p
      focus (have kxs := And.intro hcd (And.intro hcp (And.intro hi1 htri)); (repeat' (first | (refine ADr.nil ?_; try clear hgv) | refine GO ?_ | refine AW.ret ?_ | (refine GC ?_ ?_ <;> intro h <;> (try simp only [hsB] at h) <;> try (exfalso; first | omega | contradiction)) | (refine GD ?_ ?_ <;> intro h <;> (try intro hgv) <;> (try simp only [Bool.not_true, Bool.not_false] at h) <;> (try simp only [h]) <;> (try simp only [hsB] at h) <;> try (exfalso; first | omega | contradiction)) | (refine GL ?_ ?_ <;> intro h <;> (try simp only [Bool.not_true, Bool.not_false] at h) <;> (try simp only [h]) <;> (try simp only [hsB] at h) <;> try (exfalso; first | omega | contradiction)) | fail)); all_goals clear kxs)
      all_goals first
        | (rw [show R = 3 from by rw [hR2, if_pos (by omega)]]; (first | exact RetQ.zr 0 | exact RetQ.zn 0 | fail))
        | (rw [show R = 14 from by rw [hR2, if_neg (by omega), if_pos (by first | assumption | (rw [hxe]; omega))]]; (first | exact RetQ.zr 0 | exact RetQ.zn 0 | fail))
        | (rw [show R = 6 from by rw [hR2, if_neg (by omega), if_neg (by first | assumption | (rw [hxe]; omega)), if_pos (by first | assumption | (clear hR2 hr hJ; simp_all; done))]]; (first | exact RetQ.zr 0 | exact RetQ.zn 0 | fail))
        | (rw [show R = 3 from by rw [hR2, if_neg (by omega), if_neg (by first | assumption | (rw [hxe]; omega)), if_neg (by clear hR2 hr hJ; simp_all; done), if_pos (by omega)]]; (first | exact RetQ.zr 0 | exact RetQ.zn 0 | fail))
        | (refine hJ (i + 1) _ _ (by omega) ⟨hil, x.1, hnx (by omega), ?_⟩ rfl rfl; rw [hnd, hR2, if_neg (by omega), if_neg (by assumption), if_neg (by clear hR2 hr hJ; simp_all; done), if_neg (by omega)])
        | (exfalso; clear hR2 hr hJ; simp_all; done)
  · focus (have kxs : 987654321 = 987654320 + 1 := rfl; (repeat' (first | (refine ADr.nil ?_; try clear hgv) | refine GO ?_ | refine AW.ret ?_ | (refine GC ?_ ?_ <;> intro h <;> (try simp only [hsB] at h) <;> try (exfalso; first | omega | contradiction)) | (refine GD ?_ ?_ <;> intro h <;> (try intro hgv) <;> (try simp only [Bool.not_true, Bool.not_false] at h) <;> (try simp only [h]) <;> (try simp only [hsB] at h) <;> try (exfalso; first | omega | contradiction)) | (refine GL ?_ ?_ <;> intro h <;> (try simp only [Bool.not_true, Bool.not_false] at h) <;> (try simp only [h]) <;> (try simp only [hsB] at h) <;> try (exfalso; first | omega | contradiction)) | fail)); all_goals clear kxs)
    have h0 : v.drop i = [] := List.drop_eq_nil_of_le (by omega)
    rw [h0] at hr
    have hR0 : R = 0 := hr.symm
    rw [hR0]
    (all_goals first | exact RetQ.fr 0 | exact RetQ.fn 0 | fail)

theorem ref14_Check (v : Prs) (hv : v.fits) : AC Try.prog 68 [.d (.l v.length (prsD v))] [] fun x σ => x = iv .i64 v.check ∧ σ = [] := by
  refine AC.walk Try.func68 rfl (by decide) (of_decide_eq_true rfl) ?_
  by_cases h8 : 8 < v.length
  · have hc : v.check = 3 := by unfold Prs.check; rw [if_pos h8]
    focus (have kxs := hc; (repeat' (first | (refine ADr.nil ?_; try clear hgv) | refine GO ?_ | refine AW.ret ?_ | (refine GC ?_ ?_ <;> intro h <;> (try simp only [hsB] at h) <;> try (exfalso; first | omega | contradiction)) | (refine GD ?_ ?_ <;> intro h <;> (try intro hgv) <;> (try simp only [Bool.not_true, Bool.not_false] at h) <;> (try simp only [h]) <;> (try simp only [hsB] at h) <;> try (exfalso; first | omega | contradiction)) | (refine GL ?_ ?_ <;> intro h <;> (try simp only [Bool.not_true, Bool.not_false] at h) <;> (try simp only [h]) <;> (try simp only [hsB] at h) <;> try (exfalso; first | omega | contradiction)) | fail)); all_goals clear kxs)
    all_goals first | (exfalso; omega) | ((all_goals have kxf := hc; first | exact RetQ.xr 0 | exact RetQ.xn 0 | fail); done)
  generalize hR : pcheck [] v = R
  have hc : v.check = R := by unfold Prs.check; rw [if_neg h8, hR]
  rw [hc]
  focus (have kxs : 987654321 = 987654320 + 1 := rfl; (repeat' (first | (refine ADr.nil ?_; try clear hgv) | refine GO ?_ | refine AW.ret ?_ | (refine GC ?_ ?_ <;> intro h <;> (try simp only [hsB] at h) <;> try (exfalso; first | omega | contradiction)) | (refine GD ?_ ?_ <;> intro h <;> (try intro hgv) <;> (try simp only [Bool.not_true, Bool.not_false] at h) <;> (try simp only [h]) <;> (try simp only [hsB] at h) <;> try (exfalso; first | omega | contradiction)) | (refine GL ?_ ?_ <;> intro h <;> (try simp only [Bool.not_true, Bool.not_false] at h) <;> (try simp only [h]) <;> (try simp only [hsB] at h) <;> try (exfalso; first | omega | contradiction)) | fail)); all_goals clear kxs)
  refine AW.rounds [0, 2, 3] (fun i : Nat => [(0, .d (.l v.length (prsD v))), (2, iv .i64 0), (3, iv .i64 i)]) (fun _ => [])
    (fun i => i ≤ v.length ∧ ∃ p, v.ahead i p ∧ pcheck p (v.drop i) = R) (fun i => v.length - i) 0 ⟨Nat.zero_le _, [], .inl ⟨rfl, rfl⟩, hR⟩ rfl rfl (fun _ _ => Nat.zero_le _) (fun _ _ => rfl) (fun _ _ => rfl) ?_
  rintro i ⟨hi, p, hp, hr⟩ J hJ
  by_cases hil : i < v.length
  · obtain ⟨x, r, hd⟩ := next_at hil
    have hcd := prs_drop hd
    rw [hd] at hr
    have hR2 := pcheck_step hr
    have hxl := hv.2.1 x (next_mem hd)
    have hyl := hv.2.2 x (next_mem hd)
    have hnx : ∀ hx : ¬ 32 < x.1.length, v.ahead (i + 1) x.1 := fun hx => .inr ⟨by omega, by omega, x.2, r, by simpa using hd⟩
    have hnd := next_drop hd
    have hxe : x.1 = [] ↔ x.1.length = 0 := by simp
    rcases hp with ⟨rfl, rfl⟩ | ⟨h0, hpl, n, r', hp⟩
    · have hl0 : x.1 ≠ [] → lessB [] x.1 = true := fun h => by
        cases hx : x.1 with
        | nil => exact absurd hx h
        | cons b t => exact less_nil_cons b t
      focus (have kxs := hcd; (repeat' (first | (refine ADr.nil ?_; try clear hgv) | refine GO ?_ | refine AW.ret ?_ | (refine GC ?_ ?_ <;> intro h <;> (try simp only [hsB] at h) <;> try (exfalso; first | omega | contradiction)) | (refine GD ?_ ?_ <;> intro h <;> (try intro hgv) <;> (try simp only [Bool.not_true, Bool.not_false] at h) <;> (try simp only [h]) <;> (try simp only [hsB] at h) <;> try (exfalso; first | omega | contradiction)) | (refine GL ?_ ?_ <;> intro h <;> (try simp only [Bool.not_true, Bool.not_false] at h) <;> (try simp only [h]) <;> (try simp only [hsB] at h) <;> try (exfalso; first | omega | contradiction)) | fail)); all_goals clear kxs)
      all_goals first
        | (rw [show R = 3 from by rw [hR2, if_pos (by omega)]]; (first | exact RetQ.zr 0 | exact RetQ.zn 0 | fail))
        | (rw [show R = 14 from by rw [hR2, if_neg (by omega), if_pos (by first | assumption | (rw [hxe]; omega))]]; (first | exact RetQ.zr 0 | exact RetQ.zn 0 | fail))
        | (rw [show R = 6 from by rw [hR2, if_neg (by omega), if_neg (by first | assumption | (rw [hxe]; omega)), if_pos (by first | assumption | (clear hR2 hr hJ; simp_all; done))]]; (first | exact RetQ.zr 0 | exact RetQ.zn 0 | fail))
        | (rw [show R = 3 from by rw [hR2, if_neg (by omega), if_neg (by first | assumption | (rw [hxe]; omega)), if_neg (by first | (rw [hl0 (by first | assumption | (rw [ne_eq, hxe]; omega))]; decide) | (clear hR2 hr hJ; simp_all; done)), if_pos (by omega)]]; (first | exact RetQ.zr 0 | exact RetQ.zn 0 | fail))
        | (refine hJ 1 _ _ (by omega) ⟨hil, x.1, hnx (by omega), ?_⟩ rfl rfl; rw [hnd, hR2, if_neg (by omega), if_neg (by rw [hxe]; omega), if_neg (by rw [hl0 (by rw [ne_eq, hxe]; omega)]; decide), if_neg (by omega)])
        | (exfalso; clear hR2 hr hJ; simp_all; done)
    · have hcp := prs_drop hp
      have hi1 : ((i : Int) - 1).toNat = i - 1 := by omega
      focus (have kxs := And.intro hcd (And.intro hcp hi1); have kpb1 := fun za zb => uN [] (ref06_Below p x.1 za zb); (repeat' (first | (refine ADr.nil ?_; try clear hgv) | refine GO ?_ | refine AW.ret ?_ | (refine GC ?_ ?_ <;> intro h <;> (try simp only [hsB] at h) <;> try (exfalso; first | omega | contradiction)) | (refine GD ?_ ?_ <;> intro h <;> (try intro hgv) <;> (try simp only [Bool.not_true, Bool.not_false] at h) <;> (try simp only [h]) <;> (try simp only [hsB] at h) <;> try (exfalso; first | omega | contradiction)) | (refine GL ?_ ?_ <;> intro h <;> (try simp only [Bool.not_true, Bool.not_false] at h) <;> (try simp only [h]) <;> (try simp only [hsB] at h) <;> try (exfalso; first | omega | contradiction)) | fail)); all_goals clear kxs kpb1)
      all_goals first
        | (rw [show R = 3 from by rw [hR2, if_pos (by omega)]]; (first | exact RetQ.zr 0 | exact RetQ.zn 0 | fail))
        | (rw [show R = 14 from by rw [hR2, if_neg (by omega), if_pos (by first | assumption | (rw [hxe]; omega))]]; (first | exact RetQ.zr 0 | exact RetQ.zn 0 | fail))
        | (rw [show R = 6 from by rw [hR2, if_neg (by omega), if_neg (by first | assumption | (rw [hxe]; omega)), if_pos (by first | assumption | (clear hR2 hr hJ; simp_all; done))]]; (first | exact RetQ.zr 0 | exact RetQ.zn 0 | fail))
        | (rw [show R = 3 from by rw [hR2, if_neg (by omega), if_neg (by first | assumption | (rw [hxe]; omega)), if_neg (by clear hR2 hr hJ; simp_all; done), if_pos (by omega)]]; (first | exact RetQ.zr 0 | exact RetQ.zn 0 | fail))
        | (refine hJ (i + 1) _ _ (by omega) ⟨hil, x.1, hnx (by omega), ?_⟩ rfl rfl; rw [hnd, hR2, if_neg (by omega), if_neg (by rw [hxe]; omega), if_neg (by clear hR2 hr hJ; simp_all; done), if_neg (by omega)])
        | (exfalso; clear hR2 hr hJ; simp_all; done)
  · focus (have kxs : 987654321 = 987654320 + 1 := rfl; (repeat' (first | (refine ADr.nil ?_; try clear hgv) | refine GO ?_ | refine AW.ret ?_ | (refine GC ?_ ?_ <;> intro h <;> (try simp only [hsB] at h) <;> try (exfalso; first | omega | contradiction)) | (refine GD ?_ ?_ <;> intro h <;> (try intro hgv) <;> (try simp only [Bool.not_true, Bool.not_false] at h) <;> (try simp only [h]) <;> (try simp only [hsB] at h) <;> try (exfalso; first | omega | contradiction)) | (refine GL ?_ ?_ <;> intro h <;> (try simp only [Bool.not_true, Bool.not_false] at h) <;> (try simp only [h]) <;> (try simp only [hsB] at h) <;> try (exfalso; first | omega | contradiction)) | fail)); all_goals clear kxs)
    have h0 : v.drop i = [] := List.drop_eq_nil_of_le (by omega)
    rw [h0] at hr
    have hR0 : R = 0 := hr.symm
    rw [hR0]
    (all_goals first | exact RetQ.fr 0 | exact RetQ.fn 0 | fail)

theorem ref14_Great (v : Prs) (hv : v.fits) : AC Try.prog 65 [.d (.l v.length (prsD v))] [] fun x σ => x = bv v.great ∧ σ = [] := by
  refine AC.walk Try.func65 rfl (by decide) (of_decide_eq_true rfl) ?_
  by_cases h8 : 20 < v.length
  · have hc : v.great = true := by unfold Prs.great; simp [h8]
    focus (have kxs := hc; (repeat' (first | refine G ?_ | refine AW.ret ?_ | (refine GC ?_ ?_ <;> intro h <;> (try simp only [hsB] at h) <;> try (exfalso; first | omega | contradiction)) | (refine GL ?_ ?_ <;> intro h <;> (try simp only [Bool.not_true, Bool.not_false] at h) <;> (try simp only [h]) <;> (try simp only [hsB] at h) <;> try (exfalso; first | omega | contradiction)) | fail)); all_goals clear kxs)
    all_goals first | (exfalso; omega) | ((all_goals have kxf := hc; first | exact RetQ.xr 0 | exact RetQ.xn 0 | fail); done)
  generalize hR : (v.any fun x => (decide (100 < x.1.length) || decide (100 < x.2.length))) = R
  have hc : v.great = R := by unfold Prs.great; rw [hR]; simp [h8]
  rw [hc]
  focus (have kxs : 987654321 = 987654320 + 1 := rfl; (repeat' (first | refine G ?_ | refine AW.ret ?_ | (refine GC ?_ ?_ <;> intro h <;> (try simp only [hsB] at h) <;> try (exfalso; first | omega | contradiction)) | (refine GL ?_ ?_ <;> intro h <;> (try simp only [Bool.not_true, Bool.not_false] at h) <;> (try simp only [h]) <;> (try simp only [hsB] at h) <;> try (exfalso; first | omega | contradiction)) | fail)); all_goals clear kxs)
  refine AW.rounds [0, 2, 3] (fun i : Nat => [(0, .d (.l v.length (prsD v))), (2, bv false), (3, iv .i64 i)]) (fun _ => [])
    (fun i => i ≤ v.length ∧ ((v.drop i).any fun x => (decide (100 < x.1.length) || decide (100 < x.2.length))) = R) (fun i => v.length - i) 0 ⟨Nat.zero_le _, hR⟩ rfl rfl (fun _ _ => Nat.zero_le _) (fun _ _ => rfl) (fun _ _ => rfl) ?_
  rintro i ⟨hi, hr⟩ J hJ
  by_cases hil : i < v.length
  · obtain ⟨x, r, hd⟩ := next_at hil
    have hcd := prs_drop hd
    have hnd := next_drop hd
    rw [hd, List.any_cons] at hr
    by_cases hx : 100 < x.1.length ∨ 100 < x.2.length
    · have hR1 : R = true := by rw [← hr]; rcases hx with h | h <;> simp [h]
      rw [hR1]
      focus (have kxs := hcd; (repeat' (first | refine G ?_ | refine AW.ret ?_ | (refine GC ?_ ?_ <;> intro h <;> (try simp only [hsB] at h) <;> try (exfalso; first | omega | contradiction)) | (refine GL ?_ ?_ <;> intro h <;> (try simp only [Bool.not_true, Bool.not_false] at h) <;> (try simp only [h]) <;> (try simp only [hsB] at h) <;> try (exfalso; first | omega | contradiction)) | fail)); all_goals clear kxs)
      all_goals first | ((all_goals first | exact RetQ.fr 0 | exact RetQ.fn 0 | fail); done) | (exfalso; omega)
    · have h1 : decide (100 < x.1.length) = false := decide_eq_false fun h => hx (.inl h)
      have h2 : decide (100 < x.2.length) = false := decide_eq_false fun h => hx (.inr h)
      rw [h1, h2, Bool.false_or, Bool.false_or] at hr
      focus (have kxs := hcd; (repeat' (first | refine G ?_ | refine AW.ret ?_ | (refine GC ?_ ?_ <;> intro h <;> (try simp only [hsB] at h) <;> try (exfalso; first | omega | contradiction)) | (refine GL ?_ ?_ <;> intro h <;> (try simp only [Bool.not_true, Bool.not_false] at h) <;> (try simp only [h]) <;> (try simp only [hsB] at h) <;> try (exfalso; first | omega | contradiction)) | fail)); all_goals clear kxs)
      all_goals first | (exfalso; omega) | (refine hJ (i + 1) _ _ (by omega) ⟨hil, by rw [hnd]; exact hr⟩ rfl rfl)
  · focus (have kxs : 987654321 = 987654320 + 1 := rfl; (repeat' (first | refine G ?_ | refine AW.ret ?_ | (refine GC ?_ ?_ <;> intro h <;> (try simp only [hsB] at h) <;> try (exfalso; first | omega | contradiction)) | (refine GL ?_ ?_ <;> intro h <;> (try simp only [Bool.not_true, Bool.not_false] at h) <;> (try simp only [h]) <;> (try simp only [hsB] at h) <;> try (exfalso; first | omega | contradiction)) | fail)); all_goals clear kxs)
    have h0 : v.drop i = [] := List.drop_eq_nil_of_le (by omega)
    rw [h0] at hr
    have hR0 : R = false := hr.symm
    rw [hR0]
    (all_goals first | exact RetQ.fr 0 | exact RetQ.fn 0 | fail)

theorem pr_eq (x y : Pr) : (decide (x.1 = y.1) && (decide (x.2 = y.2) && true)) = decide (x = y) := by
  obtain ⟨a, m⟩ := x
  obtain ⟨b, n⟩ := y
  by_cases h1 : a = b <;> by_cases h2 : m = n <;> simp [h1, h2]

theorem ref14_Same (v w : Prs) (hv : v.length ≤ 9223372036854775807) : AC Try.prog 63 [.d (.l v.length (prsD v)), .d (.l w.length (prsD w))] [] fun x σ => x = bv (decide (v = w)) ∧ σ = [] := by
  refine AC.walk Try.func63 rfl (by decide) (of_decide_eq_true rfl) ?_
  by_cases hl : v.length = w.length
  case neg =>
    have hc : decide (v = w) = false := by simp; rintro rfl; exact hl rfl
    focus (have kxs := hc; (repeat' (first | (refine ADr.nil ?_; try clear hgv) | refine GO ?_ | refine AW.ret ?_ | (refine GC ?_ ?_ <;> intro h <;> (try simp only [hsB] at h) <;> try (exfalso; first | omega | contradiction)) | (refine GD ?_ ?_ <;> intro h <;> (try intro hgv) <;> (try simp only [Bool.not_true, Bool.not_false] at h) <;> (try simp only [h]) <;> (try simp only [hsB] at h) <;> try (exfalso; first | omega | contradiction)) | (refine GL ?_ ?_ <;> intro h <;> (try simp only [Bool.not_true, Bool.not_false] at h) <;> (try simp only [h]) <;> (try simp only [hsB] at h) <;> try (exfalso; first | omega | contradiction)) | fail)); all_goals clear kxs)
    all_goals first | (exfalso; omega) | ((all_goals have kxf := hc; first | exact RetQ.xr 0 | exact RetQ.xn 0 | fail); done)
  focus (have kxs : 987654321 = 987654320 + 1 := rfl; (repeat' (first | (refine ADr.nil ?_; try clear hgv) | refine GO ?_ | refine AW.ret ?_ | (refine GC ?_ ?_ <;> intro h <;> (try simp only [hsB] at h) <;> try (exfalso; first | omega | contradiction)) | (refine GD ?_ ?_ <;> intro h <;> (try intro hgv) <;> (try simp only [Bool.not_true, Bool.not_false] at h) <;> (try simp only [h]) <;> (try simp only [hsB] at h) <;> try (exfalso; first | omega | contradiction)) | (refine GL ?_ ?_ <;> intro h <;> (try simp only [Bool.not_true, Bool.not_false] at h) <;> (try simp only [h]) <;> (try simp only [hsB] at h) <;> try (exfalso; first | omega | contradiction)) | fail)); all_goals clear kxs)
  refine AW.rounds [0, 1, 4, 5] (fun i : Nat => [(0, .d (.l v.length (prsD v))), (1, .d (.l w.length (prsD w))), (4, bv false), (5, iv .i64 i)]) (fun _ => [])
    (fun i => i ≤ v.length ∧ (v = w ↔ v.drop i = w.drop i)) (fun i => v.length - i) 0 ⟨Nat.zero_le _, by simp⟩ rfl rfl (fun _ _ => Nat.zero_le _) (fun _ _ => rfl) (fun _ _ => rfl) ?_
  rintro i ⟨hi, hr⟩ J hJ
  by_cases hil : i < v.length
  · obtain ⟨x, r, hd⟩ := next_at hil
    obtain ⟨y, s, he⟩ := next_at (l := w) (i := i) (by omega)
    have hcd := prs_drop hd
    have hce := prs_drop he
    focus (have kxs := And.intro hcd hce; (repeat' (first | (refine ADr.nil ?_; try clear hgv) | refine GO ?_ | refine AW.ret ?_ | (refine GC ?_ ?_ <;> intro h <;> (try simp only [hsB] at h) <;> try (exfalso; first | omega | contradiction)) | (refine GD ?_ ?_ <;> intro h <;> (try intro hgv) <;> (try simp only [Bool.not_true, Bool.not_false] at h) <;> (try simp only [h]) <;> (try simp only [hsB] at h) <;> try (exfalso; first | omega | contradiction)) | (refine GL ?_ ?_ <;> intro h <;> (try simp only [Bool.not_true, Bool.not_false] at h) <;> (try simp only [h]) <;> (try simp only [hsB] at h) <;> try (exfalso; first | omega | contradiction)) | fail)); all_goals clear kxs)
    · have hn : ¬ v = w := by
        rw [hr, hd, he]
        intro e
        obtain ⟨rfl, _⟩ := List.cons.inj e
        simp at h
      have hc : decide (v = w) = false := by simp [hn]
      rw [hc]
      (all_goals first | exact RetQ.fr 0 | exact RetQ.fn 0 | fail)
    · refine hJ (i + 1) _ _ (by omega) ⟨hil, ?_⟩ rfl rfl
      have hxy : x = y := Prod.ext h.1 h.2
      rw [hr, next_drop hd, next_drop he, hd, he, hxy]
      simp
  · focus (have kxs : 987654321 = 987654320 + 1 := rfl; (repeat' (first | (refine ADr.nil ?_; try clear hgv) | refine GO ?_ | refine AW.ret ?_ | (refine GC ?_ ?_ <;> intro h <;> (try simp only [hsB] at h) <;> try (exfalso; first | omega | contradiction)) | (refine GD ?_ ?_ <;> intro h <;> (try intro hgv) <;> (try simp only [Bool.not_true, Bool.not_false] at h) <;> (try simp only [h]) <;> (try simp only [hsB] at h) <;> try (exfalso; first | omega | contradiction)) | (refine GL ?_ ?_ <;> intro h <;> (try simp only [Bool.not_true, Bool.not_false] at h) <;> (try simp only [h]) <;> (try simp only [hsB] at h) <;> try (exfalso; first | omega | contradiction)) | fail)); all_goals clear kxs)
    have hc : decide (v = w) = true := by
      simp only [decide_eq_true_eq]
      rw [hr, List.drop_eq_nil_of_le (by omega), List.drop_eq_nil_of_le (by omega)]
    rw [hc]
    (all_goals first | exact RetQ.fr 0 | exact RetQ.fn 0 | fail)
theorem slices_EqualPr (v w : Prs) (hv : v.length ≤ 9223372036854775807) : AC Try.prog 110 [.d (.l v.length (prsD v)), .d (.l w.length (prsD w))] [] fun x σ => x = bv (decide (v = w)) ∧ σ = [] := by
  refine AC.walk Try.func110 rfl (by decide) (of_decide_eq_true rfl) ?_
  by_cases hl : v.length = w.length
  case neg =>
    have hc : decide (v = w) = false := by simp; rintro rfl; exact hl rfl
    focus (have kxs := hc; (repeat' (first | (refine ADr.nil ?_; try clear hgv) | refine GO ?_ | refine AW.ret ?_ | (refine GC ?_ ?_ <;> intro h <;> (try simp only [hsB] at h) <;> try (exfalso; first | omega | contradiction)) | (refine GD ?_ ?_ <;> intro h <;> (try intro hgv) <;> (try simp only [Bool.not_true, Bool.not_false] at h) <;> (try simp only [h]) <;> (try simp only [hsB] at h) <;> try (exfalso; first | omega | contradiction)) | (refine GL ?_ ?_ <;> intro h <;> (try simp only [Bool.not_true, Bool.not_false] at h) <;> (try simp only [h]) <;> (try simp only [hsB] at h) <;> try (exfalso; first | omega | contradiction)) | fail)); all_goals clear kxs)
    all_goals first | (exfalso; omega) | ((all_goals have kxf := hc; first | exact RetQ.xr 0 | exact RetQ.xn 0 | fail); done)
  focus (have kxs : 987654321 = 987654320 + 1 := rfl; (repeat' (first | (refine ADr.nil ?_; try clear hgv) | refine GO ?_ | refine AW.ret ?_ | (refine GC ?_ ?_ <;> intro h <;> (try simp only [hsB] at h) <;> try (exfalso; first | omega | contradiction)) | (refine GD ?_ ?_ <;> intro h <;> (try intro hgv) <;> (try simp only [Bool.not_true, Bool.not_false] at h) <;> (try simp only [h]) <;> (try simp only [hsB] at h) <;> try (exfalso; first | omega | contradiction)) | (refine GL ?_ ?_ <;> intro h <;> (try simp only [Bool.not_true, Bool.not_false] at h) <;> (try simp only [h]) <;> (try simp only [hsB] at h) <;> try (exfalso; first | omega | contradiction)) | fail)); all_goals clear kxs)
  refine AW.rounds [0, 1, 4, 12, 13] (fun i : Nat => [(0, .d (.l v.length (prsD v))), (1, .d (.l w.length (prsD w))), (4, bv false), (12, iv .i64 v.length), (13, iv .i64 i)]) (fun _ => [])
    (fun i => i ≤ v.length ∧ (v = w ↔ v.drop i = w.drop i)) (fun i => v.length - i) 0 ⟨Nat.zero_le _, by simp⟩ rfl rfl (fun _ _ => Nat.zero_le _) (fun _ _ => rfl) (fun _ _ => rfl) ?_
  rintro i ⟨hi, hr⟩ J hJ
  by_cases hil : i < v.length
  · obtain ⟨x, r, hd⟩ := next_at hil
    obtain ⟨y, s, he⟩ := next_at (l := w) (i := i) (by omega)
    have hcd := prs_drop hd
    have hce := prs_drop he
    focus (have kxs := And.intro hcd hce; (repeat' (first | (refine ADr.nil ?_; try clear hgv) | refine GO ?_ | refine AW.ret ?_ | (refine GC ?_ ?_ <;> intro h <;> (try simp only [hsB] at h) <;> try (exfalso; first | omega | contradiction)) | (refine GD ?_ ?_ <;> intro h <;> (try intro hgv) <;> (try simp only [Bool.not_true, Bool.not_false] at h) <;> (try simp only [h]) <;> (try simp only [hsB] at h) <;> try (exfalso; first | omega | contradiction)) | (refine GL ?_ ?_ <;> intro h <;> (try simp only [Bool.not_true, Bool.not_false] at h) <;> (try simp only [h]) <;> (try simp only [hsB] at h) <;> try (exfalso; first | omega | contradiction)) | fail)); all_goals clear kxs)
    · have hn : ¬ v = w := by
        rw [hr, hd, he]
        intro e
        obtain ⟨rfl, _⟩ := List.cons.inj e
        simp at h
      have hc : decide (v = w) = false := by simp [hn]
      rw [hc]
      (all_goals first | exact RetQ.fr 0 | exact RetQ.fn 0 | fail)
    · refine hJ (i + 1) _ _ (by omega) ⟨hil, ?_⟩ rfl rfl
      have hxy : x = y := Prod.ext h.1 h.2
      rw [hr, next_drop hd, next_drop he, hd, he, hxy]
      simp
  · focus (have kxs : 987654321 = 987654320 + 1 := rfl; (repeat' (first | (refine ADr.nil ?_; try clear hgv) | refine GO ?_ | refine AW.ret ?_ | (refine GC ?_ ?_ <;> intro h <;> (try simp only [hsB] at h) <;> try (exfalso; first | omega | contradiction)) | (refine GD ?_ ?_ <;> intro h <;> (try intro hgv) <;> (try simp only [Bool.not_true, Bool.not_false] at h) <;> (try simp only [h]) <;> (try simp only [hsB] at h) <;> try (exfalso; first | omega | contradiction)) | (refine GL ?_ ?_ <;> intro h <;> (try simp only [Bool.not_true, Bool.not_false] at h) <;> (try simp only [h]) <;> (try simp only [hsB] at h) <;> try (exfalso; first | omega | contradiction)) | fail)); all_goals clear kxs)
    have hc : decide (v = w) = true := by
      simp only [decide_eq_true_eq]
      rw [hr, List.drop_eq_nil_of_le (by omega), List.drop_eq_nil_of_le (by omega)]
    rw [hc]
    (all_goals first | exact RetQ.fr 0 | exact RetQ.fn 0 | fail)
theorem pairs_Same (v w : Prs) (hv : v.length ≤ 9223372036854775807) : AC Try.prog 70 [.d (.l v.length (prsD v)), .d (.l w.length (prsD w))] [] fun x σ => x = bv (decide (v = w)) ∧ σ = [] := by
  refine AC.walk Try.func70 rfl (by decide) (of_decide_eq_true rfl) ?_
  focus (have kxs : 987654321 = 987654320 + 1 := rfl; have kk1 := uN [] (slices_EqualPr v w hv); (repeat' (first | refine G ?_ | refine AW.ret ?_ | (refine GC ?_ ?_ <;> intro h <;> (try simp only [hsB] at h) <;> try (exfalso; first | omega | contradiction)) | (refine GL ?_ ?_ <;> intro h <;> (try simp only [Bool.not_true, Bool.not_false] at h) <;> (try simp only [h]) <;> (try simp only [hsB] at h) <;> try (exfalso; first | omega | contradiction)) | fail)); all_goals clear kxs kk1)
  (all_goals first | exact RetQ.fr 0 | exact RetQ.fn 0 | fail)
end Go.AW
