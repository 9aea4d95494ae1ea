/-
  rings that are the same; great ones.
-/
import Derived.Test.YtidkhiomlljfiaaRng2
namespace Go.AW
open Go Go.Proofs
set_option maxHeartbeats 4000000
set_option maxRecDepth 10000
set_option linter.unusedSimpArgs false
set_option linter.unusedVariables false
attribute [local irreducible] thenQ blockQ RetQ AL AW AC AOp

deriving instance DecidableEq for Mb
theorem ref22_Great (l : Ring) (hf : l.fits) : AC Try.prog 10 [.d (.l l.length (ringD l))] [] fun x σ => x = bv (Ring.great l) ∧ σ = [] := by
  refine AC.walk Try.func10 rfl (by decide) (of_decide_eq_true rfl) ?_
  have hll := hf.1
  by_cases h40 : 40 < l.length
  · have hc : Ring.great l = true := by unfold Ring.great; simp [h40]
    rw [hc]
    focus (have kxs : 987654321 = 987654320 + 1 := rfl; (repeat' (first | refine G ?_ | refine AW.ret ?_ | (refine GC ?_ ?_ <;> intro h <;> (try simp only [hsB] at h) <;> try (exfalso; first | omega | contradiction)) | (refine GL ?_ ?_ <;> intro h <;> (try simp only [Bool.not_true, Bool.not_false] at h) <;> (try simp only [h]) <;> (try simp only [hsB] at h) <;> try (exfalso; first | omega | contradiction)) | fail)); all_goals clear kxs)
    all_goals first | ((all_goals first | exact RetQ.fr 0 | exact RetQ.fn 0 | fail); done) | (exfalso; omega) | (exfalso; simp_all; done)
  generalize hR : (l.any fun x => decide (100 < x.name.length) || decide (30 < x.toks.length)) = R
  have hc : Ring.great l = R := by unfold Ring.great; rw [hR]; simp [h40]
  rw [hc]
  focus (have kxs : 987654321 = 987654320 + 1 := rfl; (repeat' (first | refine G ?_ | refine AW.ret ?_ | (refine GC ?_ ?_ <;> intro h <;> (try simp only [hsB] at h) <;> try (exfalso; first | omega | contradiction)) | (refine GL ?_ ?_ <;> intro h <;> (try simp only [Bool.not_true, Bool.not_false] at h) <;> (try simp only [h]) <;> (try simp only [hsB] at h) <;> try (exfalso; first | omega | contradiction)) | fail)); all_goals clear kxs)
  all_goals first | (exfalso; omega) | (exfalso; simp_all; done) | skip
  refine AW.rounds [0, 2, 3] (fun i : Nat => [(0, .d (.l l.length (ringD l))), (2, bv false), (3, iv .i64 i)]) (fun _ => [])
    (fun i => i ≤ l.length ∧ ((l.drop i).any fun x => decide (100 < x.name.length) || decide (30 < x.toks.length)) = R) (fun i => l.length - i) 0 ⟨Nat.zero_le _, hR⟩ rfl rfl (fun _ _ => Nat.zero_le _) (fun _ _ => rfl) (fun _ _ => rfl) ?_
  rintro i ⟨hi, hr⟩ J hJ
  by_cases hil : i < l.length
  case neg =>
    rw [List.drop_eq_nil_of_le (by omega)] at hr
    have hR0 : R = false := hr.symm
    rw [hR0]
    focus (have kxs : 987654321 = 987654320 + 1 := rfl; (repeat' (first | refine G ?_ | refine AW.ret ?_ | (refine GC ?_ ?_ <;> intro h <;> (try simp only [hsB] at h) <;> try (exfalso; first | omega | contradiction)) | (refine GL ?_ ?_ <;> intro h <;> (try simp only [Bool.not_true, Bool.not_false] at h) <;> (try simp only [h]) <;> (try simp only [hsB] at h) <;> try (exfalso; first | omega | contradiction)) | fail)); all_goals clear kxs)
    all_goals first | ((all_goals first | exact RetQ.fr 0 | exact RetQ.fn 0 | fail); done) | (exfalso; omega) | (exfalso; simp_all; done)
  obtain ⟨x, r, hd⟩ := next_at hil
  have hcd := ring_drop hd
  have hnd := next_drop hd
  obtain ⟨_, f4, f5⟩ := hf.2 x (next_mem hd)
  rw [hd, List.any_cons] at hr
  by_cases h1 : 100 < x.name.length ∨ 30 < x.toks.length
  · have hR1 : R = true := by
      rw [← hr]
      rcases h1 with h1 | h1 <;> simp [h1]
    rw [hR1]
    focus (have kxs := hcd; (repeat' (first | refine G ?_ | refine AW.ret ?_ | (refine GC ?_ ?_ <;> intro h <;> (try simp only [hsB] at h) <;> try (exfalso; first | omega | contradiction)) | (refine GL ?_ ?_ <;> intro h <;> (try simp only [Bool.not_true, Bool.not_false] at h) <;> (try simp only [h]) <;> (try simp only [hsB] at h) <;> try (exfalso; first | omega | contradiction)) | fail)); all_goals clear kxs)
    all_goals first | ((all_goals first | exact RetQ.fr 0 | exact RetQ.fn 0 | fail); done) | (exfalso; omega) | (exfalso; simp_all; done)
  · have hx : (decide (100 < x.name.length) || decide (30 < x.toks.length)) = false := by
      simp only [Bool.or_eq_false_iff, decide_eq_false_iff_not]; omega
    rw [hx, Bool.false_or] at hr
    have go : ∀ T' σ', keepT T' [0, 2, 3] = [(0, .d (.l l.length (ringD l))), (2, bv false), (3, iv .i64 ((i : Int) + 1))] → J T' σ' := fun T' σ' g1 =>
      hJ (i + 1) T' σ' (by omega) ⟨hil, by rw [hnd]; exact hr⟩ g1 rfl
    clear hJ hr hR hnd hx
    focus (have kxs := hcd; (repeat' (first | refine G ?_ | refine AW.ret ?_ | (refine GC ?_ ?_ <;> intro h <;> (try simp only [hsB] at h) <;> try (exfalso; first | omega | contradiction)) | (refine GL ?_ ?_ <;> intro h <;> (try simp only [Bool.not_true, Bool.not_false] at h) <;> (try simp only [h]) <;> (try simp only [hsB] at h) <;> try (exfalso; first | omega | contradiction)) | fail)); all_goals clear kxs)
    all_goals first | exact go _ _ rfl | (exfalso; omega) | (exfalso; simp_all; done)

theorem slices_Equal64 (v w : List Nat) (hv : v.length ≤ 9223372036854775807) : AC Try.prog 35 [.d (.l v.length (toksD v)), .d (.l w.length (toksD w))] [] fun x σ => x = bv (decide (v = w)) ∧ σ = [] := by
  refine AC.walk Try.func35 rfl (by decide) (of_decide_eq_true rfl) ?_
  by_cases hl : v.length = w.length
  case neg =>
    have hc : decide (v = w) = false := by simp; rintro rfl; exact hl rfl
    focus (have kxs := hc; (repeat' (first | (refine ADr.nil ?_; try clear hgv) | refine GO ?_ | refine AW.ret ?_ | (refine GC ?_ ?_ <;> intro h <;> (try simp only [hsB] at h) <;> try (exfalso; first | omega | contradiction)) | (refine GD ?_ ?_ <;> intro h <;> (try intro hgv) <;> (try simp only [Bool.not_true, Bool.not_false] at h) <;> (try simp only [h]) <;> (try simp only [hsB] at h) <;> try (exfalso; first | omega | contradiction)) | (refine GL ?_ ?_ <;> intro h <;> (try simp only [Bool.not_true, Bool.not_false] at h) <;> (try simp only [h]) <;> (try simp only [hsB] at h) <;> try (exfalso; first | omega | contradiction)) | fail)); all_goals clear kxs)
    all_goals first | (exfalso; omega) | ((all_goals have kxf := hc; first | exact RetQ.xr 0 | exact RetQ.xn 0 | fail); done)
  focus (have kxs : 987654321 = 987654320 + 1 := rfl; (repeat' (first | (refine ADr.nil ?_; try clear hgv) | refine GO ?_ | refine AW.ret ?_ | (refine GC ?_ ?_ <;> intro h <;> (try simp only [hsB] at h) <;> try (exfalso; first | omega | contradiction)) | (refine GD ?_ ?_ <;> intro h <;> (try intro hgv) <;> (try simp only [Bool.not_true, Bool.not_false] at h) <;> (try simp only [h]) <;> (try simp only [hsB] at h) <;> try (exfalso; first | omega | contradiction)) | (refine GL ?_ ?_ <;> intro h <;> (try simp only [Bool.not_true, Bool.not_false] at h) <;> (try simp only [h]) <;> (try simp only [hsB] at h) <;> try (exfalso; first | omega | contradiction)) | fail)); all_goals clear kxs)
  all_goals first | (exfalso; omega) | (exfalso; simp_all; done) | skip
  refine AW.rounds [0, 1, 4, 12, 13] (fun i : Nat => [(0, .d (.l v.length (toksD v))), (1, .d (.l w.length (toksD w))), (4, bv false), (12, iv .i64 v.length), (13, iv .i64 i)]) (fun _ => [])
    (fun i => i ≤ v.length ∧ (v = w ↔ v.drop i = w.drop i)) (fun i => v.length - i) 0 ⟨Nat.zero_le _, by simp⟩ rfl rfl (fun _ _ => Nat.zero_le _) (fun _ _ => rfl) (fun _ _ => rfl) ?_
  rintro i ⟨hi, hr⟩ J hJ
  by_cases hil : i < v.length
  · obtain ⟨x, r, hd⟩ := next_at hil
    obtain ⟨y, s, he⟩ := next_at (l := w) (i := i) (by omega)
    have hcd := toks_drop hd
    have hce := toks_drop he
    by_cases hxy : x = y
    · have hJ2 : v = w ↔ v.drop (i + 1) = w.drop (i + 1) := by
        rw [hr, next_drop hd, next_drop he, hd, he, hxy]; simp
      subst hxy
      focus (have kxs := And.intro hcd (And.intro hce @Nat.mul_one); (repeat' (first | (refine ADr.nil ?_; try clear hgv) | refine GO ?_ | refine AW.ret ?_ | (refine GC ?_ ?_ <;> intro h <;> (try simp only [hsB] at h) <;> try (exfalso; first | omega | contradiction)) | (refine GD ?_ ?_ <;> intro h <;> (try intro hgv) <;> (try simp only [Bool.not_true, Bool.not_false] at h) <;> (try simp only [h]) <;> (try simp only [hsB] at h) <;> try (exfalso; first | omega | contradiction)) | (refine GL ?_ ?_ <;> intro h <;> (try simp only [Bool.not_true, Bool.not_false] at h) <;> (try simp only [h]) <;> (try simp only [hsB] at h) <;> try (exfalso; first | omega | contradiction)) | fail)); all_goals clear kxs)
      all_goals first | (exact hJ (i + 1) _ _ (by omega) ⟨hil, hJ2⟩ rfl rfl) | (exfalso; simp_all; done)
    · have hn : ¬ v = w := by
        rw [hr, hd, he]
        intro e
        exact hxy (List.cons.inj e).1
      have hc : decide (v = w) = false := by simp [hn]
      rw [hc]
      have hxi : ¬ (x : Int) = y := by omega
      focus (have kxs := And.intro hcd (And.intro hce @Nat.mul_one); (repeat' (first | (refine ADr.nil ?_; try clear hgv) | refine GO ?_ | refine AW.ret ?_ | (refine GC ?_ ?_ <;> intro h <;> (try simp only [hsB] at h) <;> try (exfalso; first | omega | contradiction)) | (refine GD ?_ ?_ <;> intro h <;> (try intro hgv) <;> (try simp only [Bool.not_true, Bool.not_false] at h) <;> (try simp only [h]) <;> (try simp only [hsB] at h) <;> try (exfalso; first | omega | contradiction)) | (refine GL ?_ ?_ <;> intro h <;> (try simp only [Bool.not_true, Bool.not_false] at h) <;> (try simp only [h]) <;> (try simp only [hsB] at h) <;> try (exfalso; first | omega | contradiction)) | fail)); all_goals clear kxs)
      all_goals first | ((all_goals first | exact RetQ.fr 0 | exact RetQ.fn 0 | fail); done) | (exfalso; omega) | (exfalso; simp_all; done)
  · have hc : decide (v = w) = true := by
      simp only [decide_eq_true_eq]
      rw [hr, List.drop_eq_nil_of_le (by omega), List.drop_eq_nil_of_le (by omega)]
    rw [hc]
    focus (have kxs : 987654321 = 987654320 + 1 := rfl; (repeat' (first | (refine ADr.nil ?_; try clear hgv) | refine GO ?_ | refine AW.ret ?_ | (refine GC ?_ ?_ <;> intro h <;> (try simp only [hsB] at h) <;> try (exfalso; first | omega | contradiction)) | (refine GD ?_ ?_ <;> intro h <;> (try intro hgv) <;> (try simp only [Bool.not_true, Bool.not_false] at h) <;> (try simp only [h]) <;> (try simp only [hsB] at h) <;> try (exfalso; first | omega | contradiction)) | (refine GL ?_ ?_ <;> intro h <;> (try simp only [Bool.not_true, Bool.not_false] at h) <;> (try simp only [h]) <;> (try simp only [hsB] at h) <;> try (exfalso; first | omega | contradiction)) | fail)); all_goals clear kxs)
    all_goals first | ((all_goals first | exact RetQ.fr 0 | exact RetQ.fn 0 | fail); done) | (exfalso; omega) | (exfalso; simp_all; done)

theorem mb_dec (x y : Mb) : decide (x = y) = (decide (x.name = y.name) && (decide ((x.ep : Int) = y.ep) && (decide ((x.st : Int) = y.st) && decide (x.toks = y.toks)))) := by
  obtain ⟨a, b, c, d⟩ := x
  obtain ⟨a', b', c', d'⟩ := y
  by_cases h1 : a = a' <;> by_cases h2 : b = b' <;> by_cases h3 : c = c' <;> by_cases h4 : d = d' <;> simp [h1, h2, h3, h4, Int.natCast_inj]
theorem ring_Same1 (x y : Mb) (hx : x.toks.length ≤ 9223372036854775807) : AC Try.prog 34 [mbV x, mbV y] [] fun z σ => z = bv (decide (x = y)) ∧ σ = [] := by
  refine AC.walk Try.func34 rfl (by decide) (of_decide_eq_true rfl) ?_
  have heq := slices_Equal64 x.toks y.toks hx
  rw [mb_dec]
  generalize decide (x.toks = y.toks) = b4 at *
  by_cases e1 : x.name = y.name
  case neg =>
    have d1 : decide (x.name = y.name) = false := decide_eq_false e1
    rw [d1]
    focus (have kxs := d1; have kk1 := uN [] (heq); (repeat' (first | refine G ?_ | refine AW.ret ?_ | (refine GC ?_ ?_ <;> intro h <;> (try simp only [hsB] at h) <;> try (exfalso; first | omega | contradiction)) | (refine GL ?_ ?_ <;> intro h <;> (try simp only [Bool.not_true, Bool.not_false] at h) <;> (try simp only [h]) <;> (try simp only [hsB] at h) <;> try (exfalso; first | omega | contradiction)) | fail)); all_goals clear kxs kk1)
    all_goals first | ((all_goals first | exact RetQ.fr 0 | exact RetQ.fn 0 | fail); done) | (exfalso; omega) | (exfalso; simp_all; done)
  have d1 : decide (x.name = y.name) = true := decide_eq_true e1
  by_cases e2 : (x.ep : Int) = y.ep
  case neg =>
    have d2 : decide ((x.ep : Int) = y.ep) = false := decide_eq_false e2
    rw [d1, d2]
    focus (have kxs := And.intro d1 d2; have kk1 := uN [] (heq); (repeat' (first | refine G ?_ | refine AW.ret ?_ | (refine GC ?_ ?_ <;> intro h <;> (try simp only [hsB] at h) <;> try (exfalso; first | omega | contradiction)) | (refine GL ?_ ?_ <;> intro h <;> (try simp only [Bool.not_true, Bool.not_false] at h) <;> (try simp only [h]) <;> (try simp only [hsB] at h) <;> try (exfalso; first | omega | contradiction)) | fail)); all_goals clear kxs kk1)
    all_goals first | ((all_goals first | exact RetQ.fr 0 | exact RetQ.fn 0 | fail); done) | (exfalso; omega) | (exfalso; simp_all; done)
  have d2 : decide ((x.ep : Int) = y.ep) = true := decide_eq_true e2
  by_cases e3 : (x.st : Int) = y.st
  case neg =>
    have d3 : decide ((x.st : Int) = y.st) = false := decide_eq_false e3
    rw [d1, d2, d3]
    focus (have kxs := And.intro d1 (And.intro d2 d3); have kk1 := uN [] (heq); (repeat' (first | refine G ?_ | refine AW.ret ?_ | (refine GC ?_ ?_ <;> intro h <;> (try simp only [hsB] at h) <;> try (exfalso; first | omega | contradiction)) | (refine GL ?_ ?_ <;> intro h <;> (try simp only [Bool.not_true, Bool.not_false] at h) <;> (try simp only [h]) <;> (try simp only [hsB] at h) <;> try (exfalso; first | omega | contradiction)) | fail)); all_goals clear kxs kk1)
    all_goals first | ((all_goals first | exact RetQ.fr 0 | exact RetQ.fn 0 | fail); done) | (exfalso; omega) | (exfalso; simp_all; done)
  have d3 : decide ((x.st : Int) = y.st) = true := decide_eq_true e3
  rw [d1, d2, d3]
  focus (have kxs := And.intro d1 (And.intro d2 d3); have kk1 := uN [] (heq); (repeat' (first | refine G ?_ | refine AW.ret ?_ | (refine GC ?_ ?_ <;> intro h <;> (try simp only [hsB] at h) <;> try (exfalso; first | omega | contradiction)) | (refine GL ?_ ?_ <;> intro h <;> (try simp only [Bool.not_true, Bool.not_false] at h) <;> (try simp only [h]) <;> (try simp only [hsB] at h) <;> try (exfalso; first | omega | contradiction)) | fail)); all_goals clear kxs kk1)
  all_goals first | ((all_goals first | exact RetQ.fr 0 | exact RetQ.fn 0 | fail); done) | (exfalso; omega) | (exfalso; simp_all; done)
theorem slices_EqualFuncMb (v w : Ring) (hv : v.length ≤ 9223372036854775807) (hf : ∀ x ∈ v, x.toks.length ≤ 9223372036854775807) : AC Try.prog 33 [.d (.l v.length (ringD v)), .d (.l w.length (ringD w)), .f (.func 34) [] []] [] fun x σ => x = bv (decide (v = w)) ∧ σ = [] := by
  refine AC.walk Try.func33 rfl (by decide) (of_decide_eq_true rfl) ?_
  by_cases hl : v.length = w.length
  case neg =>
    have hc : decide (v = w) = false := by simp; rintro rfl; exact hl rfl
    focus (have kxs := hc; (repeat' (first | refine G ?_ | refine AW.ret ?_ | (refine GC ?_ ?_ <;> intro h <;> (try simp only [hsB] at h) <;> try (exfalso; first | omega | contradiction)) | (refine GL ?_ ?_ <;> intro h <;> (try simp only [Bool.not_true, Bool.not_false] at h) <;> (try simp only [h]) <;> (try simp only [hsB] at h) <;> try (exfalso; first | omega | contradiction)) | fail)); all_goals clear kxs)
    all_goals first | (exfalso; omega) | ((all_goals have kxf := hc; first | exact RetQ.xr 0 | exact RetQ.xn 0 | fail); done)
  focus (have kxs : 987654321 = 987654320 + 1 := rfl; (repeat' (first | refine G ?_ | refine AW.ret ?_ | (refine GC ?_ ?_ <;> intro h <;> (try simp only [hsB] at h) <;> try (exfalso; first | omega | contradiction)) | (refine GL ?_ ?_ <;> intro h <;> (try simp only [Bool.not_true, Bool.not_false] at h) <;> (try simp only [h]) <;> (try simp only [hsB] at h) <;> try (exfalso; first | omega | contradiction)) | fail)); all_goals clear kxs)
  all_goals first | (exfalso; omega) | skip
  refine AW.rounds [1, 2, 6, 15, 16, 17] (fun i : Nat => [(1, .d (.l w.length (ringD w))), (2, .f (.func 34) [] []), (6, bv false), (15, .d (.l v.length (ringD v))), (16, iv .i64 v.length), (17, iv .i64 i)]) (fun _ => [])
    (fun i => i ≤ v.length ∧ (v = w ↔ v.drop i = w.drop i)) (fun i => v.length - i) 0 ⟨Nat.zero_le _, by simp⟩ rfl rfl (fun _ _ => Nat.zero_le _) (fun _ _ => rfl) (fun _ _ => rfl) ?_
  rintro i ⟨hi, hr⟩ J hJ
  by_cases hil : i < v.length
  · obtain ⟨x, r, hd⟩ := next_at hil
    obtain ⟨y, s, he⟩ := next_at (l := w) (i := i) (by omega)
    have hcd := ring_drop hd
    have hce := ring_drop he
    have hfx := hf x (next_mem hd)
    have h1 := ring_Same1 x y hfx
    by_cases hxy : x = y
    · have hJ2 : v = w ↔ v.drop (i + 1) = w.drop (i + 1) := by
        rw [hr, next_drop hd, next_drop he, hd, he, hxy]; simp
      rw [decide_eq_true hxy] at h1
      focus (have kxs := And.intro hcd hce; have kk1 := uN [] (h1); (repeat' (first | refine G ?_ | refine AW.ret ?_ | (refine GC ?_ ?_ <;> intro h <;> (try simp only [hsB] at h) <;> try (exfalso; first | omega | contradiction)) | (refine GL ?_ ?_ <;> intro h <;> (try simp only [Bool.not_true, Bool.not_false] at h) <;> (try simp only [h]) <;> (try simp only [hsB] at h) <;> try (exfalso; first | omega | contradiction)) | fail)); all_goals clear kxs kk1)
      all_goals first | (exact hJ (i + 1) _ _ (by omega) ⟨hil, hJ2⟩ rfl rfl) | (exfalso; simp_all; done)
    · have hc : decide (v = w) = false := by
        simp only [decide_eq_false_iff_not]
        rw [hr, hd, he]
        intro e
        exact hxy (List.cons.inj e).1
      rw [hc]
      rw [decide_eq_false hxy] at h1
      focus (have kxs := And.intro hcd hce; have kk1 := uN [] (h1); (repeat' (first | refine G ?_ | refine AW.ret ?_ | (refine GC ?_ ?_ <;> intro h <;> (try simp only [hsB] at h) <;> try (exfalso; first | omega | contradiction)) | (refine GL ?_ ?_ <;> intro h <;> (try simp only [Bool.not_true, Bool.not_false] at h) <;> (try simp only [h]) <;> (try simp only [hsB] at h) <;> try (exfalso; first | omega | contradiction)) | fail)); all_goals clear kxs kk1)
      all_goals first | ((all_goals first | exact RetQ.fr 0 | exact RetQ.fn 0 | fail); done) | (exfalso; simp_all; done)
  · have hc : decide (v = w) = true := by
      simp only [decide_eq_true_eq]
      rw [hr, List.drop_eq_nil_of_le (by omega), List.drop_eq_nil_of_le (by omega)]
    rw [hc]
    focus (have kxs : 987654321 = 987654320 + 1 := rfl; (repeat' (first | refine G ?_ | refine AW.ret ?_ | (refine GC ?_ ?_ <;> intro h <;> (try simp only [hsB] at h) <;> try (exfalso; first | omega | contradiction)) | (refine GL ?_ ?_ <;> intro h <;> (try simp only [Bool.not_true, Bool.not_false] at h) <;> (try simp only [h]) <;> (try simp only [hsB] at h) <;> try (exfalso; first | omega | contradiction)) | fail)); all_goals clear kxs)
    all_goals first | ((all_goals first | exact RetQ.fr 0 | exact RetQ.fn 0 | fail); done) | (exfalso; simp_all; done)
theorem ring_Same (v w : Ring) (hv : v.length ≤ 9223372036854775807) (hf : ∀ x ∈ v, x.toks.length ≤ 9223372036854775807) : AC Try.prog 13 [.d (.l v.length (ringD v)), .d (.l w.length (ringD w))] [] fun x σ => x = bv (decide (v = w)) ∧ σ = [] := by
  refine AC.walk Try.func13 rfl (by decide) (of_decide_eq_true rfl) ?_
  focus (have kxs : 987654321 = 987654320 + 1 := rfl; have kk1 := uN [] (slices_EqualFuncMb v w hv hf); (repeat' (first | refine G ?_ | refine AW.ret ?_ | (refine GC ?_ ?_ <;> intro h <;> (try simp only [hsB] at h) <;> try (exfalso; first | omega | contradiction)) | (refine GL ?_ ?_ <;> intro h <;> (try simp only [Bool.not_true, Bool.not_false] at h) <;> (try simp only [h]) <;> (try simp only [hsB] at h) <;> try (exfalso; first | omega | contradiction)) | fail)); all_goals clear kxs kk1)
  all_goals first | ((all_goals first | exact RetQ.fr 0 | exact RetQ.fn 0 | fail); done) | (exfalso; simp_all; done)

theorem ref22_Same (v w : Ring) (hv : v.length ≤ 9223372036854775807) (hf : ∀ x ∈ v, x.toks.length ≤ 9223372036854775807) : AC Try.prog 14 [.d (.l v.length (ringD v)), .d (.l w.length (ringD w))] [] fun x σ => x = bv (decide (v = w)) ∧ σ = [] := by
  refine AC.walk Try.func14 rfl (by decide) (of_decide_eq_true rfl) ?_
  by_cases hl : v.length = w.length
  case neg =>
    have hc : decide (v = w) = false := by simp; rintro rfl; exact hl rfl
    focus (have kxs := hc; (repeat' (first | (refine ADr.nil ?_; try clear hgv) | refine GO ?_ | refine AW.ret ?_ | (refine GC ?_ ?_ <;> intro h <;> (try simp only [hsB] at h) <;> try (exfalso; first | omega | contradiction)) | (refine GD ?_ ?_ <;> intro h <;> (try intro hgv) <;> (try simp only [Bool.not_true, Bool.not_false] at h) <;> (try simp only [h]) <;> (try simp only [hsB] at h) <;> try (exfalso; first | omega | contradiction)) | (refine GL ?_ ?_ <;> intro h <;> (try simp only [Bool.not_true, Bool.not_false] at h) <;> (try simp only [h]) <;> (try simp only [hsB] at h) <;> try (exfalso; first | omega | contradiction)) | fail)); all_goals clear kxs)
    all_goals first | (exfalso; omega) | ((all_goals have kxf := hc; first | exact RetQ.xr 0 | exact RetQ.xn 0 | fail); done)
  focus (have kxs : 987654321 = 987654320 + 1 := rfl; (repeat' (first | (refine ADr.nil ?_; try clear hgv) | refine GO ?_ | refine AW.ret ?_ | (refine GC ?_ ?_ <;> intro h <;> (try simp only [hsB] at h) <;> try (exfalso; first | omega | contradiction)) | (refine GD ?_ ?_ <;> intro h <;> (try intro hgv) <;> (try simp only [Bool.not_true, Bool.not_false] at h) <;> (try simp only [h]) <;> (try simp only [hsB] at h) <;> try (exfalso; first | omega | contradiction)) | (refine GL ?_ ?_ <;> intro h <;> (try simp only [Bool.not_true, Bool.not_false] at h) <;> (try simp only [h]) <;> (try simp only [hsB] at h) <;> try (exfalso; first | omega | contradiction)) | fail)); all_goals clear kxs)
  all_goals first | (exfalso; omega) | skip
  refine AW.rounds [0, 1, 4, 5] (fun i : Nat => [(0, .d (.l v.length (ringD v))), (1, .d (.l w.length (ringD w))), (4, bv false), (5, iv .i64 i)]) (fun _ => [])
    (fun i => i ≤ v.length ∧ (v = w ↔ v.drop i = w.drop i)) (fun i => v.length - i) 0 ⟨Nat.zero_le _, by simp⟩ rfl rfl (fun _ _ => Nat.zero_le _) (fun _ _ => rfl) (fun _ _ => rfl) ?_
  rintro i ⟨hi, hr⟩ J hJ
  by_cases hil : i < v.length
  case neg =>
    have hc : decide (v = w) = true := by
      simp only [decide_eq_true_eq]
      rw [hr, List.drop_eq_nil_of_le (by omega), List.drop_eq_nil_of_le (by omega)]
    rw [hc]
    focus (have kxs : 987654321 = 987654320 + 1 := rfl; (repeat' (first | (refine ADr.nil ?_; try clear hgv) | refine GO ?_ | refine AW.ret ?_ | (refine GC ?_ ?_ <;> intro h <;> (try simp only [hsB] at h) <;> try (exfalso; first | omega | contradiction)) | (refine GD ?_ ?_ <;> intro h <;> (try intro hgv) <;> (try simp only [Bool.not_true, Bool.not_false] at h) <;> (try simp only [h]) <;> (try simp only [hsB] at h) <;> try (exfalso; first | omega | contradiction)) | (refine GL ?_ ?_ <;> intro h <;> (try simp only [Bool.not_true, Bool.not_false] at h) <;> (try simp only [h]) <;> (try simp only [hsB] at h) <;> try (exfalso; first | omega | contradiction)) | fail)); all_goals clear kxs)
    all_goals first | ((all_goals first | exact RetQ.fr 0 | exact RetQ.fn 0 | fail); done) | (exfalso; omega) | (exfalso; simp_all; done)
  obtain ⟨x, r, hd⟩ := next_at hil
  obtain ⟨y, s, he⟩ := next_at (l := w) (i := i) (by omega)
  have hcd := ring_drop hd
  have hce := ring_drop he
  have hfx := hf x (next_mem hd)
  have hno : ¬ x = y → decide (v = w) = false := fun hxy => by
    simp only [decide_eq_false_iff_not]
    rw [hr, hd, he]
    intro e
    exact hxy (List.cons.inj e).1
  by_cases e1 : x.name = y.name
  case neg =>
    have d1 : decide (x.name = y.name) = false := decide_eq_false e1
    rw [hno fun h => e1 (by rw [h])]
    focus (have kxs := And.intro hcd (And.intro hce d1); (repeat' (first | (refine ADr.nil ?_; try clear hgv) | refine GO ?_ | refine AW.ret ?_ | (refine GC ?_ ?_ <;> intro h <;> (try simp only [hsB] at h) <;> try (exfalso; first | omega | contradiction)) | (refine GD ?_ ?_ <;> intro h <;> (try intro hgv) <;> (try simp only [Bool.not_true, Bool.not_false] at h) <;> (try simp only [h]) <;> (try simp only [hsB] at h) <;> try (exfalso; first | omega | contradiction)) | (refine GL ?_ ?_ <;> intro h <;> (try simp only [Bool.not_true, Bool.not_false] at h) <;> (try simp only [h]) <;> (try simp only [hsB] at h) <;> try (exfalso; first | omega | contradiction)) | fail)); all_goals clear kxs)
    all_goals first | ((all_goals first | exact RetQ.fr 0 | exact RetQ.fn 0 | fail); done) | (exfalso; omega) | (exfalso; simp_all; done)
  have d1 : decide (x.name = y.name) = true := decide_eq_true e1
  by_cases e2 : (x.ep : Int) = y.ep
  case neg =>
    have d2 : decide ((x.ep : Int) = y.ep) = false := decide_eq_false e2
    rw [hno fun h => e2 (by rw [h])]
    focus (have kxs := And.intro hcd (And.intro hce (And.intro d1 d2)); (repeat' (first | (refine ADr.nil ?_; try clear hgv) | refine GO ?_ | refine AW.ret ?_ | (refine GC ?_ ?_ <;> intro h <;> (try simp only [hsB] at h) <;> try (exfalso; first | omega | contradiction)) | (refine GD ?_ ?_ <;> intro h <;> (try intro hgv) <;> (try simp only [Bool.not_true, Bool.not_false] at h) <;> (try simp only [h]) <;> (try simp only [hsB] at h) <;> try (exfalso; first | omega | contradiction)) | (refine GL ?_ ?_ <;> intro h <;> (try simp only [Bool.not_true, Bool.not_false] at h) <;> (try simp only [h]) <;> (try simp only [hsB] at h) <;> try (exfalso; first | omega | contradiction)) | fail)); all_goals clear kxs)
    all_goals first | ((all_goals first | exact RetQ.fr 0 | exact RetQ.fn 0 | fail); done) | (exfalso; omega) | (exfalso; simp_all; done)
  have d2 : decide ((x.ep : Int) = y.ep) = true := decide_eq_true e2
  by_cases e3 : (x.st : Int) = y.st
  case neg =>
    have d3 : decide ((x.st : Int) = y.st) = false := decide_eq_false e3
    rw [hno fun h => e3 (by rw [h])]
    focus (have kxs := And.intro hcd (And.intro hce (And.intro d1 (And.intro d2 d3))); (repeat' (first | (refine ADr.nil ?_; try clear hgv) | refine GO ?_ | refine AW.ret ?_ | (refine GC ?_ ?_ <;> intro h <;> (try simp only [hsB] at h) <;> try (exfalso; first | omega | contradiction)) | (refine GD ?_ ?_ <;> intro h <;> (try intro hgv) <;> (try simp only [Bool.not_true, Bool.not_false] at h) <;> (try simp only [h]) <;> (try simp only [hsB] at h) <;> try (exfalso; first | omega | contradiction)) | (refine GL ?_ ?_ <;> intro h <;> (try simp only [Bool.not_true, Bool.not_false] at h) <;> (try simp only [h]) <;> (try simp only [hsB] at h) <;> try (exfalso; first | omega | contradiction)) | fail)); all_goals clear kxs)
    all_goals first | ((all_goals first | exact RetQ.fr 0 | exact RetQ.fn 0 | fail); done) | (exfalso; omega) | (exfalso; simp_all; done)
  have d3 : decide ((x.st : Int) = y.st) = true := decide_eq_true e3
  by_cases e4 : x.toks.length = y.toks.length
  case neg =>
    have d4 : decide ((x.toks.length : Int) = y.toks.length) = false := decide_eq_false (by omega)
    rw [hno fun h => e4 (by rw [h])]
    focus (have kxs := And.intro hcd (And.intro hce (And.intro d1 (And.intro d2 (And.intro d3 d4)))); (repeat' (first | (refine ADr.nil ?_; try clear hgv) | refine GO ?_ | refine AW.ret ?_ | (refine GC ?_ ?_ <;> intro h <;> (try simp only [hsB] at h) <;> try (exfalso; first | omega | contradiction)) | (refine GD ?_ ?_ <;> intro h <;> (try intro hgv) <;> (try simp only [Bool.not_true, Bool.not_false] at h) <;> (try simp only [h]) <;> (try simp only [hsB] at h) <;> try (exfalso; first | omega | contradiction)) | (refine GL ?_ ?_ <;> intro h <;> (try simp only [Bool.not_true, Bool.not_false] at h) <;> (try simp only [h]) <;> (try simp only [hsB] at h) <;> try (exfalso; first | omega | contradiction)) | fail)); all_goals clear kxs)
    all_goals first | ((all_goals first | exact RetQ.fr 0 | exact RetQ.fn 0 | fail); done) | (exfalso; omega) | (exfalso; simp_all; done)
  have d4 : decide ((x.toks.length : Int) = y.toks.length) = true := decide_eq_true (by omega)
  have hxy : x = y ↔ x.toks = y.toks := ⟨fun h => by rw [h], fun h => of_decide_eq_true (by rw [mb_dec, d1, d2, d3, decide_eq_true h]; rfl)⟩
  have go : x = y → ∀ T' σ', keepT T' [0, 1, 4, 5] = [(0, .d (.l v.length (ringD v))), (1, .d (.l w.length (ringD w))), (4, bv false), (5, iv .i64 ((i : Int) + 1))] → J T' σ' := fun h T' σ' g1 =>
    hJ (i + 1) T' σ' (by omega) ⟨hil, by rw [hr, next_drop hd, next_drop he, hd, he, h]; simp⟩ g1 rfl
  clear hJ hr
  focus (have kxs := And.intro hcd (And.intro hce (And.intro d1 (And.intro d2 (And.intro d3 d4)))); (repeat' (first | (refine ADr.nil ?_; try clear hgv) | refine GO ?_ | refine AW.ret ?_ | (refine GC ?_ ?_ <;> intro h <;> (try simp only [hsB] at h) <;> try (exfalso; first | omega | contradiction)) | (refine GD ?_ ?_ <;> intro h <;> (try intro hgv) <;> (try simp only [Bool.not_true, Bool.not_false] at h) <;> (try simp only [h]) <;> (try simp only [hsB] at h) <;> try (exfalso; first | omega | contradiction)) | (refine GL ?_ ?_ <;> intro h <;> (try simp only [Bool.not_true, Bool.not_false] at h) <;> (try simp only [h]) <;> (try simp only [hsB] at h) <;> try (exfalso; first | omega | contradiction)) | fail)); all_goals clear kxs)
  all_goals first | (exfalso; omega) | (exfalso; simp_all; done) | skip
  refine AW.rounds [0, 1, 4, 5, 6] (fun j : Nat => [(0, .d (.l v.length (ringD v))), (1, .d (.l w.length (ringD w))), (4, bv false), (5, iv .i64 i), (6, iv .i64 j)]) (fun _ => [])
    (fun j => j ≤ x.toks.length ∧ (x.toks = y.toks ↔ x.toks.drop j = y.toks.drop j)) (fun j => x.toks.length - j) 0 ⟨Nat.zero_le _, by simp⟩ rfl rfl (fun _ _ => Nat.zero_le _) (fun _ _ => rfl) (fun _ _ => rfl) ?_
  rintro j ⟨hj, hq⟩ J2 hJ2
  by_cases hjl : j < x.toks.length
  case neg =>
    have hh := go (hxy.2 (by rw [hq, List.drop_eq_nil_of_le (by omega), List.drop_eq_nil_of_le (by omega)]))
    clear hJ2 hq go
    focus (have kxs := And.intro hcd hce; (repeat' (first | (refine ADr.nil ?_; try clear hgv) | refine GO ?_ | refine AW.ret ?_ | (refine GC ?_ ?_ <;> intro h <;> (try simp only [hsB] at h) <;> try (exfalso; first | omega | contradiction)) | (refine GD ?_ ?_ <;> intro h <;> (try intro hgv) <;> (try simp only [Bool.not_true, Bool.not_false] at h) <;> (try simp only [h]) <;> (try simp only [hsB] at h) <;> try (exfalso; first | omega | contradiction)) | (refine GL ?_ ?_ <;> intro h <;> (try simp only [Bool.not_true, Bool.not_false] at h) <;> (try simp only [h]) <;> (try simp only [hsB] at h) <;> try (exfalso; first | omega | contradiction)) | fail)); all_goals clear kxs)
    all_goals first | exact hh _ _ rfl | (exfalso; omega) | (exfalso; simp_all; done)
  obtain ⟨t, r2, hd2⟩ := next_at hjl
  obtain ⟨u, s2, he2⟩ := next_at (l := y.toks) (i := j) (by omega)
  have hcd2 := toks_drop hd2
  have hce2 := toks_drop he2
  by_cases htu : t = u
  · have hq2 : x.toks = y.toks ↔ x.toks.drop (j + 1) = y.toks.drop (j + 1) := by
      rw [hq, next_drop hd2, next_drop he2, hd2, he2, htu]; simp
    subst htu
    clear hq go
    focus (have kxs := And.intro hcd (And.intro hce (And.intro hcd2 (And.intro hce2 @Nat.mul_one))); (repeat' (first | (refine ADr.nil ?_; try clear hgv) | refine GO ?_ | refine AW.ret ?_ | (refine GC ?_ ?_ <;> intro h <;> (try simp only [hsB] at h) <;> try (exfalso; first | omega | contradiction)) | (refine GD ?_ ?_ <;> intro h <;> (try intro hgv) <;> (try simp only [Bool.not_true, Bool.not_false] at h) <;> (try simp only [h]) <;> (try simp only [hsB] at h) <;> try (exfalso; first | omega | contradiction)) | (refine GL ?_ ?_ <;> intro h <;> (try simp only [Bool.not_true, Bool.not_false] at h) <;> (try simp only [h]) <;> (try simp only [hsB] at h) <;> try (exfalso; first | omega | contradiction)) | fail)); all_goals clear kxs)
    all_goals first | (exact hJ2 (j + 1) _ _ (by omega) ⟨hjl, hq2⟩ rfl rfl) | (exfalso; omega) | (exfalso; simp_all; done)
  · have hc := hno fun h => htu (by
      have := hq.1 (hxy.1 h)
      rw [hd2, he2] at this
      exact (List.cons.inj this).1)
    rw [hc]
    have hti : ¬ (t : Int) = u := by omega
    clear hq go hJ2
    focus (have kxs := And.intro hcd (And.intro hce (And.intro hcd2 (And.intro hce2 @Nat.mul_one))); (repeat' (first | (refine ADr.nil ?_; try clear hgv) | refine GO ?_ | refine AW.ret ?_ | (refine GC ?_ ?_ <;> intro h <;> (try simp only [hsB] at h) <;> try (exfalso; first | omega | contradiction)) | (refine GD ?_ ?_ <;> intro h <;> (try intro hgv) <;> (try simp only [Bool.not_true, Bool.not_false] at h) <;> (try simp only [h]) <;> (try simp only [hsB] at h) <;> try (exfalso; first | omega | contradiction)) | (refine GL ?_ ?_ <;> intro h <;> (try simp only [Bool.not_true, Bool.not_false] at h) <;> (try simp only [h]) <;> (try simp only [hsB] at h) <;> try (exfalso; first | omega | contradiction)) | fail)); all_goals clear kxs)
    all_goals first | ((all_goals first | exact RetQ.fr 0 | exact RetQ.fn 0 | fail); done) | (exfalso; omega) | (exfalso; simp_all; done)
end Go.AW
