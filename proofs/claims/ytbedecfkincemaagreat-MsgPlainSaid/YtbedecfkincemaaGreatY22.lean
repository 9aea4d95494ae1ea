/-
  messages that are the same: the program's and the document's.
-/
import Derived.Test.YtbedecfkincemaaGreatY19
import Derived.Test.YtbedecfkincemaaGreatY08
import Derived.Test.YtbedecfkincemaaGreatY21
import Derived.Test.YtbedecfkincemaaGreatY20
namespace Go.AW
open Go Go.Proofs
set_option maxHeartbeats 4000000
set_option maxRecDepth 10000
set_option linter.unusedSimpArgs false
set_option linter.unusedVariables false
attribute [local irreducible] thenQ blockQ RetQ AL AW AC AOp

deriving instance DecidableEq for Mg
theorem slices_EqualFuncSb (v w : List Sb) (hv : v.length ≤ 9223372036854775807) (hf : ∀ x ∈ v, x.clk.ctx.length ≤ 9223372036854775807 ∧ x.meta_.length ≤ 9223372036854775807) : AC Tryz.prog 96 [.d (.l v.length (sbsD v)), .d (.l w.length (sbsD w)), .f (.func 97) [] []] [] fun x σ => x = bv (decide (v = w)) ∧ σ = [] := by
  refine AC.walk Tryz.func96 rfl (by decide) (of_decide_eq_true rfl) ?_
  by_cases hl : v.length = w.length
  case neg =>
    have hc : decide (v = w) = false := by simp; rintro rfl; exact hl rfl
    focus (have kxs := hc; (repeat' (first | refine G ?_ | refine AW.ret ?_ | (refine GC ?_ ?_ <;> intro h <;> (try simp only [hsB] at h) <;> try (exfalso; first | omega | contradiction)) | (refine GL ?_ ?_ <;> intro h <;> (try simp only [Bool.not_true, Bool.not_false] at h) <;> (try simp only [h]) <;> (try simp only [hsB] at h) <;> try (exfalso; first | omega | contradiction)) | fail)); all_goals clear kxs)
    all_goals first | (exfalso; omega) | ((all_goals have kxf := hc; first | exact RetQ.xr 0 | exact RetQ.xn 0 | fail); done)
  focus (have kxs : 987654321 = 987654320 + 1 := rfl; (repeat' (first | refine G ?_ | refine AW.ret ?_ | (refine GC ?_ ?_ <;> intro h <;> (try simp only [hsB] at h) <;> try (exfalso; first | omega | contradiction)) | (refine GL ?_ ?_ <;> intro h <;> (try simp only [Bool.not_true, Bool.not_false] at h) <;> (try simp only [h]) <;> (try simp only [hsB] at h) <;> try (exfalso; first | omega | contradiction)) | fail)); all_goals clear kxs)
  all_goals first | (exfalso; omega) | skip
  refine AW.rounds [1, 2, 6, 15, 16, 17] (fun i : Nat => [(1, .d (.l w.length (sbsD w))), (2, .f (.func 97) [] []), (6, bv false), (15, .d (.l v.length (sbsD v))), (16, iv .i64 v.length), (17, iv .i64 i)]) (fun _ => [])
    (fun i => i ≤ v.length ∧ (v = w ↔ v.drop i = w.drop i)) (fun i => v.length - i) 0 ⟨Nat.zero_le _, by simp⟩ rfl rfl (fun _ _ => Nat.zero_le _) (fun _ _ => rfl) (fun _ _ => rfl) ?_
  rintro i ⟨hi, hr⟩ J hJ
  by_cases hil : i < v.length
  · obtain ⟨x, r, hd⟩ := next_at hil
    obtain ⟨y, s, he⟩ := next_at (l := w) (i := i) (by omega)
    have hcd := sbs_drop hd
    have hce := sbs_drop he
    have hfx := hf x (next_mem hd)
    have h1 := sibling_Same x y hfx.1 hfx.2
    by_cases hxy : x = y
    · have hJ2 : v = w ↔ v.drop (i + 1) = w.drop (i + 1) := by
        rw [hr, next_drop hd, next_drop he, hd, he, hxy]; simp
      rw [decide_eq_true hxy] at h1
      focus (have kxs := And.intro hcd hce; have kk1 := uN [] (h1); (repeat' (first | refine G ?_ | refine AW.ret ?_ | (refine GC ?_ ?_ <;> intro h <;> (try simp only [hsB] at h) <;> try (exfalso; first | omega | contradiction)) | (refine GL ?_ ?_ <;> intro h <;> (try simp only [Bool.not_true, Bool.not_false] at h) <;> (try simp only [h]) <;> (try simp only [hsB] at h) <;> try (exfalso; first | omega | contradiction)) | fail)); all_goals clear kxs kk1)
      all_goals first | (exact hJ (i + 1) _ _ (by omega) ⟨hil, hJ2⟩ rfl rfl) | (exfalso; simp_all; done)
    · have hc : decide (v = w) = false := by
        simp only [decide_eq_false_iff_not]
        rw [hr, hd, he]
        intro e
        exact hxy (List.cons.inj e).1
      rw [hc]
      rw [decide_eq_false hxy] at h1
      focus (have kxs := And.intro hcd hce; have kk1 := uN [] (h1); (repeat' (first | refine G ?_ | refine AW.ret ?_ | (refine GC ?_ ?_ <;> intro h <;> (try simp only [hsB] at h) <;> try (exfalso; first | omega | contradiction)) | (refine GL ?_ ?_ <;> intro h <;> (try simp only [Bool.not_true, Bool.not_false] at h) <;> (try simp only [h]) <;> (try simp only [hsB] at h) <;> try (exfalso; first | omega | contradiction)) | fail)); all_goals clear kxs kk1)
      all_goals first | ((all_goals first | exact RetQ.fr 0 | exact RetQ.fn 0 | fail); done) | (exfalso; simp_all; done)
  · have hc : decide (v = w) = true := by
      simp only [decide_eq_true_eq]
      rw [hr, List.drop_eq_nil_of_le (by omega), List.drop_eq_nil_of_le (by omega)]
    rw [hc]
    focus (have kxs : 987654321 = 987654320 + 1 := rfl; (repeat' (first | refine G ?_ | refine AW.ret ?_ | (refine GC ?_ ?_ <;> intro h <;> (try simp only [hsB] at h) <;> try (exfalso; first | omega | contradiction)) | (refine GL ?_ ?_ <;> intro h <;> (try simp only [Bool.not_true, Bool.not_false] at h) <;> (try simp only [h]) <;> (try simp only [hsB] at h) <;> try (exfalso; first | omega | contradiction)) | fail)); all_goals clear kxs)
    all_goals first | ((all_goals first | exact RetQ.fr 0 | exact RetQ.fn 0 | fail); done) | (exfalso; simp_all; done)
theorem slices_EqualIt (v w : List It) (hv : v.length ≤ 9223372036854775807) : AC Tryz.prog 179 [.d (.l v.length (itsD v)), .d (.l w.length (itsD w))] [] fun x σ => x = bv (decide (v = w)) ∧ σ = [] := by
  refine AC.walk Tryz.func179 rfl (by decide) (of_decide_eq_true rfl) ?_
  by_cases hl : v.length = w.length
  case neg =>
    have hc : decide (v = w) = false := by simp; rintro rfl; exact hl rfl
    focus (have kxs := hc; (repeat' (first | (refine ADr.nil ?_; try clear hgv) | refine GO ?_ | refine AW.ret ?_ | (refine GC ?_ ?_ <;> intro h <;> (try simp only [hsB] at h) <;> try (exfalso; first | omega | contradiction)) | (refine GD ?_ ?_ <;> intro h <;> (try intro hgv) <;> (try simp only [Bool.not_true, Bool.not_false] at h) <;> (try simp only [h]) <;> (try simp only [hsB] at h) <;> try (exfalso; first | omega | contradiction)) | (refine GL ?_ ?_ <;> intro h <;> (try simp only [Bool.not_true, Bool.not_false] at h) <;> (try simp only [h]) <;> (try simp only [hsB] at h) <;> try (exfalso; first | omega | contradiction)) | fail)); all_goals clear kxs)
    all_goals first | (exfalso; omega) | ((all_goals have kxf := hc; first | exact RetQ.xr 0 | exact RetQ.xn 0 | fail); done)
  focus (have kxs : 987654321 = 987654320 + 1 := rfl; (repeat' (first | (refine ADr.nil ?_; try clear hgv) | refine GO ?_ | refine AW.ret ?_ | (refine GC ?_ ?_ <;> intro h <;> (try simp only [hsB] at h) <;> try (exfalso; first | omega | contradiction)) | (refine GD ?_ ?_ <;> intro h <;> (try intro hgv) <;> (try simp only [Bool.not_true, Bool.not_false] at h) <;> (try simp only [h]) <;> (try simp only [hsB] at h) <;> try (exfalso; first | omega | contradiction)) | (refine GL ?_ ?_ <;> intro h <;> (try simp only [Bool.not_true, Bool.not_false] at h) <;> (try simp only [h]) <;> (try simp only [hsB] at h) <;> try (exfalso; first | omega | contradiction)) | fail)); all_goals clear kxs)
  refine AW.rounds [0, 1, 4, 12, 13] (fun i : Nat => [(0, .d (.l v.length (itsD v))), (1, .d (.l w.length (itsD w))), (4, bv false), (12, iv .i64 v.length), (13, iv .i64 i)]) (fun _ => [])
    (fun i => i ≤ v.length ∧ (v = w ↔ v.drop i = w.drop i)) (fun i => v.length - i) 0 ⟨Nat.zero_le _, by simp⟩ rfl rfl (fun _ _ => Nat.zero_le _) (fun _ _ => rfl) (fun _ _ => rfl) ?_
  rintro i ⟨hi, hr⟩ J hJ
  by_cases hil : i < v.length
  · obtain ⟨x, r, hd⟩ := next_at hil
    obtain ⟨y, s, he⟩ := next_at (l := w) (i := i) (by omega)
    have hcd := its_drop hd
    have hce := its_drop he
    focus (have kxs := And.intro hcd hce; (repeat' (first | (refine ADr.nil ?_; try clear hgv) | refine GO ?_ | refine AW.ret ?_ | (refine GC ?_ ?_ <;> intro h <;> (try simp only [hsB] at h) <;> try (exfalso; first | omega | contradiction)) | (refine GD ?_ ?_ <;> intro h <;> (try intro hgv) <;> (try simp only [Bool.not_true, Bool.not_false] at h) <;> (try simp only [h]) <;> (try simp only [hsB] at h) <;> try (exfalso; first | omega | contradiction)) | (refine GL ?_ ?_ <;> intro h <;> (try simp only [Bool.not_true, Bool.not_false] at h) <;> (try simp only [h]) <;> (try simp only [hsB] at h) <;> try (exfalso; first | omega | contradiction)) | fail)); all_goals clear kxs)
    · have hn : ¬ v = w := by
        rw [hr, hd, he]
        intro e
        obtain ⟨rfl, _⟩ := List.cons.inj e
        simp at h
      have hc : decide (v = w) = false := by simp [hn]
      rw [hc]
      (all_goals first | exact RetQ.fr 0 | exact RetQ.fn 0 | fail)
    · refine hJ (i + 1) _ _ (by omega) ⟨hil, ?_⟩ rfl rfl
      have hxy : x = y := Prod.ext h.1 h.2
      rw [hr, next_drop hd, next_drop he, hd, he, hxy]
      simp
  · focus (have kxs : 987654321 = 987654320 + 1 := rfl; (repeat' (first | (refine ADr.nil ?_; try clear hgv) | refine GO ?_ | refine AW.ret ?_ | (refine GC ?_ ?_ <;> intro h <;> (try simp only [hsB] at h) <;> try (exfalso; first | omega | contradiction)) | (refine GD ?_ ?_ <;> intro h <;> (try intro hgv) <;> (try simp only [Bool.not_true, Bool.not_false] at h) <;> (try simp only [h]) <;> (try simp only [hsB] at h) <;> try (exfalso; first | omega | contradiction)) | (refine GL ?_ ?_ <;> intro h <;> (try simp only [Bool.not_true, Bool.not_false] at h) <;> (try simp only [h]) <;> (try simp only [hsB] at h) <;> try (exfalso; first | omega | contradiction)) | fail)); all_goals clear kxs)
    have hc : decide (v = w) = true := by
      simp only [decide_eq_true_eq]
      rw [hr, List.drop_eq_nil_of_le (by omega), List.drop_eq_nil_of_le (by omega)]
    rw [hc]
    (all_goals first | exact RetQ.fr 0 | exact RetQ.fn 0 | fail)
theorem slices_EqualSl (v w : List Sl) (hv : v.length ≤ 9223372036854775807) : AC Tryz.prog 178 [.d (.l v.length (slsD v)), .d (.l w.length (slsD w))] [] fun x σ => x = bv (decide (v = w)) ∧ σ = [] := by
  refine AC.walk Tryz.func178 rfl (by decide) (of_decide_eq_true rfl) ?_
  by_cases hl : v.length = w.length
  case neg =>
    have hc : decide (v = w) = false := by simp; rintro rfl; exact hl rfl
    focus (have kxs := hc; (repeat' (first | (refine ADr.nil ?_; try clear hgv) | refine GO ?_ | refine AW.ret ?_ | (refine GC ?_ ?_ <;> intro h <;> (try simp only [hsB] at h) <;> try (exfalso; first | omega | contradiction)) | (refine GD ?_ ?_ <;> intro h <;> (try intro hgv) <;> (try simp only [Bool.not_true, Bool.not_false] at h) <;> (try simp only [h]) <;> (try simp only [hsB] at h) <;> try (exfalso; first | omega | contradiction)) | (refine GL ?_ ?_ <;> intro h <;> (try simp only [Bool.not_true, Bool.not_false] at h) <;> (try simp only [h]) <;> (try simp only [hsB] at h) <;> try (exfalso; first | omega | contradiction)) | fail)); all_goals clear kxs)
    all_goals first | (exfalso; omega) | ((all_goals have kxf := hc; first | exact RetQ.xr 0 | exact RetQ.xn 0 | fail); done)
  focus (have kxs : 987654321 = 987654320 + 1 := rfl; (repeat' (first | (refine ADr.nil ?_; try clear hgv) | refine GO ?_ | refine AW.ret ?_ | (refine GC ?_ ?_ <;> intro h <;> (try simp only [hsB] at h) <;> try (exfalso; first | omega | contradiction)) | (refine GD ?_ ?_ <;> intro h <;> (try intro hgv) <;> (try simp only [Bool.not_true, Bool.not_false] at h) <;> (try simp only [h]) <;> (try simp only [hsB] at h) <;> try (exfalso; first | omega | contradiction)) | (refine GL ?_ ?_ <;> intro h <;> (try simp only [Bool.not_true, Bool.not_false] at h) <;> (try simp only [h]) <;> (try simp only [hsB] at h) <;> try (exfalso; first | omega | contradiction)) | fail)); all_goals clear kxs)
  refine AW.rounds [0, 1, 4, 12, 13] (fun i : Nat => [(0, .d (.l v.length (slsD v))), (1, .d (.l w.length (slsD w))), (4, bv false), (12, iv .i64 v.length), (13, iv .i64 i)]) (fun _ => [])
    (fun i => i ≤ v.length ∧ (v = w ↔ v.drop i = w.drop i)) (fun i => v.length - i) 0 ⟨Nat.zero_le _, by simp⟩ rfl rfl (fun _ _ => Nat.zero_le _) (fun _ _ => rfl) (fun _ _ => rfl) ?_
  rintro i ⟨hi, hr⟩ J hJ
  by_cases hil : i < v.length
  · obtain ⟨x, r, hd⟩ := next_at hil
    obtain ⟨y, s, he⟩ := next_at (l := w) (i := i) (by omega)
    have hcd := sls_drop hd
    have hce := sls_drop he
    focus (have kxs := And.intro hcd hce; (repeat' (first | (refine ADr.nil ?_; try clear hgv) | refine GO ?_ | refine AW.ret ?_ | (refine GC ?_ ?_ <;> intro h <;> (try simp only [hsB] at h) <;> try (exfalso; first | omega | contradiction)) | (refine GD ?_ ?_ <;> intro h <;> (try intro hgv) <;> (try simp only [Bool.not_true, Bool.not_false] at h) <;> (try simp only [h]) <;> (try simp only [hsB] at h) <;> try (exfalso; first | omega | contradiction)) | (refine GL ?_ ?_ <;> intro h <;> (try simp only [Bool.not_true, Bool.not_false] at h) <;> (try simp only [h]) <;> (try simp only [hsB] at h) <;> try (exfalso; first | omega | contradiction)) | fail)); all_goals clear kxs)
    · have hn : ¬ v = w := by
        rw [hr, hd, he]
        intro e
        obtain ⟨rfl, _⟩ := List.cons.inj e
        simp at h
      have hc : decide (v = w) = false := by simp [hn]
      rw [hc]
      (all_goals first | exact RetQ.fr 0 | exact RetQ.fn 0 | fail)
    · refine hJ (i + 1) _ _ (by omega) ⟨hil, ?_⟩ rfl rfl
      have hxy : x = y := Prod.ext (by omega) h.2
      rw [hr, next_drop hd, next_drop he, hd, he, hxy]
      simp
  · focus (have kxs : 987654321 = 987654320 + 1 := rfl; (repeat' (first | (refine ADr.nil ?_; try clear hgv) | refine GO ?_ | refine AW.ret ?_ | (refine GC ?_ ?_ <;> intro h <;> (try simp only [hsB] at h) <;> try (exfalso; first | omega | contradiction)) | (refine GD ?_ ?_ <;> intro h <;> (try intro hgv) <;> (try simp only [Bool.not_true, Bool.not_false] at h) <;> (try simp only [h]) <;> (try simp only [hsB] at h) <;> try (exfalso; first | omega | contradiction)) | (refine GL ?_ ?_ <;> intro h <;> (try simp only [Bool.not_true, Bool.not_false] at h) <;> (try simp only [h]) <;> (try simp only [hsB] at h) <;> try (exfalso; first | omega | contradiction)) | fail)); all_goals clear kxs)
    have hc : decide (v = w) = true := by
      simp only [decide_eq_true_eq]
      rw [hr, List.drop_eq_nil_of_le (by omega), List.drop_eq_nil_of_le (by omega)]
    rw [hc]
    (all_goals first | exact RetQ.fr 0 | exact RetQ.fn 0 | fail)

theorem page_Same (a b : Pg) (ha : a.slots.length ≤ 9223372036854775807) (hb : a.items.length ≤ 9223372036854775807) : AC Tryz.prog 101 [pgV a, pgV b] [] fun y σ => y = bv (decide (a = b)) ∧ σ = [] := by
  refine AC.walk Tryz.func101 rfl (by decide) (of_decide_eq_true rfl) ?_
  obtain ⟨pre, leaf, slots, items⟩ := a
  obtain ⟨pre', leaf', slots', items'⟩ := b
  simp only at ha hb ⊢
  have h3 := slices_EqualSl slots slots' ha
  have h4 := slices_EqualIt items items' hb
  have no : ∀ h : ¬ (pre = pre' ∧ leaf = leaf' ∧ slots = slots' ∧ items = items'), decide ((⟨pre, leaf, slots, items⟩ : Pg) = ⟨pre', leaf', slots', items'⟩) = false := fun h => by
    apply decide_eq_false
    intro e
    injection e with e1 e2 e3 e4
    exact h ⟨e1, e2, e3, e4⟩
  by_cases c1 : pre = pre'
  case neg =>
    rw [no (fun h => c1 h.1)]
    focus (have kxs : 987654321 = 987654320 + 1 := rfl; (repeat' (first | refine G ?_ | refine AW.ret ?_ | (refine GC ?_ ?_ <;> intro h <;> (try simp only [hsB] at h) <;> try (exfalso; first | omega | contradiction)) | (refine GL ?_ ?_ <;> intro h <;> (try simp only [Bool.not_true, Bool.not_false] at h) <;> (try simp only [h]) <;> (try simp only [hsB] at h) <;> try (exfalso; first | omega | contradiction)) | fail)); all_goals clear kxs)
    all_goals first | ((all_goals first | exact RetQ.fr 0 | exact RetQ.fn 0 | fail); done) | (exfalso; omega) | (exfalso; simp_all; done)
  subst c1
  by_cases c2 : leaf = leaf'
  case neg =>
    rw [no (fun h => c2 h.2.1)]
    have h2' : leaf' = !leaf := by cases leaf <;> cases leaf' <;> simp_all
    subst h2'
    cases leaf <;>
    (focus (have kxs : 987654321 = 987654320 + 1 := rfl; (repeat' (first | refine G ?_ | refine AW.ret ?_ | (refine GC ?_ ?_ <;> intro h <;> (try simp only [hsB] at h) <;> try (exfalso; first | omega | contradiction)) | (refine GL ?_ ?_ <;> intro h <;> (try simp only [Bool.not_true, Bool.not_false] at h) <;> (try simp only [h]) <;> (try simp only [hsB] at h) <;> try (exfalso; first | omega | contradiction)) | fail)); all_goals clear kxs))
    all_goals first | ((all_goals first | exact RetQ.fr 0 | exact RetQ.fn 0 | fail); done) | (exfalso; omega) | (exfalso; simp_all; done)
  subst c2
  by_cases c3 : slots = slots'
  case neg =>
    rw [no (fun h => c3 h.2.2.1)]
    rw [decide_eq_false c3] at h3
    cases leaf <;>
    (focus (have kxs : 987654321 = 987654320 + 1 := rfl; have kk1 := uN [] (h3); (repeat' (first | refine G ?_ | refine AW.ret ?_ | (refine GC ?_ ?_ <;> intro h <;> (try simp only [hsB] at h) <;> try (exfalso; first | omega | contradiction)) | (refine GL ?_ ?_ <;> intro h <;> (try simp only [Bool.not_true, Bool.not_false] at h) <;> (try simp only [h]) <;> (try simp only [hsB] at h) <;> try (exfalso; first | omega | contradiction)) | fail)); all_goals clear kxs kk1))
    all_goals first | ((all_goals first | exact RetQ.fr 0 | exact RetQ.fn 0 | fail); done) | (exfalso; omega) | (exfalso; simp_all; done)
  subst c3
  rw [decide_eq_true rfl] at h3
  by_cases c4 : items = items'
  case neg =>
    rw [no (fun h => c4 h.2.2.2)]
    rw [decide_eq_false c4] at h4
    cases leaf <;>
    (focus (have kxs : 987654321 = 987654320 + 1 := rfl; have kk1 := uN [] (h3); have kk2 := uN [] (h4); (repeat' (first | refine G ?_ | refine AW.ret ?_ | (refine GC ?_ ?_ <;> intro h <;> (try simp only [hsB] at h) <;> try (exfalso; first | omega | contradiction)) | (refine GL ?_ ?_ <;> intro h <;> (try simp only [Bool.not_true, Bool.not_false] at h) <;> (try simp only [h]) <;> (try simp only [hsB] at h) <;> try (exfalso; first | omega | contradiction)) | fail)); all_goals clear kxs kk1 kk2))
    all_goals first | ((all_goals first | exact RetQ.fr 0 | exact RetQ.fn 0 | fail); done) | (exfalso; omega) | (exfalso; simp_all; done)
  subst c4
  rw [decide_eq_true rfl] at h4
  rw [decide_eq_true rfl]
  cases leaf <;>
  (focus (have kxs : 987654321 = 987654320 + 1 := rfl; have kk1 := uN [] (h3); have kk2 := uN [] (h4); (repeat' (first | refine G ?_ | refine AW.ret ?_ | (refine GC ?_ ?_ <;> intro h <;> (try simp only [hsB] at h) <;> try (exfalso; first | omega | contradiction)) | (refine GL ?_ ?_ <;> intro h <;> (try simp only [Bool.not_true, Bool.not_false] at h) <;> (try simp only [h]) <;> (try simp only [hsB] at h) <;> try (exfalso; first | omega | contradiction)) | fail)); all_goals clear kxs kk1 kk2))
  all_goals first | ((all_goals first | exact RetQ.fr 0 | exact RetQ.fn 0 | fail); done) | (exfalso; omega) | (exfalso; simp_all; done)
theorem msg_Same (m n : Mg) (hm : m.fits) (hn : n.fits) : AC Tryz.prog 33 [mgV m, mgV n] [] fun y σ => y = bv (decide (m = n)) ∧ σ = [] := by
  refine AC.walk Tryz.func33 rfl (by decide) (of_decide_eq_true rfl) ?_
  obtain ⟨m1, m2, _, f1, f2, f3, f4, _, _, f5, f6, m3, _⟩ := hm
  obtain ⟨n1, n2, _, _, _, _, _, _, _, _, _, n3, _⟩ := hn
  obtain ⟨knd, id, key, fnd, ⟨okey, osibs⟩, old, ctx, mt, dd, vl, px, pg, rg, cd, tx⟩ := m
  obtain ⟨knd', id', key', fnd', ⟨okey', osibs'⟩, old', ctx', mt', dd', vl', px', pg', rg', cd', tx'⟩ := n
  simp only at m1 m2 m3 n1 n2 n3 f1 f2 f3 f4 f5 f6
  have s1 := slices_EqualFuncSb osibs osibs' f1.2.1 (Oj.fits_len f1)
  have s2 := legacy_Same old old' f2
  have s3 := vector_Same ctx ctx' f3.1
  have s4 := pairs_Same mt mt' f4.1
  have s5 := page_Same pg pg' f5.2.1.1 f5.2.2.1
  have s6 := ring_Same rg rg' f6.1 (fun x hx => (f6.2 x hx).2.2)
  have no : ∀ h : ¬ (knd = knd' ∧ id = id' ∧ key = key' ∧ fnd = fnd' ∧ okey = okey' ∧ osibs = osibs' ∧ old = old' ∧ ctx = ctx' ∧ mt = mt' ∧ dd = dd' ∧ vl = vl' ∧ px = px' ∧ pg = pg' ∧ rg = rg' ∧ cd = cd' ∧ tx = tx'), decide ((⟨knd, id, key, fnd, ⟨okey, osibs⟩, old, ctx, mt, dd, vl, px, pg, rg, cd, tx⟩ : Mg) = ⟨knd', id', key', fnd', ⟨okey', osibs'⟩, old', ctx', mt', dd', vl', px', pg', rg', cd', tx'⟩) = false := fun h => by
    apply decide_eq_false
    intro e
    injection e with e1 e2 e3 e4 e5 e6 e7 e8 e9 e10 e11 e12 e13 e14 e15
    injection e5 with e5a e5b
    exact h ⟨e1, e2, e3, e4, e5a, e5b, e6, e7, e8, e9, e10, e11, e12, e13, e14, e15⟩
  by_cases c_knd : knd = knd'
  case neg =>
    rw [no (fun h => c_knd (h.1))]
    focus (have kxs : 987654321 = 987654320 + 1 := rfl; (repeat' (first | refine G ?_ | refine AW.ret ?_ | (refine GC ?_ ?_ <;> intro h <;> (try simp only [hsB] at h) <;> try (exfalso; first | omega | contradiction)) | (refine GL ?_ ?_ <;> intro h <;> (try simp only [Bool.not_true, Bool.not_false] at h) <;> (try simp only [h]) <;> (try simp only [hsB] at h) <;> try (exfalso; first | omega | contradiction)) | fail)); all_goals clear kxs)
    all_goals first | ((all_goals first | exact RetQ.fr 0 | exact RetQ.fn 0 | fail); done) | (exfalso; omega) | (exfalso; simp_all; done)
  subst c_knd
  by_cases c_id : id = id'
  case neg =>
    rw [no (fun h => c_id (h.2.1))]
    focus (have kxs : 987654321 = 987654320 + 1 := rfl; (repeat' (first | refine G ?_ | refine AW.ret ?_ | (refine GC ?_ ?_ <;> intro h <;> (try simp only [hsB] at h) <;> try (exfalso; first | omega | contradiction)) | (refine GL ?_ ?_ <;> intro h <;> (try simp only [Bool.not_true, Bool.not_false] at h) <;> (try simp only [h]) <;> (try simp only [hsB] at h) <;> try (exfalso; first | omega | contradiction)) | fail)); all_goals clear kxs)
    all_goals first | ((all_goals first | exact RetQ.fr 0 | exact RetQ.fn 0 | fail); done) | (exfalso; omega) | (exfalso; simp_all; done)
  subst c_id
  by_cases c_key : key = key'
  case neg =>
    rw [no (fun h => c_key (h.2.2.1))]
    focus (have kxs : 987654321 = 987654320 + 1 := rfl; (repeat' (first | refine G ?_ | refine AW.ret ?_ | (refine GC ?_ ?_ <;> intro h <;> (try simp only [hsB] at h) <;> try (exfalso; first | omega | contradiction)) | (refine GL ?_ ?_ <;> intro h <;> (try simp only [Bool.not_true, Bool.not_false] at h) <;> (try simp only [h]) <;> (try simp only [hsB] at h) <;> try (exfalso; first | omega | contradiction)) | fail)); all_goals clear kxs)
    all_goals first | ((all_goals first | exact RetQ.fr 0 | exact RetQ.fn 0 | fail); done) | (exfalso; omega) | (exfalso; simp_all; done)
  subst c_key
  by_cases c_fnd : fnd = fnd'
  case neg =>
    rw [no (fun h => c_fnd (h.2.2.2.1))]
    have hb : fnd' = !fnd := by cases fnd <;> cases fnd' <;> simp_all
    subst hb
    cases fnd <;>
    (focus (have kxs : 987654321 = 987654320 + 1 := rfl; (repeat' (first | refine G ?_ | refine AW.ret ?_ | (refine GC ?_ ?_ <;> intro h <;> (try simp only [hsB] at h) <;> try (exfalso; first | omega | contradiction)) | (refine GL ?_ ?_ <;> intro h <;> (try simp only [Bool.not_true, Bool.not_false] at h) <;> (try simp only [h]) <;> (try simp only [hsB] at h) <;> try (exfalso; first | omega | contradiction)) | fail)); all_goals clear kxs))
    all_goals first | ((all_goals first | exact RetQ.fr 0 | exact RetQ.fn 0 | fail); done) | (exfalso; omega) | (exfalso; simp_all; done)
  subst c_fnd
  by_cases c_okey : okey = okey'
  case neg =>
    rw [no (fun h => c_okey (h.2.2.2.2.1))]
    focus (have kxs : 987654321 = 987654320 + 1 := rfl; (repeat' (first | refine G ?_ | refine AW.ret ?_ | (refine GC ?_ ?_ <;> intro h <;> (try simp only [hsB] at h) <;> try (exfalso; first | omega | contradiction)) | (refine GL ?_ ?_ <;> intro h <;> (try simp only [Bool.not_true, Bool.not_false] at h) <;> (try simp only [h]) <;> (try simp only [hsB] at h) <;> try (exfalso; first | omega | contradiction)) | fail)); all_goals clear kxs)
    all_goals first | ((all_goals first | exact RetQ.fr 0 | exact RetQ.fn 0 | fail); done) | (exfalso; omega) | (exfalso; simp_all; done)
  subst c_okey
  by_cases c_osibs : osibs = osibs'
  case neg =>
    rw [no (fun h => c_osibs (h.2.2.2.2.2.1))]
    rw [decide_eq_false c_osibs] at s1
    focus (have kxs : 987654321 = 987654320 + 1 := rfl; have kk1 := uN [] (s1); (repeat' (first | refine G ?_ | refine AW.ret ?_ | (refine GC ?_ ?_ <;> intro h <;> (try simp only [hsB] at h) <;> try (exfalso; first | omega | contradiction)) | (refine GL ?_ ?_ <;> intro h <;> (try simp only [Bool.not_true, Bool.not_false] at h) <;> (try simp only [h]) <;> (try simp only [hsB] at h) <;> try (exfalso; first | omega | contradiction)) | fail)); all_goals clear kxs kk1)
    all_goals first | ((all_goals first | exact RetQ.fr 0 | exact RetQ.fn 0 | fail); done) | (exfalso; omega) | (exfalso; simp_all; done)
  subst c_osibs
  rw [decide_eq_true rfl] at s1
  by_cases c_old : old = old'
  case neg =>
    rw [no (fun h => c_old (h.2.2.2.2.2.2.1))]
    rw [decide_eq_false c_old] at s2
    focus (have kxs : 987654321 = 987654320 + 1 := rfl; have kk1 := uN [] (s1); have kk2 := uN [] (s2); (repeat' (first | refine G ?_ | refine AW.ret ?_ | (refine GC ?_ ?_ <;> intro h <;> (try simp only [hsB] at h) <;> try (exfalso; first | omega | contradiction)) | (refine GL ?_ ?_ <;> intro h <;> (try simp only [Bool.not_true, Bool.not_false] at h) <;> (try simp only [h]) <;> (try simp only [hsB] at h) <;> try (exfalso; first | omega | contradiction)) | fail)); all_goals clear kxs kk1 kk2)
    all_goals first | ((all_goals first | exact RetQ.fr 0 | exact RetQ.fn 0 | fail); done) | (exfalso; omega) | (exfalso; simp_all; done)
  subst c_old
  rw [decide_eq_true rfl] at s2
  by_cases c_ctx : ctx = ctx'
  case neg =>
    rw [no (fun h => c_ctx (h.2.2.2.2.2.2.2.1))]
    rw [decide_eq_false c_ctx] at s3
    focus (have kxs : 987654321 = 987654320 + 1 := rfl; have kk1 := uN [] (s1); have kk2 := uN [] (s2); have kk3 := uN [] (s3); (repeat' (first | refine G ?_ | refine AW.ret ?_ | (refine GC ?_ ?_ <;> intro h <;> (try simp only [hsB] at h) <;> try (exfalso; first | omega | contradiction)) | (refine GL ?_ ?_ <;> intro h <;> (try simp only [Bool.not_true, Bool.not_false] at h) <;> (try simp only [h]) <;> (try simp only [hsB] at h) <;> try (exfalso; first | omega | contradiction)) | fail)); all_goals clear kxs kk1 kk2 kk3)
    all_goals first | ((all_goals first | exact RetQ.fr 0 | exact RetQ.fn 0 | fail); done) | (exfalso; omega) | (exfalso; simp_all; done)
  subst c_ctx
  rw [decide_eq_true rfl] at s3
  by_cases c_mt : mt = mt'
  case neg =>
    rw [no (fun h => c_mt (h.2.2.2.2.2.2.2.2.1))]
    rw [decide_eq_false c_mt] at s4
    focus (have kxs : 987654321 = 987654320 + 1 := rfl; have kk1 := uN [] (s1); have kk2 := uN [] (s2); have kk3 := uN [] (s3); have kk4 := uN [] (s4); (repeat' (first | refine G ?_ | refine AW.ret ?_ | (refine GC ?_ ?_ <;> intro h <;> (try simp only [hsB] at h) <;> try (exfalso; first | omega | contradiction)) | (refine GL ?_ ?_ <;> intro h <;> (try simp only [Bool.not_true, Bool.not_false] at h) <;> (try simp only [h]) <;> (try simp only [hsB] at h) <;> try (exfalso; first | omega | contradiction)) | fail)); all_goals clear kxs kk1 kk2 kk3 kk4)
    all_goals first | ((all_goals first | exact RetQ.fr 0 | exact RetQ.fn 0 | fail); done) | (exfalso; omega) | (exfalso; simp_all; done)
  subst c_mt
  rw [decide_eq_true rfl] at s4
  by_cases c_dd : dd = dd'
  case neg =>
    rw [no (fun h => c_dd (h.2.2.2.2.2.2.2.2.2.1))]
    have hb : dd' = !dd := by cases dd <;> cases dd' <;> simp_all
    subst hb
    cases dd <;>
    (focus (have kxs : 987654321 = 987654320 + 1 := rfl; have kk1 := uN [] (s1); have kk2 := uN [] (s2); have kk3 := uN [] (s3); have kk4 := uN [] (s4); (repeat' (first | refine G ?_ | refine AW.ret ?_ | (refine GC ?_ ?_ <;> intro h <;> (try simp only [hsB] at h) <;> try (exfalso; first | omega | contradiction)) | (refine GL ?_ ?_ <;> intro h <;> (try simp only [Bool.not_true, Bool.not_false] at h) <;> (try simp only [h]) <;> (try simp only [hsB] at h) <;> try (exfalso; first | omega | contradiction)) | fail)); all_goals clear kxs kk1 kk2 kk3 kk4))
    all_goals first | ((all_goals first | exact RetQ.fr 0 | exact RetQ.fn 0 | fail); done) | (exfalso; omega) | (exfalso; simp_all; done)
  subst c_dd
  by_cases c_vl : vl = vl'
  case neg =>
    rw [no (fun h => c_vl (h.2.2.2.2.2.2.2.2.2.2.1))]
    focus (have kxs : 987654321 = 987654320 + 1 := rfl; have kk1 := uN [] (s1); have kk2 := uN [] (s2); have kk3 := uN [] (s3); have kk4 := uN [] (s4); (repeat' (first | refine G ?_ | refine AW.ret ?_ | (refine GC ?_ ?_ <;> intro h <;> (try simp only [hsB] at h) <;> try (exfalso; first | omega | contradiction)) | (refine GL ?_ ?_ <;> intro h <;> (try simp only [Bool.not_true, Bool.not_false] at h) <;> (try simp only [h]) <;> (try simp only [hsB] at h) <;> try (exfalso; first | omega | contradiction)) | fail)); all_goals clear kxs kk1 kk2 kk3 kk4)
    all_goals first | ((all_goals first | exact RetQ.fr 0 | exact RetQ.fn 0 | fail); done) | (exfalso; omega) | (exfalso; simp_all; done)
  subst c_vl
  by_cases c_px : px = px'
  case neg =>
    rw [no (fun h => c_px (h.2.2.2.2.2.2.2.2.2.2.2.1))]
    focus (have kxs : 987654321 = 987654320 + 1 := rfl; have kk1 := uN [] (s1); have kk2 := uN [] (s2); have kk3 := uN [] (s3); have kk4 := uN [] (s4); (repeat' (first | refine G ?_ | refine AW.ret ?_ | (refine GC ?_ ?_ <;> intro h <;> (try simp only [hsB] at h) <;> try (exfalso; first | omega | contradiction)) | (refine GL ?_ ?_ <;> intro h <;> (try simp only [Bool.not_true, Bool.not_false] at h) <;> (try simp only [h]) <;> (try simp only [hsB] at h) <;> try (exfalso; first | omega | contradiction)) | fail)); all_goals clear kxs kk1 kk2 kk3 kk4)
    all_goals first | ((all_goals first | exact RetQ.fr 0 | exact RetQ.fn 0 | fail); done) | (exfalso; omega) | (exfalso; simp_all; done)
  subst c_px
  by_cases c_pg : pg = pg'
  case neg =>
    rw [no (fun h => c_pg (h.2.2.2.2.2.2.2.2.2.2.2.2.1))]
    rw [decide_eq_false c_pg] at s5
    focus (have kxs : 987654321 = 987654320 + 1 := rfl; have kk1 := uN [] (s1); have kk2 := uN [] (s2); have kk3 := uN [] (s3); have kk4 := uN [] (s4); have kk5 := uN [] (s5); (repeat' (first | refine G ?_ | refine AW.ret ?_ | (refine GC ?_ ?_ <;> intro h <;> (try simp only [hsB] at h) <;> try (exfalso; first | omega | contradiction)) | (refine GL ?_ ?_ <;> intro h <;> (try simp only [Bool.not_true, Bool.not_false] at h) <;> (try simp only [h]) <;> (try simp only [hsB] at h) <;> try (exfalso; first | omega | contradiction)) | fail)); all_goals clear kxs kk1 kk2 kk3 kk4 kk5)
    all_goals first | ((all_goals first | exact RetQ.fr 0 | exact RetQ.fn 0 | fail); done) | (exfalso; omega) | (exfalso; simp_all; done)
  subst c_pg
  rw [decide_eq_true rfl] at s5
  by_cases c_rg : rg = rg'
  case neg =>
    rw [no (fun h => c_rg (h.2.2.2.2.2.2.2.2.2.2.2.2.2.1))]
    rw [decide_eq_false c_rg] at s6
    focus (have kxs : 987654321 = 987654320 + 1 := rfl; have kk1 := uN [] (s1); have kk2 := uN [] (s2); have kk3 := uN [] (s3); have kk4 := uN [] (s4); have kk5 := uN [] (s5); have kk6 := uN [] (s6); (repeat' (first | refine G ?_ | refine AW.ret ?_ | (refine GC ?_ ?_ <;> intro h <;> (try simp only [hsB] at h) <;> try (exfalso; first | omega | contradiction)) | (refine GL ?_ ?_ <;> intro h <;> (try simp only [Bool.not_true, Bool.not_false] at h) <;> (try simp only [h]) <;> (try simp only [hsB] at h) <;> try (exfalso; first | omega | contradiction)) | fail)); all_goals clear kxs kk1 kk2 kk3 kk4 kk5 kk6)
    all_goals first | ((all_goals first | exact RetQ.fr 0 | exact RetQ.fn 0 | fail); done) | (exfalso; omega) | (exfalso; simp_all; done)
  subst c_rg
  rw [decide_eq_true rfl] at s6
  by_cases c_cd : cd = cd'
  case neg =>
    rw [no (fun h => c_cd (h.2.2.2.2.2.2.2.2.2.2.2.2.2.2.1))]
    focus (have kxs : 987654321 = 987654320 + 1 := rfl; have kk1 := uN [] (s1); have kk2 := uN [] (s2); have kk3 := uN [] (s3); have kk4 := uN [] (s4); have kk5 := uN [] (s5); have kk6 := uN [] (s6); (repeat' (first | refine G ?_ | refine AW.ret ?_ | (refine GC ?_ ?_ <;> intro h <;> (try simp only [hsB] at h) <;> try (exfalso; first | omega | contradiction)) | (refine GL ?_ ?_ <;> intro h <;> (try simp only [Bool.not_true, Bool.not_false] at h) <;> (try simp only [h]) <;> (try simp only [hsB] at h) <;> try (exfalso; first | omega | contradiction)) | fail)); all_goals clear kxs kk1 kk2 kk3 kk4 kk5 kk6)
    all_goals first | ((all_goals first | exact RetQ.fr 0 | exact RetQ.fn 0 | fail); done) | (exfalso; omega) | (exfalso; simp_all; done)
  subst c_cd
  by_cases c_tx : tx = tx'
  case neg =>
    rw [no (fun h => c_tx (h.2.2.2.2.2.2.2.2.2.2.2.2.2.2.2))]
    focus (have kxs : 987654321 = 987654320 + 1 := rfl; have kk1 := uN [] (s1); have kk2 := uN [] (s2); have kk3 := uN [] (s3); have kk4 := uN [] (s4); have kk5 := uN [] (s5); have kk6 := uN [] (s6); (repeat' (first | refine G ?_ | refine AW.ret ?_ | (refine GC ?_ ?_ <;> intro h <;> (try simp only [hsB] at h) <;> try (exfalso; first | omega | contradiction)) | (refine GL ?_ ?_ <;> intro h <;> (try simp only [Bool.not_true, Bool.not_false] at h) <;> (try simp only [h]) <;> (try simp only [hsB] at h) <;> try (exfalso; first | omega | contradiction)) | fail)); all_goals clear kxs kk1 kk2 kk3 kk4 kk5 kk6)
    all_goals first | ((all_goals first | exact RetQ.fr 0 | exact RetQ.fn 0 | fail); done) | (exfalso; omega) | (exfalso; simp_all; done)
  subst c_tx
  rw [decide_eq_true rfl]
  focus (have kxs : 987654321 = 987654320 + 1 := rfl; have kk1 := uN [] (s1); have kk2 := uN [] (s2); have kk3 := uN [] (s3); have kk4 := uN [] (s4); have kk5 := uN [] (s5); have kk6 := uN [] (s6); (repeat' (first | refine G ?_ | refine AW.ret ?_ | (refine GC ?_ ?_ <;> intro h <;> (try simp only [hsB] at h) <;> try (exfalso; first | omega | contradiction)) | (refine GL ?_ ?_ <;> intro h <;> (try simp only [Bool.not_true, Bool.not_false] at h) <;> (try simp only [h]) <;> (try simp only [hsB] at h) <;> try (exfalso; first | omega | contradiction)) | fail)); all_goals clear kxs kk1 kk2 kk3 kk4 kk5 kk6)
  all_goals first | ((all_goals first | exact RetQ.fr 0 | exact RetQ.fn 0 | fail); done) | (exfalso; omega) | (exfalso; simp_all; done)
end Go.AW
/-
  plain messages, the document's; what is known of plain ones.
-/
namespace Go.AW
open Go Go.Proofs
set_option maxHeartbeats 4000000
set_option maxRecDepth 10000
set_option linter.unusedSimpArgs false
set_option linter.unusedVariables false
attribute [local irreducible] thenQ blockQ RetQ AL AW AC AOp

theorem msg_Plain (v : Nat) (m : Mg) (hb : m.small) (hh : has v m.kind = true) : AC Tryz.prog 32 [iv .u8 (v : Nat), mgV m] [] fun x σ => x = mgV (m.plain v) ∧ σ = [] := by
  rw [plain_has hh]
  rcases has_cases hh with ⟨rfl, h | h | h⟩ | ⟨rfl, h | h | h | h | h | h | h | h | h⟩
  · exact plain_11 m hb h
  · exact plain_12 m hb h
  · exact plain_18 m hb h
  · exact plain_21 m hb h
  · exact plain_22 m hb h
  · exact plain_23 m hb h
  · exact plain_24 m hb h
  · exact plain_25 m hb h
  · exact plain_26 m hb h
  · exact plain_27 m hb h
  · exact plain_28 m hb h
  · exact plain_29 m hb h
theorem pl_parts (v : Nat) (m : Mg) : (m.pl v).kind = m.kind ∧ (m.pl v).id = m.id ∧ ((m.pl v).key = m.key ∨ (m.pl v).key = []) ∧ ((m.pl v).obj = m.obj ∨ (m.pl v).obj = oj0) ∧ ((m.pl v).old = m.old ∨ (m.pl v).old = od0) ∧ ((m.pl v).ctx = m.ctx ∨ (m.pl v).ctx = []) ∧ ((m.pl v).meta_ = m.meta_ ∨ (m.pl v).meta_ = []) ∧ ((m.pl v).val = m.val ∨ (m.pl v).val = []) ∧ ((m.pl v).pre = m.pre ∨ (m.pl v).pre = []) ∧ ((m.pl v).page = m.page ∨ (m.pl v).page = pg0) ∧ ((m.pl v).ring = m.ring ∨ (m.pl v).ring = []) ∧ ((m.pl v).code = m.code ∨ (m.pl v).code = 0) ∧ ((m.pl v).txt = m.txt ∨ (m.pl v).txt = []) := by
  refine ⟨pl_kind v m, pl_id v m, ?_⟩
  have hif : ∀ {α : Type} (p : Prop) [Decidable p] (a b : α), (if p then a else b) = a ∨ (if p then a else b) = b := fun p _ a b => by split <;> simp
  unfold Mg.pl
  split
  all_goals refine ⟨?_, ?_, ?_, ?_, ?_, ?_, ?_, ?_, ?_, ?_, ?_⟩
  all_goals first | exact .inl rfl | exact .inr rfl | exact hif _ _ _
theorem Mg.pl_small {v : Nat} {m : Mg} (h : m.small) : (m.pl v).small := by
  obtain ⟨_, _, _, p4, p5, p6, p7, _, _, p10, p11, _, _⟩ := pl_parts v m
  obtain ⟨h1, h2, h3, h4, h5, h6, h7⟩ := h
  unfold Mg.small
  refine ⟨?_, ?_, ?_, ?_, ?_, ?_, ?_⟩
  · rcases p6 with e | e <;> rw [e]; exact h1; exact Nat.zero_le _
  · rcases p7 with e | e <;> rw [e]; exact h2; exact Nat.zero_le _
  · rcases p10 with e | e <;> rw [e]; exact h3; exact ⟨Nat.zero_le _, Nat.zero_le _⟩
  · rcases p4 with e | e <;> rw [e]; exact h4; exact ⟨Nat.zero_le _, fun x hx => (List.not_mem_nil hx).elim⟩
  · rcases p5 with e | e <;> rw [e]; exact h5; exact ⟨Nat.zero_le _, fun x hx => (List.not_mem_nil hx).elim⟩
  · rcases p11 with e | e <;> rw [e]; exact h6; exact Nat.zero_le _
  · rcases p11 with e | e <;> rw [e]; exact h7; exact fun x hx => (List.not_mem_nil hx).elim
theorem Vec.great_small {x : Vec} (h : x.great = false) : x.length ≤ 100 := by
  unfold Vec.great at h
  simp only [Bool.or_eq_false_iff, decide_eq_false_iff_not] at h
  omega
theorem Prs.great_small {x : Prs} (h : x.great = false) : x.length ≤ 20 := by
  unfold Prs.great at h
  simp only [Bool.or_eq_false_iff, decide_eq_false_iff_not] at h
  omega
theorem Ck.great_small {k : Ck} (h : k.great = false) : k.ctx.length ≤ 100 := by
  unfold Ck.great at h
  simp only [Bool.or_eq_false_iff] at h
  exact Vec.great_small h.1
theorem Mg.great_small {m : Mg} (h : m.great = false) : m.small := by
  unfold Mg.great at h
  simp only [Bool.or_eq_false_iff, decide_eq_false_iff_not] at h
  obtain ⟨⟨⟨⟨⟨⟨⟨⟨⟨g1, g2⟩, g3⟩, g4⟩, g5⟩, g6⟩, _⟩, _⟩, _⟩, _⟩ := h
  have a3 := Vec.great_small g3
  have a4 := Prs.great_small g4
  unfold Pg.great at g5
  unfold Ring.great at g6
  unfold Oj.great at g1
  unfold Od.great at g2
  simp only [Bool.or_eq_false_iff, decide_eq_false_iff_not, List.any_eq_false, Bool.not_eq_true] at g1 g2 g5 g6
  refine ⟨by omega, by omega, ⟨by omega, by omega⟩, ⟨by omega, fun y hy => ?_⟩, ⟨by omega, fun x hx => ?_⟩, by omega, fun x hx => ?_⟩
  · obtain ⟨e1, e2, _⟩ := Sb.great_parts (g1.2 y hy)
    have := Prs.great_small e2
    have := Ck.great_small e1
    exact ⟨by omega, by omega⟩
  · have := Vec.great_small (g2.2 x hx).1
    omega
  · have := (g6.2 x hx).2
    omega
end Go.AW
/-
  Row 23: the laws about what a kind has.
-/
namespace Go.AW
open Go Go.Proofs
set_option maxHeartbeats 4000000
set_option maxRecDepth 10000
set_option linter.unusedSimpArgs false
set_option linter.unusedVariables false
attribute [local irreducible] thenQ blockQ RetQ AL AW AC AOp

theorem Mg.pl_fits {v : Nat} {m : Mg} (h : m.fits) : (m.pl v).fits := by
  obtain ⟨p1, p2, p3, p4, p5, p6, p7, p8, p9, p10, p11, p12, p13⟩ := pl_parts v m
  obtain ⟨h1, h2, h3, h4, h5, h6, h7, h8, h9, h10, h11, h12, h13⟩ := h
  unfold Mg.fits
  refine ⟨by rw [p1]; exact h1, by rw [p2]; exact h2, ?_, ?_, ?_, ?_, ?_, ?_, ?_, ?_, ?_, ?_, ?_⟩
  · rcases p3 with e | e <;> rw [e]; exact h3; exact Nat.zero_le _
  · rcases p4 with e | e <;> rw [e]; exact h4; exact oj0_fits
  · rcases p5 with e | e <;> rw [e]; exact h5; exact od0_fits
  · rcases p6 with e | e <;> rw [e]; exact h6; exact vec0_fits
  · rcases p7 with e | e <;> rw [e]; exact h7; exact prs0_fits
  · rcases p8 with e | e <;> rw [e]; exact h8; exact Nat.zero_le _
  · rcases p9 with e | e <;> rw [e]; exact h9; exact Nat.zero_le _
  · rcases p10 with e | e <;> rw [e]; exact h10; exact pg0_fits
  · rcases p11 with e | e <;> rw [e]; exact h11; exact Ring.fits_nil
  · rcases p12 with e | e <;> rw [e]; exact h12; exact (show (-9223372036854775808 : Int) ≤ 0 ∧ (0 : Int) ≤ 9223372036854775807 by decide)
  · rcases p13 with e | e <;> rw [e]; exact h13; exact Nat.zero_le _
theorem msgPlain (v : Nat) (hv : v < 256) (m : Mg) (hf : m.fits) : AC Tryz.prog 7 [iv .u8 (v : Nat), mgV m] [] fun x σ => x = bv true ∧ σ = [] := by
  refine AC.walk Tryz.func7 rfl (by decide) (of_decide_eq_true rfl) ?_
  have hgr' := ref23_Great m hf
  have hh := ref23_Has v m.kind hv hf.1
  have hk := hf.1
  by_cases hgr : Mg.great m = true
  · rw [hgr] at hgr'
    focus (have kxs : 987654321 = 987654320 + 1 := rfl; have kk1 := uN [] (awake23); have kk2 := uN [] (hgr'); (repeat' (first | (refine ADr.nil ?_; try clear hgv) | refine GO ?_ | refine AW.ret ?_ | (refine GC ?_ ?_ <;> intro h <;> (try simp only [hsB] at h) <;> try (exfalso; first | omega | contradiction)) | (refine GD ?_ ?_ <;> intro h <;> (try intro hgv) <;> (try simp only [Bool.not_true, Bool.not_false] at h) <;> (try simp only [h]) <;> (try simp only [hsB] at h) <;> try (exfalso; first | omega | contradiction)) | (refine GL ?_ ?_ <;> intro h <;> (try simp only [Bool.not_true, Bool.not_false] at h) <;> (try simp only [h]) <;> (try simp only [hsB] at h) <;> try (exfalso; first | omega | contradiction)) | fail)); all_goals clear kxs kk1 kk2)
    all_goals first | ((all_goals first | exact RetQ.fr 0 | exact RetQ.fn 0 | fail); done) | (exfalso; simp_all; done)
  have hgr : Mg.great m = false := by simpa using hgr
  rw [hgr] at hgr'
  have hsm := Mg.great_small hgr
  cases hhk : has v m.kind with
  | false =>
    rw [hhk] at hh
    focus (have kxs : 987654321 = 987654320 + 1 := rfl; have kk1 := uN [] (awake23); have kk2 := uN [] (hgr'); have kk3 := uN [] (hh); (repeat' (first | (refine ADr.nil ?_; try clear hgv) | refine GO ?_ | refine AW.ret ?_ | (refine GC ?_ ?_ <;> intro h <;> (try simp only [hsB] at h) <;> try (exfalso; first | omega | contradiction)) | (refine GD ?_ ?_ <;> intro h <;> (try intro hgv) <;> (try simp only [Bool.not_true, Bool.not_false] at h) <;> (try simp only [h]) <;> (try simp only [hsB] at h) <;> try (exfalso; first | omega | contradiction)) | (refine GL ?_ ?_ <;> intro h <;> (try simp only [Bool.not_true, Bool.not_false] at h) <;> (try simp only [h]) <;> (try simp only [hsB] at h) <;> try (exfalso; first | omega | contradiction)) | fail)); all_goals clear kxs kk1 kk2 kk3)
    all_goals first | ((all_goals first | exact RetQ.fr 0 | exact RetQ.fn 0 | fail); done) | (exfalso; omega) | (exfalso; simp_all; done)
  | true =>
    rw [hhk] at hh
    have hp1 := msg_Plain v m hsm hhk
    rw [plain_has hhk] at hp1
    have hkp : has v (m.pl v).kind = true := by rw [pl_kind]; exact hhk
    have hp2 := msg_Plain v (m.pl v) (Mg.pl_small hsm) hkp
    rw [plain_has hkp, (pl_all hhk).1] at hp2
    have hpf := Mg.pl_fits (v := v) hf
    have he1 := msg_Encode v m hv hf
    have he2 := msg_Encode v (m.pl v) hv hpf
    rw [msge_plain hhk] at he2
    have hs := msg_Same (m.pl v) (m.pl v) hpf hpf
    rw [decide_eq_true rfl] at hs
    generalize msge v m = z at *
    obtain ⟨t, e⟩ := z
    simp only at he1 he2
    generalize m.pl v = q at *
    focus (have kxs : 987654321 = 987654320 + 1 := rfl; have kk1 := uN [] (awake23); have kk2 := uN [] (hgr'); have kk3 := uN [] (hh); have kk4 := uN [] (hp1); have kk5 := uN [] (hp2); have kk6 := uN [] (he1); have kk7 := uN [] (he2); have kk8 := uN [] (hs); (repeat' (first | (refine ADr.nil ?_; try clear hgv) | refine GW ?_ | refine AW.ret ?_ | (refine GC ?_ ?_ <;> intro h <;> (try simp only [hsB] at h) <;> try (exfalso; first | omega | contradiction)) | (refine GD ?_ ?_ <;> intro h <;> (try intro hgv) <;> (try simp only [Bool.not_true, Bool.not_false] at h) <;> (try simp only [h]) <;> (try simp only [hsB] at h) <;> try (exfalso; first | omega | contradiction)) | (refine GL ?_ ?_ <;> intro h <;> (try simp only [Bool.not_true, Bool.not_false] at h) <;> (try simp only [h]) <;> (try simp only [hsB] at h) <;> try (exfalso; first | omega | contradiction)) | fail)); all_goals clear kxs kk1 kk2 kk3 kk4 kk5 kk6 kk7 kk8)
    all_goals first | ((all_goals first | exact RetQ.fr 0 | exact RetQ.fn 0 | fail); done) | (exfalso; omega) | (exfalso; simp_all; done)
theorem msgPlainI (v : Int) (hv : 0 ≤ v ∧ v ≤ 255) (m : Mg) (hf : m.fits) : AC Tryz.prog 7 [iv .u8 v, mgV m] [] fun x σ => x = bv true ∧ σ = [] := by
  obtain ⟨v, rfl⟩ := Int.eq_ofNat_of_zero_le hv.1
  exact msgPlain v (by omega) m hf

end Go.AW
