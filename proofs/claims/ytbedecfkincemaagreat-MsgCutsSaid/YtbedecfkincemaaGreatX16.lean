/-
  right pages: the document's.
-/
import Derived.Test.YtbedecfkincemaaGreatX15
namespace Go.AW
open Go Go.Proofs
set_option maxHeartbeats 2000000
set_option maxRecDepth 10000
set_option linter.unusedSimpArgs false
set_option linter.unusedVariables false
attribute [local irreducible] thenQ blockQ RetQ AL AW AC AOp

theorem itcheck_step {pre : List UInt8} {p : Option (List UInt8)} {x : It} {r : List It} {R : Int} (h : itcheck pre p (x :: r) = R) : (¬ x.1.length = 32 → R = 1) ∧ (x.1.length = 32 → (begins x.1 pre = false → R = 18) ∧ (begins x.1 pre = true → (afterL p x.1 = false → R = 6) ∧ (afterL p x.1 = true → (¬ x.2.length = 32 → R = 1) ∧ (x.2.length = 32 → itcheck pre (some x.1) r = R)))) := by
  unfold itcheck at h
  refine ⟨fun h1 => ?_, fun h1 => ⟨fun h2 => ?_, fun h2 => ⟨fun h3 => ?_, fun h3 => ⟨fun h4 => ?_, fun h4 => ?_⟩⟩⟩⟩
  · rw [if_pos h1] at h; exact h.symm
  · rw [if_neg (fun h9 => h9 h1), if_pos h2] at h; exact h.symm
  · rw [if_neg (fun h9 => h9 h1), if_neg (by rw [h2]; decide), if_pos h3] at h; exact h.symm
  · rw [if_neg (fun h9 => h9 h1), if_neg (by rw [h2]; decide), if_neg (by rw [h3]; decide), if_pos h4] at h; exact h.symm
  · rw [if_neg (fun h9 => h9 h1), if_neg (by rw [h2]; decide), if_neg (by rw [h3]; decide), if_neg (fun h9 => h9 h4)] at h; exact h

theorem ref20_Check (g : Pg) (hf : g.fits) : AC Tryz.prog 110 [pgV g] [] fun y σ => y = iv .i64 g.check ∧ σ = [] := by
  refine AC.walk Tryz.func110 rfl (by decide) (of_decide_eq_true rfl) ?_
  generalize hR : g.check = R
  unfold Pg.check at hR
  obtain ⟨f1, ⟨f2, f3⟩, f4, f5⟩ := hf
  obtain ⟨pre, leaf, slots, items⟩ := g
  have hse : slots = [] ↔ slots.length = 0 := List.length_eq_zero_iff.symm
  have hie : items = [] ↔ items.length = 0 := List.length_eq_zero_iff.symm
  simp only [ne_eq, hse, hie] at f1 f2 f3 f4 f5 hR ⊢
  by_cases a1 : 31 < pre.length
  · rw [if_pos a1] at hR
    subst hR
    focus (have kxs := kx0; (repeat' (first | (refine ADr.nil ?_; try clear hgv) | refine GO ?_ | refine AW.ret ?_ | (refine GC ?_ ?_ <;> intro h <;> (try simp only [hsB] at h) <;> try exact xf) | (refine GD ?_ ?_ <;> intro h <;> (try intro hgv) <;> (try simp only [hsN] at h) <;> (try simp only [h]) <;> (try simp only [hsB] at h) <;> try exact xf) | (refine GL ?_ ?_ <;> intro h <;> (try simp only [hsN] at h) <;> (try simp only [h]) <;> (try simp only [hsB] at h) <;> try exact xf) | fail)); all_goals clear kxs)
    all_goals first | (exfalso; omega) | exact RetQ.fr 0 | exact RetQ.fn 0 | (exfalso; simp_all; done)
  rw [if_neg a1] at hR
  cases leaf with
  | true =>
    rw [if_pos rfl] at hR
    by_cases b1 : slots.length = 0
    case neg =>
      rw [if_pos b1] at hR
      subst hR
      focus (have kxs := kx0; (repeat' (first | (refine ADr.nil ?_; try clear hgv) | refine GO ?_ | refine AW.ret ?_ | (refine GC ?_ ?_ <;> intro h <;> (try simp only [hsB] at h) <;> try exact xf) | (refine GD ?_ ?_ <;> intro h <;> (try intro hgv) <;> (try simp only [hsN] at h) <;> (try simp only [h]) <;> (try simp only [hsB] at h) <;> try exact xf) | (refine GL ?_ ?_ <;> intro h <;> (try simp only [hsN] at h) <;> (try simp only [h]) <;> (try simp only [hsB] at h) <;> try exact xf) | fail)); all_goals clear kxs)
      all_goals first | (exfalso; omega) | exact RetQ.fr 0 | exact RetQ.fn 0 | (exfalso; simp_all; done)
    rw [if_neg (fun h => h b1)] at hR
    by_cases b2 : 8 < items.length
    · rw [if_pos b2] at hR
      subst hR
      focus (have kxs := kx0; (repeat' (first | (refine ADr.nil ?_; try clear hgv) | refine GO ?_ | refine AW.ret ?_ | (refine GC ?_ ?_ <;> intro h <;> (try simp only [hsB] at h) <;> try exact xf) | (refine GD ?_ ?_ <;> intro h <;> (try intro hgv) <;> (try simp only [hsN] at h) <;> (try simp only [h]) <;> (try simp only [hsB] at h) <;> try exact xf) | (refine GL ?_ ?_ <;> intro h <;> (try simp only [hsN] at h) <;> (try simp only [h]) <;> (try simp only [hsB] at h) <;> try exact xf) | fail)); all_goals clear kxs)
      all_goals first | (exfalso; omega) | exact RetQ.fr 0 | exact RetQ.fn 0 | (exfalso; simp_all; done)
    rw [if_neg b2] at hR
    focus (have kxs := kx0; (repeat' (first | (refine ADr.nil ?_; try clear hgv) | refine GO ?_ | refine AW.ret ?_ | (refine GC ?_ ?_ <;> intro h <;> (try simp only [hsB] at h) <;> try exact xf) | (refine GD ?_ ?_ <;> intro h <;> (try intro hgv) <;> (try simp only [hsN] at h) <;> (try simp only [h]) <;> (try simp only [hsB] at h) <;> try exact xf) | (refine GL ?_ ?_ <;> intro h <;> (try simp only [hsN] at h) <;> (try simp only [h]) <;> (try simp only [hsB] at h) <;> try exact xf) | fail)); all_goals clear kxs)
    all_goals first | (exfalso; omega) | (exfalso; simp_all; done) | skip
    refine AW.rounds [1, 2, 3] (fun i : Nat => [(1, .p 0 0), (2, iv .i64 0), (3, iv .i64 i)]) (fun _ => [.box 35 [sv (bs pre), bv true, .d (.l slots.length (slsD slots)), .d (.l items.length (itsD items))]])
      (fun i => i ≤ items.length ∧ ((i = 0 ∧ itcheck pre none items = R) ∨ (0 < i ∧ ∃ y r, items.drop (i - 1) = y :: r ∧ y.1.length = 32 ∧ itcheck pre (some y.1) (items.drop i) = R))) (fun i => items.length - i) 0 ⟨Nat.zero_le _, .inl ⟨rfl, hR⟩⟩ rfl rfl (fun _ _ => Nat.zero_le _) (fun _ _ => rfl) (fun _ _ => rfl) ?_
    clear hR
    rintro k ⟨hk, hr⟩ J hJ
    by_cases hkl : k < items.length
    case neg =>
      have hR0 : R = 0 := by
        have hdn : items.drop k = [] := List.drop_eq_nil_of_le (by omega)
        rcases hr with ⟨rfl, hr⟩ | ⟨_, y, r, _, _, hr⟩
        · have : items = [] := List.length_eq_zero_iff.1 (by omega)
          rw [this] at hr; exact hr.symm
        · rw [hdn] at hr; exact hr.symm
      rw [hR0]
      focus (have kxs := kx0; (repeat' (first | (refine ADr.nil ?_; try clear hgv) | refine GO ?_ | refine AW.ret ?_ | (refine GC ?_ ?_ <;> intro h <;> (try simp only [hsB] at h) <;> try exact xf) | (refine GD ?_ ?_ <;> intro h <;> (try intro hgv) <;> (try simp only [hsN] at h) <;> (try simp only [h]) <;> (try simp only [hsB] at h) <;> try exact xf) | (refine GL ?_ ?_ <;> intro h <;> (try simp only [hsN] at h) <;> (try simp only [h]) <;> (try simp only [hsB] at h) <;> try exact xf) | fail)); all_goals clear kxs)
      all_goals first | exact RetQ.fr 0 | exact RetQ.fn 0 | (exfalso; omega) | (exfalso; simp_all; done)
    obtain ⟨x, r, hd⟩ := next_at hkl
    have hcd := its_drop hd
    obtain ⟨g1, g2⟩ := f5 x (next_mem hd)
    have hbg := ref20_Begins x.1 pre g1 f1
    have hnd := next_drop hd
    have go : x.1.length = 32 → itcheck pre (some x.1) r = R → ∀ T' σ', keepT T' [1, 2, 3] = [(1, .p 0 0), (2, iv .i64 0), (3, iv .i64 ((k : Int) + 1))] → σ'.take 1 = [.box 35 [sv (bs pre), bv true, .d (.l slots.length (slsD slots)), .d (.l items.length (itsD items))]] → J T' σ' := fun h0 h T' σ' q1 q2 =>
      hJ (k + 1) T' σ' (by omega) ⟨hkl, .inr ⟨by omega, x, r, by simpa using hd, h0, by rw [hnd]; exact h⟩⟩ q1 q2
    clear hJ
    rcases hr with ⟨rfl, hr⟩ | ⟨hk0, y, r', hp, hyl, hr⟩
    · have hd0 : items = x :: r := hd
      rw [hd0] at hr
      obtain ⟨s1, s2⟩ := itcheck_step hr
      clear hr hd0
      by_cases c1 : x.1.length = 32
      case neg =>
        obtain rfl := s1 c1
        focus (have kxs := hcd; (repeat' (first | (refine ADr.nil ?_; try clear hgv) | refine GO ?_ | refine AW.ret ?_ | (refine GC ?_ ?_ <;> intro h <;> (try simp only [hsB] at h) <;> try exact xf) | (refine GD ?_ ?_ <;> intro h <;> (try intro hgv) <;> (try simp only [hsN] at h) <;> (try simp only [h]) <;> (try simp only [hsB] at h) <;> try exact xf) | (refine GL ?_ ?_ <;> intro h <;> (try simp only [hsN] at h) <;> (try simp only [h]) <;> (try simp only [hsB] at h) <;> try exact xf) | fail)); all_goals clear kxs)
        all_goals first | exact RetQ.fr 0 | exact RetQ.fn 0 | (exfalso; omega) | (exfalso; simp_all; done)
      obtain ⟨s3, s4⟩ := s2 c1
      cases c2 : begins x.1 pre with
      | false =>
        obtain rfl := s3 c2
        rw [c2] at hbg
        focus (have kxs := hcd; have kk1 := uN [] (hbg); (repeat' (first | (refine ADr.nil ?_; try clear hgv) | refine GO ?_ | refine AW.ret ?_ | (refine GC ?_ ?_ <;> intro h <;> (try simp only [hsB] at h) <;> try exact xf) | (refine GD ?_ ?_ <;> intro h <;> (try intro hgv) <;> (try simp only [hsN] at h) <;> (try simp only [h]) <;> (try simp only [hsB] at h) <;> try exact xf) | (refine GL ?_ ?_ <;> intro h <;> (try simp only [hsN] at h) <;> (try simp only [h]) <;> (try simp only [hsB] at h) <;> try exact xf) | fail)); all_goals clear kxs kk1)
        all_goals first | exact RetQ.fr 0 | exact RetQ.fn 0 | (exfalso; omega) | (exfalso; simp_all; done)
      | true =>
        obtain ⟨_, s5⟩ := s4 c2
        obtain ⟨s6, s7⟩ := s5 rfl
        rw [c2] at hbg
        by_cases c3 : x.2.length = 32
        · have go := go c1 (s7 c3)
          clear s6 s7 s5 s4 s3 s2 s1
          focus (have kxs := hcd; have kk1 := uN [] (hbg); (repeat' (first | (refine ADr.nil ?_; try clear hgv) | refine GO ?_ | refine AW.ret ?_ | (refine GC ?_ ?_ <;> intro h <;> (try simp only [hsB] at h) <;> try exact xf) | (refine GD ?_ ?_ <;> intro h <;> (try intro hgv) <;> (try simp only [hsN] at h) <;> (try simp only [h]) <;> (try simp only [hsB] at h) <;> try exact xf) | (refine GL ?_ ?_ <;> intro h <;> (try simp only [hsN] at h) <;> (try simp only [h]) <;> (try simp only [hsB] at h) <;> try exact xf) | fail)); all_goals clear kxs kk1)
          all_goals first | exact go _ _ rfl rfl | (exfalso; omega) | (exfalso; simp_all; done)
        · obtain rfl := s6 c3
          focus (have kxs := hcd; have kk1 := uN [] (hbg); (repeat' (first | (refine ADr.nil ?_; try clear hgv) | refine GO ?_ | refine AW.ret ?_ | (refine GC ?_ ?_ <;> intro h <;> (try simp only [hsB] at h) <;> try exact xf) | (refine GD ?_ ?_ <;> intro h <;> (try intro hgv) <;> (try simp only [hsN] at h) <;> (try simp only [h]) <;> (try simp only [hsB] at h) <;> try exact xf) | (refine GL ?_ ?_ <;> intro h <;> (try simp only [hsN] at h) <;> (try simp only [h]) <;> (try simp only [hsB] at h) <;> try exact xf) | fail)); all_goals clear kxs kk1)
          all_goals first | exact RetQ.fr 0 | exact RetQ.fn 0 | (exfalso; omega) | (exfalso; simp_all; done)
    · have hcp := its_drop hp
      have hk1 : ((k : Int) - 1).toNat = k - 1 := by omega
      rw [hd] at hr
      obtain ⟨s1, s2⟩ := itcheck_step hr
      clear hr
      by_cases c1 : x.1.length = 32
      case neg =>
        obtain rfl := s1 c1
        focus (have kxs := hcd; (repeat' (first | (refine ADr.nil ?_; try clear hgv) | refine GO ?_ | refine AW.ret ?_ | (refine GC ?_ ?_ <;> intro h <;> (try simp only [hsB] at h) <;> try exact xf) | (refine GD ?_ ?_ <;> intro h <;> (try intro hgv) <;> (try simp only [hsN] at h) <;> (try simp only [h]) <;> (try simp only [hsB] at h) <;> try exact xf) | (refine GL ?_ ?_ <;> intro h <;> (try simp only [hsN] at h) <;> (try simp only [h]) <;> (try simp only [hsB] at h) <;> try exact xf) | fail)); all_goals clear kxs)
        all_goals first | exact RetQ.fr 0 | exact RetQ.fn 0 | (exfalso; omega) | (exfalso; simp_all; done)
      obtain ⟨s3, s4⟩ := s2 c1
      have hbl := ref06_Below y.1 x.1 (by omega) (by omega)
      cases c2 : begins x.1 pre with
      | false =>
        obtain rfl := s3 c2
        rw [c2] at hbg
        focus (have kxs := hcd; have kk1 := uN [] (hbg); (repeat' (first | (refine ADr.nil ?_; try clear hgv) | refine GO ?_ | refine AW.ret ?_ | (refine GC ?_ ?_ <;> intro h <;> (try simp only [hsB] at h) <;> try exact xf) | (refine GD ?_ ?_ <;> intro h <;> (try intro hgv) <;> (try simp only [hsN] at h) <;> (try simp only [h]) <;> (try simp only [hsB] at h) <;> try exact xf) | (refine GL ?_ ?_ <;> intro h <;> (try simp only [hsN] at h) <;> (try simp only [h]) <;> (try simp only [hsB] at h) <;> try exact xf) | fail)); all_goals clear kxs kk1)
        all_goals first | exact RetQ.fr 0 | exact RetQ.fn 0 | (exfalso; omega) | (exfalso; simp_all; done)
      | true =>
        obtain ⟨s5, s6⟩ := s4 c2
        rw [c2] at hbg
        cases c3 : lessB y.1 x.1 with
        | false =>
          obtain rfl := s5 c3
          rw [show Op.bytesLess y.1 x.1 = false from c3] at hbl
          focus (have kxs := And.intro hcd (And.intro hcp hk1); have kk1 := uN [] (hbg); have kk2 := uN [] (hbl); (repeat' (first | (refine ADr.nil ?_; try clear hgv) | refine GO ?_ | refine AW.ret ?_ | (refine GC ?_ ?_ <;> intro h <;> (try simp only [hsB] at h) <;> try exact xf) | (refine GD ?_ ?_ <;> intro h <;> (try intro hgv) <;> (try simp only [hsN] at h) <;> (try simp only [h]) <;> (try simp only [hsB] at h) <;> try exact xf) | (refine GL ?_ ?_ <;> intro h <;> (try simp only [hsN] at h) <;> (try simp only [h]) <;> (try simp only [hsB] at h) <;> try exact xf) | fail)); all_goals clear kxs kk1 kk2)
          all_goals first | exact RetQ.fr 0 | exact RetQ.fn 0 | (exfalso; omega) | (exfalso; simp_all; done)
        | true =>
          obtain ⟨s7, s8⟩ := s6 c3
          rw [show Op.bytesLess y.1 x.1 = true from c3] at hbl
          by_cases c4 : x.2.length = 32
          · have go := go c1 (s8 c4)
            clear s8 s7 s6 s5 s4 s3 s2 s1
            focus (have kxs := And.intro hcd (And.intro hcp hk1); have kk1 := uN [] (hbg); have kk2 := uN [] (hbl); (repeat' (first | (refine ADr.nil ?_; try clear hgv) | refine GO ?_ | refine AW.ret ?_ | (refine GC ?_ ?_ <;> intro h <;> (try simp only [hsB] at h) <;> try exact xf) | (refine GD ?_ ?_ <;> intro h <;> (try intro hgv) <;> (try simp only [hsN] at h) <;> (try simp only [h]) <;> (try simp only [hsB] at h) <;> try exact xf) | (refine GL ?_ ?_ <;> intro h <;> (try simp only [hsN] at h) <;> (try simp only [h]) <;> (try simp only [hsB] at h) <;> try exact xf) | fail)); all_goals clear kxs kk1 kk2)
            all_goals first | exact go _ _ rfl rfl | (exfalso; omega) | (exfalso; simp_all; done)
          · obtain rfl := s7 c4
            focus (have kxs := And.intro hcd (And.intro hcp hk1); have kk1 := uN [] (hbg); have kk2 := uN [] (hbl); (repeat' (first | (refine ADr.nil ?_; try clear hgv) | refine GO ?_ | refine AW.ret ?_ | (refine GC ?_ ?_ <;> intro h <;> (try simp only [hsB] at h) <;> try exact xf) | (refine GD ?_ ?_ <;> intro h <;> (try intro hgv) <;> (try simp only [hsN] at h) <;> (try simp only [h]) <;> (try simp only [hsB] at h) <;> try exact xf) | (refine GL ?_ ?_ <;> intro h <;> (try simp only [hsN] at h) <;> (try simp only [h]) <;> (try simp only [hsB] at h) <;> try exact xf) | fail)); all_goals clear kxs kk1 kk2)
            all_goals first | exact RetQ.fr 0 | exact RetQ.fn 0 | (exfalso; omega) | (exfalso; simp_all; done)
  | false =>
    rw [if_neg (by decide)] at hR
    by_cases b1 : items.length = 0
    case neg =>
      rw [if_pos b1] at hR
      subst hR
      focus (have kxs := kx0; (repeat' (first | (refine ADr.nil ?_; try clear hgv) | refine GO ?_ | refine AW.ret ?_ | (refine GC ?_ ?_ <;> intro h <;> (try simp only [hsB] at h) <;> try exact xf) | (refine GD ?_ ?_ <;> intro h <;> (try intro hgv) <;> (try simp only [hsN] at h) <;> (try simp only [h]) <;> (try simp only [hsB] at h) <;> try exact xf) | (refine GL ?_ ?_ <;> intro h <;> (try simp only [hsN] at h) <;> (try simp only [h]) <;> (try simp only [hsB] at h) <;> try exact xf) | fail)); all_goals clear kxs)
      all_goals first | (exfalso; omega) | exact RetQ.fr 0 | exact RetQ.fn 0 | (exfalso; simp_all; done)
    rw [if_neg (fun h => h b1)] at hR
    by_cases b2 : 256 < slots.length
    · rw [if_pos b2] at hR
      subst hR
      focus (have kxs := kx0; (repeat' (first | (refine ADr.nil ?_; try clear hgv) | refine GO ?_ | refine AW.ret ?_ | (refine GC ?_ ?_ <;> intro h <;> (try simp only [hsB] at h) <;> try exact xf) | (refine GD ?_ ?_ <;> intro h <;> (try intro hgv) <;> (try simp only [hsN] at h) <;> (try simp only [h]) <;> (try simp only [hsB] at h) <;> try exact xf) | (refine GL ?_ ?_ <;> intro h <;> (try simp only [hsN] at h) <;> (try simp only [h]) <;> (try simp only [hsB] at h) <;> try exact xf) | fail)); all_goals clear kxs)
      all_goals first | (exfalso; omega) | exact RetQ.fr 0 | exact RetQ.fn 0 | (exfalso; simp_all; done)
    rw [if_neg b2] at hR
    by_cases b3 : slots.length = 0
    · rw [if_pos b3] at hR
      subst hR
      focus (have kxs := kx0; (repeat' (first | (refine ADr.nil ?_; try clear hgv) | refine GO ?_ | refine AW.ret ?_ | (refine GC ?_ ?_ <;> intro h <;> (try simp only [hsB] at h) <;> try exact xf) | (refine GD ?_ ?_ <;> intro h <;> (try intro hgv) <;> (try simp only [hsN] at h) <;> (try simp only [h]) <;> (try simp only [hsB] at h) <;> try exact xf) | (refine GL ?_ ?_ <;> intro h <;> (try simp only [hsN] at h) <;> (try simp only [h]) <;> (try simp only [hsB] at h) <;> try exact xf) | fail)); all_goals clear kxs)
      all_goals first | (exfalso; omega) | exact RetQ.fr 0 | exact RetQ.fn 0 | (exfalso; simp_all; done)
    rw [if_neg b3] at hR
    focus (have kxs := kx0; (repeat' (first | (refine ADr.nil ?_; try clear hgv) | refine GO ?_ | refine AW.ret ?_ | (refine GC ?_ ?_ <;> intro h <;> (try simp only [hsB] at h) <;> try exact xf) | (refine GD ?_ ?_ <;> intro h <;> (try intro hgv) <;> (try simp only [hsN] at h) <;> (try simp only [h]) <;> (try simp only [hsB] at h) <;> try exact xf) | (refine GL ?_ ?_ <;> intro h <;> (try simp only [hsN] at h) <;> (try simp only [h]) <;> (try simp only [hsB] at h) <;> try exact xf) | fail)); all_goals clear kxs)
    all_goals first | (exfalso; omega) | (exfalso; simp_all; done) | skip
    refine AW.rounds [1, 2, 5] (fun i : Nat => [(1, .p 0 0), (2, iv .i64 0), (5, iv .i64 i)]) (fun _ => [.box 35 [sv (bs pre), bv false, .d (.l slots.length (slsD slots)), .d (.l items.length (itsD items))]])
      (fun i => i ≤ slots.length ∧ ((i = 0 ∧ slcheck none slots = R) ∨ (0 < i ∧ ∃ y r, slots.drop (i - 1) = y :: r ∧ slcheck (some y.1) (slots.drop i) = R))) (fun i => slots.length - i) 0 ⟨Nat.zero_le _, .inl ⟨rfl, hR⟩⟩ rfl rfl (fun _ _ => Nat.zero_le _) (fun _ _ => rfl) (fun _ _ => rfl) ?_
    clear hR
    rintro k ⟨hk, hr⟩ J hJ
    by_cases hkl : k < slots.length
    case neg =>
      have hR0 : R = 0 := by
        have hdn : slots.drop k = [] := List.drop_eq_nil_of_le (by omega)
        rcases hr with ⟨rfl, hr⟩ | ⟨_, y, r, _, hr⟩
        · exfalso; omega
        · rw [hdn] at hr; exact hr.symm
      rw [hR0]
      focus (have kxs := kx0; (repeat' (first | (refine ADr.nil ?_; try clear hgv) | refine GO ?_ | refine AW.ret ?_ | (refine GC ?_ ?_ <;> intro h <;> (try simp only [hsB] at h) <;> try exact xf) | (refine GD ?_ ?_ <;> intro h <;> (try intro hgv) <;> (try simp only [hsN] at h) <;> (try simp only [h]) <;> (try simp only [hsB] at h) <;> try exact xf) | (refine GL ?_ ?_ <;> intro h <;> (try simp only [hsN] at h) <;> (try simp only [h]) <;> (try simp only [hsB] at h) <;> try exact xf) | fail)); all_goals clear kxs)
      all_goals first | exact RetQ.fr 0 | exact RetQ.fn 0 | (exfalso; omega) | (exfalso; simp_all; done)
    obtain ⟨x, r, hd⟩ := next_at hkl
    have hcd := sls_drop hd
    obtain ⟨g1, g2⟩ := f3 x (next_mem hd)
    have hnd := next_drop hd
    have go : slcheck (some x.1) r = R → ∀ T' σ', keepT T' [1, 2, 5] = [(1, .p 0 0), (2, iv .i64 0), (5, iv .i64 ((k : Int) + 1))] → σ'.take 1 = [.box 35 [sv (bs pre), bv false, .d (.l slots.length (slsD slots)), .d (.l items.length (itsD items))]] → J T' σ' := fun h T' σ' q1 q2 =>
      hJ (k + 1) T' σ' (by omega) ⟨hkl, .inr ⟨by omega, x, r, by simpa using hd, by rw [hnd]; exact h⟩⟩ q1 q2
    clear hJ
    rcases hr with ⟨rfl, hr⟩ | ⟨hk0, y, r', hp, hr⟩
    · have hd0 : slots = x :: r := hd
      rw [hd0] at hr
      obtain ⟨_, hs⟩ := slcheck_step hr
      obtain ⟨hs1, hs2⟩ := hs rfl
      clear hr hd0 hs
      by_cases b : x.2.length = 32
      · have go := go (hs2 b)
        focus (have kxs := hcd; (repeat' (first | (refine ADr.nil ?_; try clear hgv) | refine GO ?_ | refine AW.ret ?_ | (refine GC ?_ ?_ <;> intro h <;> (try simp only [hsB] at h) <;> try exact xf) | (refine GD ?_ ?_ <;> intro h <;> (try intro hgv) <;> (try simp only [hsN] at h) <;> (try simp only [h]) <;> (try simp only [hsB] at h) <;> try exact xf) | (refine GL ?_ ?_ <;> intro h <;> (try simp only [hsN] at h) <;> (try simp only [h]) <;> (try simp only [hsB] at h) <;> try exact xf) | fail)); all_goals clear kxs)
        all_goals first | exact go _ _ rfl rfl | (exfalso; omega) | (exfalso; simp_all; done)
      · obtain rfl := hs1 b
        focus (have kxs := hcd; (repeat' (first | (refine ADr.nil ?_; try clear hgv) | refine GO ?_ | refine AW.ret ?_ | (refine GC ?_ ?_ <;> intro h <;> (try simp only [hsB] at h) <;> try exact xf) | (refine GD ?_ ?_ <;> intro h <;> (try intro hgv) <;> (try simp only [hsN] at h) <;> (try simp only [h]) <;> (try simp only [hsB] at h) <;> try exact xf) | (refine GL ?_ ?_ <;> intro h <;> (try simp only [hsN] at h) <;> (try simp only [h]) <;> (try simp only [hsB] at h) <;> try exact xf) | fail)); all_goals clear kxs)
        all_goals first | exact RetQ.fr 0 | exact RetQ.fn 0 | (exfalso; omega) | (exfalso; simp_all; done)
    · have hcp := sls_drop hp
      have hk1 : ((k : Int) - 1).toNat = k - 1 := by omega
      obtain ⟨g3, g4⟩ := f3 y (next_mem hp)
      rw [hd] at hr
      obtain ⟨hs0, hs⟩ := slcheck_step hr
      clear hr
      by_cases c0 : y.1 < x.1
      case neg =>
        obtain rfl := hs0 (decide_eq_false c0)
        focus (have kxs := And.intro hcd (And.intro hcp hk1); (repeat' (first | (refine ADr.nil ?_; try clear hgv) | refine GO ?_ | refine AW.ret ?_ | (refine GC ?_ ?_ <;> intro h <;> (try simp only [hsB] at h) <;> try exact xf) | (refine GD ?_ ?_ <;> intro h <;> (try intro hgv) <;> (try simp only [hsN] at h) <;> (try simp only [h]) <;> (try simp only [hsB] at h) <;> try exact xf) | (refine GL ?_ ?_ <;> intro h <;> (try simp only [hsN] at h) <;> (try simp only [h]) <;> (try simp only [hsB] at h) <;> try exact xf) | fail)); all_goals clear kxs)
        all_goals first | exact RetQ.fr 0 | exact RetQ.fn 0 | (exfalso; omega) | (exfalso; simp_all; done)
      obtain ⟨hs1, hs2⟩ := hs (decide_eq_true c0)
      by_cases b : x.2.length = 32
      · have go := go (hs2 b)
        focus (have kxs := And.intro hcd (And.intro hcp hk1); (repeat' (first | (refine ADr.nil ?_; try clear hgv) | refine GO ?_ | refine AW.ret ?_ | (refine GC ?_ ?_ <;> intro h <;> (try simp only [hsB] at h) <;> try exact xf) | (refine GD ?_ ?_ <;> intro h <;> (try intro hgv) <;> (try simp only [hsN] at h) <;> (try simp only [h]) <;> (try simp only [hsB] at h) <;> try exact xf) | (refine GL ?_ ?_ <;> intro h <;> (try simp only [hsN] at h) <;> (try simp only [h]) <;> (try simp only [hsB] at h) <;> try exact xf) | fail)); all_goals clear kxs)
        all_goals first | exact go _ _ rfl rfl | (exfalso; omega) | (exfalso; simp_all; done)
      · obtain rfl := hs1 b
        focus (have kxs := And.intro hcd (And.intro hcp hk1); (repeat' (first | (refine ADr.nil ?_; try clear hgv) | refine GO ?_ | refine AW.ret ?_ | (refine GC ?_ ?_ <;> intro h <;> (try simp only [hsB] at h) <;> try exact xf) | (refine GD ?_ ?_ <;> intro h <;> (try intro hgv) <;> (try simp only [hsN] at h) <;> (try simp only [h]) <;> (try simp only [hsB] at h) <;> try exact xf) | (refine GL ?_ ?_ <;> intro h <;> (try simp only [hsN] at h) <;> (try simp only [h]) <;> (try simp only [hsB] at h) <;> try exact xf) | fail)); all_goals clear kxs)
        all_goals first | exact RetQ.fr 0 | exact RetQ.fn 0 | (exfalso; omega) | (exfalso; simp_all; done)
end Go.AW
