/-
  vectors that are read: the document's.
-/
import Derived.Test.YtbjdiepceokmkaaGreatVec2
namespace Go.AW
open Go Go.Proofs
set_option maxHeartbeats 2000000
set_option maxRecDepth 10000
set_option linter.unusedSimpArgs false
set_option linter.unusedVariables false
attribute [local irreducible] thenQ blockQ RetQ AL AW AC AOp

theorem Cu.fail_ok0 {c : Cu} (h : c.e = 0) (f : Int) : c.fail f = ⟨c.s, c.a, f⟩ := by unfold Cu.fail; rw [if_pos h]

theorem ref11_Take (s : List UInt8) (a : Nat) (e : Int) (h : Cu.Ok ⟨s, a, e⟩) : AC Tryz.prog 64 [.p 0 0] [Cu.ro ⟨s, a, e⟩] fun x σ => x = .d (.l (Cu.vec ⟨s, a, e⟩).1.length (vecD (Cu.vec ⟨s, a, e⟩).1)) ∧ σ = [Cu.ro (Cu.vec ⟨s, a, e⟩).2] := by
  refine AC.walk Tryz.func64 rfl (by decide) (of_decide_eq_true rfl) ?_
  have hlt : (Cu.count ⟨s, a, e⟩ 64).1 ≤ 64 := Cu.count_max ⟨s, a, e⟩ 64
  have hok0 := Cu.count_ok (max := 64) h
  have hvec : Cu.vec ⟨s, a, e⟩ = (if ((Cu.count ⟨s, a, e⟩ 64).2.ents (Cu.count ⟨s, a, e⟩ 64).1 []).2.e ≠ 0 then [] else ((Cu.count ⟨s, a, e⟩ 64).2.ents (Cu.count ⟨s, a, e⟩ 64).1 []).1, ((Cu.count ⟨s, a, e⟩ 64).2.ents (Cu.count ⟨s, a, e⟩ 64).1 []).2) := rfl
  rw [hvec]
  have hze : (Cu.count ⟨s, a, e⟩ 64).2.e = 0 ∨ (Cu.count ⟨s, a, e⟩ 64).1 = 0 := by
    unfold Cu.count
    by_cases h1 : (Cu.vtake ⟨s, a, e⟩).2.e = 0
    · rw [if_neg (by simpa using h1)]
      split
      · exact .inr rfl
      · exact .inl h1
    · rw [if_pos h1]; exact .inr rfl
  generalize hz : Cu.count ⟨s, a, e⟩ 64 = z at *
  obtain ⟨n, c0⟩ := z
  simp only at hlt hok0 hze ⊢
  clear hvec
  focus (have kxs := hz; have kk1 := uN [0] (ref06_Count s a e 64 h (by decide)); (repeat' (first | refine G ?_ | refine AW.ret ?_ | (refine GC ?_ ?_ <;> intro h <;> (try simp only [hsB] at h) <;> try (exfalso; first | omega | contradiction)) | (refine GL ?_ ?_ <;> intro h <;> (try simp only [Bool.not_true, Bool.not_false] at h) <;> (try simp only [h]) <;> (try simp only [hsB] at h) <;> try (exfalso; first | omega | contradiction)) | fail)); all_goals clear kxs kk1)
  refine AW.birth 49 2 [4] [] ?_
  refine AW.rounds [0, 2, 3, 4, 5] (fun x : Vec × List UInt8 × Cu => [(0, .p 0 0), (2, .d (.s (.slice none 0 0))), (3, iv .i64 n), (4, .o 1 x.1.length), (5, iv .i64 x.1.length)]) (fun x => [Cu.ro x.2.2, .row 49 2 x.1.length (vecD x.1)])
    (fun x => x.2.2.Ok ∧ (x.2.2.e = 0 ∨ n = 0) ∧ Vec.last x.1 x.2.1 ∧ Vfam n [] c0 x.1 x.2.1 x.2.2) (fun x => n - x.1.length) ([], [], c0) ⟨hok0, hze, .inl ⟨rfl, rfl⟩, Fam.start n [] c0⟩ rfl rfl (fun _ _ => Nat.le_of_ble_eq_true rfl) (fun _ _ => rfl) (fun _ _ => rfl) ?_
  rintro ⟨out, p, c⟩ ⟨hok, hcn, hlast, hf⟩ J hJ
  simp only at hok hcn hlast hf ⊢
  have hst : ∀ (k : List UInt8) (c : Cu), c.e ≠ 0 → (Cu.ent k c).2 = c := fun k c h => (trip_ent k).stuck c h
  by_cases hlen : out.length < n
  case neg =>
    by_cases hce : c.e = 0
    · have hb2 : Cu.ents n [] c0 = (out, c) := Fam.done hf hce hlen
      rw [hb2]
      simp only
      rw [if_neg (by simpa using hce)]
      focus (have kxs : 987654321 = 987654320 + 1 := rfl; (repeat' (first | refine G ?_ | refine AW.ret ?_ | (refine GC ?_ ?_ <;> intro h <;> (try simp only [hsB] at h) <;> try (exfalso; first | omega | contradiction)) | (refine GL ?_ ?_ <;> intro h <;> (try simp only [Bool.not_true, Bool.not_false] at h) <;> (try simp only [h]) <;> (try simp only [hsB] at h) <;> try (exfalso; first | omega | contradiction)) | fail)); all_goals clear kxs)
      all_goals first | ((all_goals first | exact RetQ.fr 1 | exact RetQ.fn 1 | fail); done) | (exfalso; simp_all; done)
    · have hb2 : (Cu.ents n [] c0).2 = c := Fam.bad hst hf hce
      have hfl := hf.1
      have hn0 : out.length = 0 := by omega
      have ho : out = [] := List.length_eq_zero_iff.1 hn0
      subst ho
      rw [hb2, if_pos hce]
      focus (have kxs : 987654321 = 987654320 + 1 := rfl; (repeat' (first | refine G ?_ | refine AW.ret ?_ | (refine GC ?_ ?_ <;> intro h <;> (try simp only [hsB] at h) <;> try (exfalso; first | omega | contradiction)) | (refine GL ?_ ?_ <;> intro h <;> (try simp only [Bool.not_true, Bool.not_false] at h) <;> (try simp only [h]) <;> (try simp only [hsB] at h) <;> try (exfalso; first | omega | contradiction)) | fail)); all_goals clear kxs)
      all_goals first | ((all_goals first | exact RetQ.fr 1 | exact RetQ.fn 1 | fail); done) | (exfalso; simp_all; done)
  have hce : c.e = 0 := by omega
  have hstep := Fam.step hf hce hlen
  have hbok := Cu.blob_ok (max := 32) hok
  have hlim := Cu.blob_lim c 32
  have hent : Cu.ent p c = (((c.blob 32).1, ((gd (lessB p (c.blob 32).1) 6 (gd (decide ((c.blob 32).1 ≠ [])) 14 (c.blob 32).2))).vnz.1), (gd (lessB p (c.blob 32).1) 6 (gd (decide ((c.blob 32).1 ≠ [])) 14 (c.blob 32).2)).vnz.2) := rfl
  generalize hb0 : c.blob 32 = y at *
  obtain ⟨t, c1⟩ := y
  have hb : Cu.blob ⟨c.s, c.a, c.e⟩ 32 = (t, c1) := hb0
  simp only at hlim hbok hent
  -- an error: no more is read
  have bad : ∀ c3 : Cu, (Cu.ent p c).2 = c3 → c3.e ≠ 0 → (Cu.ents n [] c0).2 = c3 := fun c3 h3 he => by
    rw [h3] at hstep
    exact Fam.bad hst hstep he
  have vbad : ∀ q : Cu, q.e ≠ 0 → q.vnz.2 = q := fun q hq => trip_vnz.stuck q hq
  by_cases h1 : c1.e = 0
  case neg =>
    have hb2 := bad c1 (by rw [hent, gd_stuck h1, gd_stuck h1]; exact vbad c1 h1) h1
    rw [hb2, if_pos h1]
    focus (have kxs := hb; have kk1 := uN [0] (ref06_Take c.s c.a c.e 32 hok (by decide)); (repeat' (first | refine G ?_ | refine AW.ret ?_ | (refine GC ?_ ?_ <;> intro h <;> (try simp only [hsB] at h) <;> try (exfalso; first | omega | contradiction)) | (refine GL ?_ ?_ <;> intro h <;> (try simp only [Bool.not_true, Bool.not_false] at h) <;> (try simp only [h]) <;> (try simp only [hsB] at h) <;> try (exfalso; first | omega | contradiction)) | fail)); all_goals clear kxs kk1)
    all_goals first | ((all_goals first | exact RetQ.fr 1 | exact RetQ.fn 1 | fail); done) | (exfalso; simp_all; done)
  by_cases h2 : t = []
  · subst h2
    have hb2 := bad (c1.fail 14) (by rw [hent, gd_name_empty]; exact vbad _ (Cu.fail_e (by decide))) (Cu.fail_e (by decide))
    rw [hb2, if_pos (Cu.fail_e (by decide)), Cu.fail_ok0 h1]
    focus (have kxs := hb; have kk1 := uN [0] (ref06_Take c.s c.a c.e 32 hok (by decide)); (repeat' (first | refine G ?_ | refine AW.ret ?_ | (refine GC ?_ ?_ <;> intro h <;> (try simp only [hsB] at h) <;> try (exfalso; first | omega | contradiction)) | (refine GL ?_ ?_ <;> intro h <;> (try simp only [Bool.not_true, Bool.not_false] at h) <;> (try simp only [h]) <;> (try simp only [hsB] at h) <;> try (exfalso; first | omega | contradiction)) | fail)); all_goals clear kxs kk1)
    all_goals first | ((all_goals first | exact RetQ.fr 1 | exact RetQ.fn 1 | fail); done) | (exfalso; simp_all; done)
  have htl : t.length ≤ 32 := by simpa using hlim h1
  have ht0 : 0 < t.length := List.length_pos_iff.2 h2
  -- behind a name that is right
  have good : gd (lessB p t) 6 (gd (decide (t ≠ [])) 14 c1) = c1 → ∀ (m : Nat) (c2 : Cu), Cu.vtake c1 = (m, c2) →
      (c2.e ≠ 0 → (Cu.ents n [] c0).2 = c2) ∧ (c2.e = 0 → m = 0 → (Cu.ents n [] c0).2 = c2.fail 7) ∧
      (c2.e = 0 → m ≠ 0 → ∀ T' σ', keepT T' [0, 2, 3, 4, 5] = [(0, .p 0 0), (2, .d (.s (.slice none 0 0))), (3, iv .i64 n), (4, .o 1 (out.length + 1)), (5, iv .i64 ((out.length : Int) + 1))] → σ'.take 2 = [Cu.ro c2, .row 49 2 (out.length + 1) (vecD out ++ [.s (.string ⟨t.toArray⟩), .s (.int .u64 m)])] → J T' σ') := by
    intro hg m c2 hv
    rw [hg] at hent
    have hv1 : c1.vnz = (m, gd (decide (m ≠ 0)) 7 c2) := by unfold Cu.vnz; rw [hv]
    rw [hv1] at hent
    have hok2 : c2.Ok := by have := Cu.vtake_ok hbok; rw [hv] at this; exact this
    refine ⟨fun h0 => bad c2 (by rw [hent]; exact gd_stuck h0 _ _) h0, fun h0 hm => bad (c2.fail 7) (by rw [hent, hm]; rfl) (Cu.fail_e (by decide)), fun h0 hm T' σ' g1 g2 => ?_⟩
    have hd : decide (m ≠ 0) = true := by simpa using hm
    have hent2 : Cu.ent p c = ((t, m), c2) := by rw [hent, hd]; rfl
    rw [hent2] at hstep
    have hl : (out ++ [(t, m)]).length = out.length + 1 := by simp
    exact hJ (out ++ [(t, m)], t, c2) T' σ' (by simp only [hl]; omega) ⟨hok2, .inl h0, Vec.last_snoc out t m htl, hstep⟩ (by simp only [hl]; exact g1) (by rw [vec_snoc] at g2; simp only [hl]; exact g2)
  have h10 : t.length ≠ 0 := by omega
  have hbok' : Cu.Ok ⟨c1.s, c1.a, c1.e⟩ := hbok
  rcases hlast with ⟨rfl, rfl⟩ | ⟨hlo, hpl, pn, pr, hpd⟩
  · have hl0 : lessB [] t = true := by
      cases hx : t with
      | nil => exact absurd hx h2
      | cons b u => exact less_nil_cons b u
    have good := good (gd_name_ok h2 hl0)
    generalize hv : c1.vtake = w at *
    obtain ⟨m, c2⟩ := w
    have hv' : Cu.vtake ⟨c1.s, c1.a, c1.e⟩ = (m, c2) := hv
    obtain ⟨g1, g2, g3⟩ := good m c2 rfl
    by_cases h5 : c2.e = 0
    case neg =>
      rw [g1 h5, if_pos h5]
      focus (have kxs := And.intro hb hv'; have kk1 := uN [0] (ref06_Take c.s c.a c.e 32 hok (by decide)); have kk2 := uN [0] (ref03_Take c1.s c1.a c1.e hbok'); (repeat' (first | refine G ?_ | refine AW.ret ?_ | (refine GC ?_ ?_ <;> intro h <;> (try simp only [hsB] at h) <;> try (exfalso; first | omega | contradiction)) | (refine GL ?_ ?_ <;> intro h <;> (try simp only [Bool.not_true, Bool.not_false] at h) <;> (try simp only [h]) <;> (try simp only [hsB] at h) <;> try (exfalso; first | omega | contradiction)) | fail)); all_goals clear kxs kk1 kk2)
      all_goals first | ((all_goals first | exact RetQ.fr 1 | exact RetQ.fn 1 | fail); done) | (exfalso; simp_all; done)
    by_cases h6 : m = 0
    · rw [g2 h5 h6, if_pos (Cu.fail_e (by decide)), Cu.fail_ok0 h5]
      focus (have kxs := And.intro hb hv'; have kk1 := uN [0] (ref06_Take c.s c.a c.e 32 hok (by decide)); have kk2 := uN [0] (ref03_Take c1.s c1.a c1.e hbok'); (repeat' (first | refine G ?_ | refine AW.ret ?_ | (refine GC ?_ ?_ <;> intro h <;> (try simp only [hsB] at h) <;> try (exfalso; first | omega | contradiction)) | (refine GL ?_ ?_ <;> intro h <;> (try simp only [Bool.not_true, Bool.not_false] at h) <;> (try simp only [h]) <;> (try simp only [hsB] at h) <;> try (exfalso; first | omega | contradiction)) | fail)); all_goals clear kxs kk1 kk2)
      all_goals first | ((all_goals first | exact RetQ.fr 1 | exact RetQ.fn 1 | fail); done) | (exfalso; simp_all; done)
    · have g3 := g3 h5 h6
      focus (have kxs := And.intro hb hv'; have kk1 := uN [0] (ref06_Take c.s c.a c.e 32 hok (by decide)); have kk2 := uN [0] (ref03_Take c1.s c1.a c1.e hbok'); (repeat' (first | refine G ?_ | refine AW.ret ?_ | (refine GC ?_ ?_ <;> intro h <;> (try simp only [hsB] at h) <;> try (exfalso; first | omega | contradiction)) | (refine GL ?_ ?_ <;> intro h <;> (try simp only [Bool.not_true, Bool.not_false] at h) <;> (try simp only [h]) <;> (try simp only [hsB] at h) <;> try (exfalso; first | omega | contradiction)) | fail)); all_goals clear kxs kk1 kk2)
      all_goals first | exact g3 _ _ rfl rfl | (exfalso; simp_all; done)
  have hcd := vec_drop hpd
  have hi1 : ((out.length : Int) - 1).toNat = out.length - 1 := by omega
  by_cases h3 : lessB p t = true
  · have h3' : Op.bytesLess p t = true := h3
    have good := good (gd_name_ok h2 h3)
    generalize hv : c1.vtake = w at *
    obtain ⟨m, c2⟩ := w
    have hv' : Cu.vtake ⟨c1.s, c1.a, c1.e⟩ = (m, c2) := hv
    obtain ⟨g1, g2, g3⟩ := good m c2 rfl
    by_cases h5 : c2.e = 0
    case neg =>
      rw [g1 h5, if_pos h5]
      focus (have kxs := And.intro hb (And.intro hv' (And.intro hcd (And.intro hi1 h3'))); have kk1 := uN [0] (ref06_Take c.s c.a c.e 32 hok (by decide)); have kk2 := uN [] (ref06_Below p t (by omega) (by omega)); have kk3 := uN [0] (ref03_Take c1.s c1.a c1.e hbok'); (repeat' (first | refine G ?_ | refine AW.ret ?_ | (refine GC ?_ ?_ <;> intro h <;> (try simp only [hsB] at h) <;> try (exfalso; first | omega | contradiction)) | (refine GL ?_ ?_ <;> intro h <;> (try simp only [Bool.not_true, Bool.not_false] at h) <;> (try simp only [h]) <;> (try simp only [hsB] at h) <;> try (exfalso; first | omega | contradiction)) | fail)); all_goals clear kxs kk1 kk2 kk3)
      all_goals first | ((all_goals first | exact RetQ.fr 1 | exact RetQ.fn 1 | fail); done) | (exfalso; simp_all; done)
    by_cases h6 : m = 0
    · rw [g2 h5 h6, if_pos (Cu.fail_e (by decide)), Cu.fail_ok0 h5]
      focus (have kxs := And.intro hb (And.intro hv' (And.intro hcd (And.intro hi1 h3'))); have kk1 := uN [0] (ref06_Take c.s c.a c.e 32 hok (by decide)); have kk2 := uN [] (ref06_Below p t (by omega) (by omega)); have kk3 := uN [0] (ref03_Take c1.s c1.a c1.e hbok'); (repeat' (first | refine G ?_ | refine AW.ret ?_ | (refine GC ?_ ?_ <;> intro h <;> (try simp only [hsB] at h) <;> try (exfalso; first | omega | contradiction)) | (refine GL ?_ ?_ <;> intro h <;> (try simp only [Bool.not_true, Bool.not_false] at h) <;> (try simp only [h]) <;> (try simp only [hsB] at h) <;> try (exfalso; first | omega | contradiction)) | fail)); all_goals clear kxs kk1 kk2 kk3)
      all_goals first | ((all_goals first | exact RetQ.fr 1 | exact RetQ.fn 1 | fail); done) | (exfalso; simp_all; done)
    · have g3 := g3 h5 h6
      focus (have kxs := And.intro hb (And.intro hv' (And.intro hcd (And.intro hi1 h3'))); have kk1 := uN [0] (ref06_Take c.s c.a c.e 32 hok (by decide)); have kk2 := uN [] (ref06_Below p t (by omega) (by omega)); have kk3 := uN [0] (ref03_Take c1.s c1.a c1.e hbok'); (repeat' (first | refine G ?_ | refine AW.ret ?_ | (refine GC ?_ ?_ <;> intro h <;> (try simp only [hsB] at h) <;> try (exfalso; first | omega | contradiction)) | (refine GL ?_ ?_ <;> intro h <;> (try simp only [Bool.not_true, Bool.not_false] at h) <;> (try simp only [h]) <;> (try simp only [hsB] at h) <;> try (exfalso; first | omega | contradiction)) | fail)); all_goals clear kxs kk1 kk2 kk3)
      all_goals first | exact g3 _ _ rfl rfl | (exfalso; simp_all; done)
  · have h3' : Op.bytesLess p t = false := by simpa using h3
    have hb2 := bad (c1.fail 6) (by rw [hent, gd_name_order h2 h3']; exact vbad _ (Cu.fail_e (by decide))) (Cu.fail_e (by decide))
    rw [hb2, if_pos (Cu.fail_e (by decide)), Cu.fail_ok0 h1]
    focus (have kxs := And.intro hb (And.intro hcd (And.intro hi1 h3')); have kk1 := uN [0] (ref06_Take c.s c.a c.e 32 hok (by decide)); have kk2 := uN [] (ref06_Below p t (by omega) (by omega)); (repeat' (first | refine G ?_ | refine AW.ret ?_ | (refine GC ?_ ?_ <;> intro h <;> (try simp only [hsB] at h) <;> try (exfalso; first | omega | contradiction)) | (refine GL ?_ ?_ <;> intro h <;> (try simp only [Bool.not_true, Bool.not_false] at h) <;> (try simp only [h]) <;> (try simp only [hsB] at h) <;> try (exfalso; first | omega | contradiction)) | fail)); all_goals clear kxs kk1 kk2)
    all_goals first | ((all_goals first | exact RetQ.fr 1 | exact RetQ.fn 1 | fail); done) | (exfalso; simp_all; done)
end Go.AW
