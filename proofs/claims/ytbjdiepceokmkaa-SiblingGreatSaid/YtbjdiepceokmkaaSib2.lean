/-
  metadata that is read: the program's and the document's.
-/
import Derived.Test.YtbjdiepceokmkaaSib1
namespace Go.AW
open Go Go.Proofs
set_option maxHeartbeats 2000000
set_option maxRecDepth 10000
set_option linter.unusedSimpArgs false
set_option linter.unusedVariables false
attribute [local irreducible] thenQ blockQ RetQ AL AW AC AOp

abbrev Pfam := Fam Cu.pair (fun (_ : List UInt8) (x : Pr) => x.1)
/-- The name ahead, of a list that is being read. -/
def Prs.last (v : Prs) (p : List UInt8) : Prop := (v = [] ∧ p = []) ∨ (0 < v.length ∧ p.length ≤ 32 ∧ ∃ n r, v.drop (v.length - 1) = (p, n) :: r)
theorem Prs.last_snoc (v : Prs) (a : List UInt8) (m : List UInt8) (ha : a.length ≤ 32) : (v ++ [(a, m)] : Prs).last a :=
  .inr ⟨by simp, ha, m, [], by simp⟩
theorem prs_snoc (v : Prs) (a m : List UInt8) : prsD v ++ [.s (.string ⟨a.toArray⟩), .s (.string ⟨m.toArray⟩)] = prsD (v ++ [(a, m)]) := by
  rw [prsD, prsD, List.map_append, List.flatten_append]; rfl

theorem pairs_Take (s : List UInt8) (a : Nat) (e : Int) (h : Cu.Ok ⟨s, a, e⟩) : AC Try.prog 99 [.p 0 0] [Cu.ob ⟨s, a, e⟩] fun x σ => x = .d (.l (Cu.prs ⟨s, a, e⟩).1.length (prsD (Cu.prs ⟨s, a, e⟩).1)) ∧ σ = [Cu.ob (Cu.prs ⟨s, a, e⟩).2] := by
  refine AC.walk Try.func99 rfl (by decide) (of_decide_eq_true rfl) ?_
  have hlt : (Cu.count ⟨s, a, e⟩ 8).1 ≤ 8 := Cu.count_max ⟨s, a, e⟩ 8
  have hok0 := Cu.count_ok (max := 8) h
  have hvec : Cu.prs ⟨s, a, e⟩ = (if ((Cu.count ⟨s, a, e⟩ 8).2.pairs (Cu.count ⟨s, a, e⟩ 8).1 []).2.e ≠ 0 then [] else ((Cu.count ⟨s, a, e⟩ 8).2.pairs (Cu.count ⟨s, a, e⟩ 8).1 []).1, ((Cu.count ⟨s, a, e⟩ 8).2.pairs (Cu.count ⟨s, a, e⟩ 8).1 []).2) := rfl
  rw [hvec]
  generalize hz : Cu.count ⟨s, a, e⟩ 8 = z at *
  obtain ⟨n, c0⟩ := z
  simp only at hlt hok0 ⊢
  clear hvec
  focus (have kxs := hz; have kk1 := uN [0] (blob_Count s a e 8 h (by decide)); (repeat' (first | refine G ?_ | refine AW.ret ?_ | (refine GC ?_ ?_ <;> intro h <;> (try simp only [hsB] at h) <;> try (exfalso; first | omega | contradiction)) | (refine GL ?_ ?_ <;> intro h <;> (try simp only [Bool.not_true, Bool.not_false] at h) <;> (try simp only [h]) <;> (try simp only [hsB] at h) <;> try (exfalso; first | omega | contradiction)) | fail)); all_goals clear kxs kk1)
  refine AW.birth 35 2 [4] [] ?_
  refine AW.rounds [0, 2, 3, 4] (fun x : Prs × List UInt8 × Cu => [(0, .p 0 0), (2, .d (.s (.slice none 0 0))), (3, iv .i64 n), (4, .o 1 x.1.length)]) (fun x => [Cu.ob x.2.2, .row 35 2 x.1.length (prsD x.1)])
    (fun x => x.2.2.Ok ∧ (x.2.2.e = 0 → Prs.last x.1 x.2.1) ∧ Pfam n [] c0 x.1 x.2.1 x.2.2) (fun x => n - x.1.length) ([], [], c0) ⟨hok0, fun _ => .inl ⟨rfl, rfl⟩, Fam.start n [] c0⟩ rfl rfl (fun _ _ => Nat.le_of_ble_eq_true rfl) (fun _ _ => rfl) (fun _ _ => rfl) ?_
  rintro ⟨out, p, c⟩ ⟨hok, hlast, hf⟩ J hJ
  simp only at hok hlast hf ⊢
  by_cases hce : c.e = 0
  case neg =>
    have hbad := Fam.bad (fun k c h => (trip_pair k).stuck c h) hf hce
    have hb2 : (Cu.pairs n [] c0).2 = c := hbad
    rw [hb2, if_pos hce]
    focus (have kxs : 987654321 = 987654320 + 1 := rfl; have kk1 := uN [0] (cursor_Err c.s c.a c.e); (repeat' (first | refine G ?_ | refine AW.ret ?_ | (refine GC ?_ ?_ <;> intro h <;> (try simp only [hsB] at h) <;> try (exfalso; first | omega | contradiction)) | (refine GL ?_ ?_ <;> intro h <;> (try simp only [Bool.not_true, Bool.not_false] at h) <;> (try simp only [h]) <;> (try simp only [hsB] at h) <;> try (exfalso; first | omega | contradiction)) | fail)); all_goals clear kxs kk1)
    all_goals first | ((all_goals first | exact RetQ.fr 1 | exact RetQ.fn 1 | fail); done) | (exfalso; simp_all; done)
  by_cases hlen : out.length < n
  case neg =>
    have hdone := Fam.done hf hce hlen
    have hb2 : Cu.pairs n [] c0 = (out, c) := hdone
    rw [hb2]
    simp only
    rw [if_neg (by simpa using hce)]
    focus (have kxs : 987654321 = 987654320 + 1 := rfl; have kk1 := uN [0] (cursor_Err c.s c.a c.e); (repeat' (first | refine G ?_ | refine AW.ret ?_ | (refine GC ?_ ?_ <;> intro h <;> (try simp only [hsB] at h) <;> try (exfalso; first | omega | contradiction)) | (refine GL ?_ ?_ <;> intro h <;> (try simp only [Bool.not_true, Bool.not_false] at h) <;> (try simp only [h]) <;> (try simp only [hsB] at h) <;> try (exfalso; first | omega | contradiction)) | fail)); all_goals clear kxs kk1)
    all_goals first | ((all_goals first | exact RetQ.fr 1 | exact RetQ.fn 1 | fail); done) | (exfalso; simp_all; done)
  have hstep := Fam.step hf hce hlen
  have hbok := Cu.blob_ok (max := 32) hok
  have hlim := Cu.blob_lim c 32
  have hent : Cu.pair p c = (((c.blob 32).1, ((gd (lessB p (c.blob 32).1) 6 (gd (decide ((c.blob 32).1 ≠ [])) 14 (c.blob 32).2)).blob 32768).1), ((gd (lessB p (c.blob 32).1) 6 (gd (decide ((c.blob 32).1 ≠ [])) 14 (c.blob 32).2)).blob 32768).2) := rfl
  generalize hb0 : c.blob 32 = y at *
  obtain ⟨t, c1⟩ := y
  have hb : Cu.blob ⟨c.s, c.a, c.e⟩ 32 = (t, c1) := hb0
  simp only at hlim hbok hent
  have hlast := hlast hce
  have hec1 : c1.e ≠ 0 → gd (lessB p t) 6 (gd (decide (t ≠ [])) 14 c1) = c1 := fun h => by rw [gd_stuck h, gd_stuck h]
  have key : ∀ q : Cu, gd (lessB p t) 6 (gd (decide (t ≠ [])) 14 c1) = q → q.Ok ∧ ∃ m c2, Cu.blob ⟨q.s, q.a, q.e⟩ 32768 = (m, c2) ∧
      ∀ T' σ', keepT T' [0, 2, 3, 4] = [(0, .p 0 0), (2, .d (.s (.slice none 0 0))), (3, iv .i64 n), (4, .o 1 (out.length + 1))] → σ'.take 2 = [Cu.ob c2, .row 35 2 (out.length + 1) (prsD out ++ [.s (.string ⟨t.toArray⟩), .s (.string ⟨m.toArray⟩)])] → J T' σ' := fun q hq => by
    rw [hq] at hent
    have hqok : q.Ok := by rw [← hq]; exact gd_ok (gd_ok hbok)
    have hqe : c1.e ≠ 0 → q.e ≠ 0 := fun h => by rw [← hq, hec1 h]; exact h
    have hok2 := Cu.blob_ok (max := 32768) hqok
    have hst := (trip_blob 32768).stuck q
    refine ⟨hqok, (q.blob 32768).1, (q.blob 32768).2, rfl, ?_⟩
    generalize hv : q.blob 32768 = w at *
    obtain ⟨m, c2⟩ := w
    simp only at hent hok2 hst ⊢
    rw [hent] at hstep
    have hl : (out ++ [(t, m)]).length = out.length + 1 := by simp
    intro T' σ' h1 h2
    refine hJ (out ++ [(t, m)], t, c2) T' σ' (by simp only [hl]; omega) ⟨hok2, fun h0 => Prs.last_snoc out t m ?_, hstep⟩ (by simp only [hl]; exact h1) (by rw [prs_snoc] at h2; simp only [hl]; exact h2)
    have e1 : c1.e = 0 := by
      apply Decidable.byContradiction
      intro hn
      have hq := hqe hn
      rw [hst hq] at h0
      exact hq h0
    have := hlim e1
    simpa using this
  clear hJ hstep hf hent
  have st14 : c1.e ≠ 0 → Cu.fail ⟨c1.s, c1.a, c1.e⟩ 14 = c1 := fun h => Cu.fail_stuck (c := c1) h 14
  have st6 : c1.e ≠ 0 → Cu.fail ⟨c1.s, c1.a, c1.e⟩ 6 = c1 := fun h => Cu.fail_stuck (c := c1) h 6
  rcases hlast with ⟨rfl, rfl⟩ | ⟨hlo, hpl, pn, pr, hpd⟩
  · by_cases h1 : c1.e = 0
    case neg =>
      obtain ⟨hqok, m, c2, hv, go⟩ := key c1 (hec1 h1)
      have st14 := st14 h1
      have st6 := st6 h1
      focus (have kxs := And.intro hb (And.intro hv (And.intro st14 st6)); have kk1 := uN [0] (blob_Take c.s c.a c.e 32 hok (by decide)); have kuc1 := fun za zb zc => uN [0] (cursor_Err za zb zc); have kk2 := uN [0] (blob_Take c1.s c1.a c1.e 32768 hqok (by decide)); have kua1 := fun za => uN [0] (cursor_Fail c1.s c1.a c1.e za); (repeat' (first | refine G ?_ | refine AW.ret ?_ | (refine GC ?_ ?_ <;> intro h <;> (try simp only [hsB] at h) <;> try (exfalso; first | omega | contradiction)) | (refine GL ?_ ?_ <;> intro h <;> (try simp only [Bool.not_true, Bool.not_false] at h) <;> (try simp only [h]) <;> (try simp only [hsB] at h) <;> try (exfalso; first | omega | contradiction)) | fail)); all_goals clear kxs kk1 kuc1 kk2 kua1)
      all_goals first | exact go _ _ rfl rfl | (exfalso; simp_all; done)
    by_cases h2 : t = []
    · subst h2
      obtain ⟨hqok, m, c2, hv, go⟩ := key (c1.fail 14) (gd_name_empty [] c1)
      focus (have kxs := And.intro hb hv; have kk1 := uN [0] (blob_Take c.s c.a c.e 32 hok (by decide)); have kuc1 := fun za zb zc => uN [0] (cursor_Err za zb zc); have kk2 := uN [0] (blob_Take (c1.fail 14).s (c1.fail 14).a (c1.fail 14).e 32768 hqok (by decide)); have kua1 := fun za => uN [0] (cursor_Fail c1.s c1.a c1.e za); (repeat' (first | refine G ?_ | refine AW.ret ?_ | (refine GC ?_ ?_ <;> intro h <;> (try simp only [hsB] at h) <;> try (exfalso; first | omega | contradiction)) | (refine GL ?_ ?_ <;> intro h <;> (try simp only [Bool.not_true, Bool.not_false] at h) <;> (try simp only [h]) <;> (try simp only [hsB] at h) <;> try (exfalso; first | omega | contradiction)) | fail)); all_goals clear kxs kk1 kuc1 kk2 kua1)
      all_goals first | exact go _ _ rfl rfl | (exfalso; simp_all; done)
    have hl0 : lessB [] t = true := by
      cases hx : t with
      | nil => exact absurd hx h2
      | cons b u => exact less_nil_cons b u
    obtain ⟨hqok, m, c2, hv, go⟩ := key c1 (gd_name_ok h2 hl0)
    focus (have kxs := And.intro hb hv; have kk1 := uN [0] (blob_Take c.s c.a c.e 32 hok (by decide)); have kuc1 := fun za zb zc => uN [0] (cursor_Err za zb zc); have kk2 := uN [0] (blob_Take c1.s c1.a c1.e 32768 hqok (by decide)); have kua1 := fun za => uN [0] (cursor_Fail c1.s c1.a c1.e za); (repeat' (first | refine G ?_ | refine AW.ret ?_ | (refine GC ?_ ?_ <;> intro h <;> (try simp only [hsB] at h) <;> try (exfalso; first | omega | contradiction)) | (refine GL ?_ ?_ <;> intro h <;> (try simp only [Bool.not_true, Bool.not_false] at h) <;> (try simp only [h]) <;> (try simp only [hsB] at h) <;> try (exfalso; first | omega | contradiction)) | fail)); all_goals clear kxs kk1 kuc1 kk2 kua1)
    all_goals first | exact go _ _ rfl rfl | (exfalso; simp_all; done)
  have hcd := prs_drop hpd
  have hi1 : ((out.length : Int) - 1).toNat = out.length - 1 := by omega
  have htri := less_tri t p
  by_cases h1 : c1.e = 0
  case neg =>
    obtain ⟨hqok, m, c2, hv, go⟩ := key c1 (hec1 h1)
    have st14 := st14 h1
    have st6 := st6 h1
    focus (have kxs := And.intro hb (And.intro hv (And.intro st14 (And.intro st6 (And.intro hcd (And.intro hi1 htri))))); have kk1 := uN [0] (blob_Take c.s c.a c.e 32 hok (by decide)); have kuc1 := fun za zb zc => uN [0] (cursor_Err za zb zc); have kk2 := uN [0] (blob_Take c1.s c1.a c1.e 32768 hqok (by decide)); have kua1 := fun za => uN [0] (cursor_Fail c1.s c1.a c1.e za); (repeat' (first | refine G ?_ | refine AW.ret ?_ | (refine GC ?_ ?_ <;> intro h <;> (try simp only [hsB] at h) <;> try (exfalso; first | omega | contradiction)) | (refine GL ?_ ?_ <;> intro h <;> (try simp only [Bool.not_true, Bool.not_false] at h) <;> (try simp only [h]) <;> (try simp only [hsB] at h) <;> try (exfalso; first | omega | contradiction)) | fail)); all_goals clear kxs kk1 kuc1 kk2 kua1)
    all_goals first | exact go _ _ rfl rfl | (exfalso; simp_all; done)
  by_cases h2 : t = []
  · subst h2
    obtain ⟨hqok, m, c2, hv, go⟩ := key (c1.fail 14) (gd_name_empty p c1)
    focus (have kxs := And.intro hb hv; have kk1 := uN [0] (blob_Take c.s c.a c.e 32 hok (by decide)); have kuc1 := fun za zb zc => uN [0] (cursor_Err za zb zc); have kk2 := uN [0] (blob_Take (c1.fail 14).s (c1.fail 14).a (c1.fail 14).e 32768 hqok (by decide)); have kua1 := fun za => uN [0] (cursor_Fail c1.s c1.a c1.e za); (repeat' (first | refine G ?_ | refine AW.ret ?_ | (refine GC ?_ ?_ <;> intro h <;> (try simp only [hsB] at h) <;> try (exfalso; first | omega | contradiction)) | (refine GL ?_ ?_ <;> intro h <;> (try simp only [Bool.not_true, Bool.not_false] at h) <;> (try simp only [h]) <;> (try simp only [hsB] at h) <;> try (exfalso; first | omega | contradiction)) | fail)); all_goals clear kxs kk1 kuc1 kk2 kua1)
    all_goals first | exact go _ _ rfl rfl | (exfalso; simp_all; done)
  by_cases h3 : lessB p t = true
  · have h3' : Op.bytesLess p t = true := h3
    obtain ⟨hqok, m, c2, hv, go⟩ := key c1 (gd_name_ok h2 h3)
    focus (have kxs := And.intro hb (And.intro hv (And.intro hcd (And.intro hi1 (And.intro htri h3')))); have kk1 := uN [0] (blob_Take c.s c.a c.e 32 hok (by decide)); have kuc1 := fun za zb zc => uN [0] (cursor_Err za zb zc); have kk2 := uN [0] (blob_Take c1.s c1.a c1.e 32768 hqok (by decide)); have kua1 := fun za => uN [0] (cursor_Fail c1.s c1.a c1.e za); (repeat' (first | refine G ?_ | refine AW.ret ?_ | (refine GC ?_ ?_ <;> intro h <;> (try simp only [hsB] at h) <;> try (exfalso; first | omega | contradiction)) | (refine GL ?_ ?_ <;> intro h <;> (try simp only [Bool.not_true, Bool.not_false] at h) <;> (try simp only [h]) <;> (try simp only [hsB] at h) <;> try (exfalso; first | omega | contradiction)) | fail)); all_goals clear kxs kk1 kuc1 kk2 kua1)
    all_goals first | exact go _ _ rfl rfl | (exfalso; simp_all; done)
  · have h3' : Op.bytesLess p t = false := by simpa using h3
    obtain ⟨hqok, m, c2, hv, go⟩ := key (c1.fail 6) (gd_name_order h2 h3')
    focus (have kxs := And.intro hb (And.intro hv (And.intro hcd (And.intro hi1 (And.intro htri h3')))); have kk1 := uN [0] (blob_Take c.s c.a c.e 32 hok (by decide)); have kuc1 := fun za zb zc => uN [0] (cursor_Err za zb zc); have kk2 := uN [0] (blob_Take (c1.fail 6).s (c1.fail 6).a (c1.fail 6).e 32768 hqok (by decide)); have kua1 := fun za => uN [0] (cursor_Fail c1.s c1.a c1.e za); (repeat' (first | refine G ?_ | refine AW.ret ?_ | (refine GC ?_ ?_ <;> intro h <;> (try simp only [hsB] at h) <;> try (exfalso; first | omega | contradiction)) | (refine GL ?_ ?_ <;> intro h <;> (try simp only [Bool.not_true, Bool.not_false] at h) <;> (try simp only [h]) <;> (try simp only [hsB] at h) <;> try (exfalso; first | omega | contradiction)) | fail)); all_goals clear kxs kk1 kuc1 kk2 kua1)
    all_goals first | exact go _ _ rfl rfl | (exfalso; simp_all; done)

end Go.AW
