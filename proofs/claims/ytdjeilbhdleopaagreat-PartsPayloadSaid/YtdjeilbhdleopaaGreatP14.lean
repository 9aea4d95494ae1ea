/-
  metadata that is read: the program's and the document's.
-/
import Derived.Test.YtdjeilbhdleopaaGreatP13
set_option linter.unusedVariables false
set_option linter.unusedSimpArgs false
set_option maxHeartbeats 4000000
set_option maxRecDepth 10000
namespace Go.AW
open Go Go.Proofs
attribute [local irreducible] thenQ blockQ RetQ AL AW AC AOp
abbrev Pfam := Fam Cu.pair (fun (_ : List UInt8) (x : Pr) => x.1)
def Prs.last (v : Prs) (p : List UInt8) : Prop := (v = [] ∧ p = []) ∨ (0 < v.length ∧ p.length ≤ 32 ∧ ∃ n r, v.drop (v.length - 1) = (p, n) :: r)
theorem Prs.last_snoc (v : Prs) (a : List UInt8) (m : List UInt8) (ha : a.length ≤ 32) : (v ++ [(a, m)] : Prs).last a :=
  .inr ⟨by simp, ha, m, [], by simp⟩
theorem prs_snoc (v : Prs) (a m : List UInt8) : prsD v ++ [.s (.string ⟨a.toArray⟩), .s (.string ⟨m.toArray⟩)] = prsD (v ++ [(a, m)]) := by
  rw [prsD, prsD, List.map_append, List.flatten_append]; rfl
theorem pairs_Take (s : List UInt8) (a : Nat) (e : Int) (h : Cu.Ok ⟨s, a, e⟩) : AC Tryz.prog 205 [.p 0 0] [Cu.ob ⟨s, a, e⟩] fun x σ => x = .d (.l (Cu.prs ⟨s, a, e⟩).1.length (prsD (Cu.prs ⟨s, a, e⟩).1)) ∧ σ = [Cu.ob (Cu.prs ⟨s, a, e⟩).2] := by
  refine AC.wk Tryz.func205 ?_
  have hlt : (Cu.count ⟨s, a, e⟩ 8).1 ≤ 8 := Cu.count_max ⟨s, a, e⟩ 8
  have hok0 := Cu.count_ok (max := 8) h
  have hvec : Cu.prs ⟨s, a, e⟩ = (if ((Cu.count ⟨s, a, e⟩ 8).2.pairs (Cu.count ⟨s, a, e⟩ 8).1 []).2.e ≠ 0 then [] else ((Cu.count ⟨s, a, e⟩ 8).2.pairs (Cu.count ⟨s, a, e⟩ 8).1 []).1, ((Cu.count ⟨s, a, e⟩ 8).2.pairs (Cu.count ⟨s, a, e⟩ 8).1 []).2) := rfl
  rw [hvec]
  generalize hz : Cu.count ⟨s, a, e⟩ 8 = z at *
  obtain ⟨n, c0⟩ := z
  simp only at hlt hok0 ⊢
  clear hvec
  focus (have kxs := hz; have kk1 := uN [0] (blob_Count s a e 8 h (by decide)); (repeat' (first | refine G ?_ | refine AW.ret ?_ | (refine GC ?_ ?_ <;> intro h <;> (try simp only [hsB] at h) <;> try exact xf) | (refine GL ?_ ?_ <;> intro h <;> (try simp only [hsN] at h) <;> (try simp only [h]) <;> (try simp only [hsB] at h) <;> try exact xf) | fail)); all_goals clear kxs kk1)
  refine AW.birth 62 2 [4] [] ?_
  refine AW.rounds [0, 2, 3, 4] (fun x : Prs × List UInt8 × Cu => [(0, .p 0 0), (2, .d (.s (.slice none 0 0))), (3, iv .i64 n), (4, .o 1 x.1.length)]) (fun x => [Cu.ob x.2.2, .row 62 2 x.1.length (prsD x.1)])
    (fun x => x.2.2.Ok ∧ (x.2.2.e = 0 → Prs.last x.1 x.2.1) ∧ Pfam n [] c0 x.1 x.2.1 x.2.2) (fun x => n - x.1.length) ([], [], c0) ⟨hok0, fun _ => .inl ⟨rfl, rfl⟩, Fam.start n [] c0⟩ rfl rfl (fun _ _ => Nat.le_of_ble_eq_true rfl) (fun _ _ => rfl) (fun _ _ => rfl) ?_
  rintro ⟨out, p, c⟩ ⟨hok, hlast, hf⟩ J hJ
  simp only at hok hlast hf ⊢
  by_cases hce : c.e = 0
  case neg =>
    have hbad := Fam.bad (fun k c h => (trip_pair k).stuck c h) hf hce
    have hb2 : (Cu.pairs n [] c0).2 = c := hbad
    rw [hb2, if_pos hce]
    (have kk1 := uN [0] (cursor_Err c.s c.a c.e); exact Wc1)
  by_cases hlen : out.length < n
  case neg =>
    have hdone := Fam.done hf hce hlen
    have hb2 : Cu.pairs n [] c0 = (out, c) := hdone
    rw [hb2]
    simp only
    rw [if_neg (by simpa using hce)]
    (have kk1 := uN [0] (cursor_Err c.s c.a c.e); exact Wc1)
  have hstep := Fam.step hf hce hlen
  have hbok := Cu.blob_ok (max := 32) hok
  have hlim := Cu.blob_lim c 32
  have hent : Cu.pair p c = (((c.blob 32).1, ((gd (lessB p (c.blob 32).1) 6 (gd (decide ((c.blob 32).1 ≠ [])) 14 (c.blob 32).2)).blob 32768).1), ((gd (lessB p (c.blob 32).1) 6 (gd (decide ((c.blob 32).1 ≠ [])) 14 (c.blob 32).2)).blob 32768).2) := rfl
  generalize hb0 : c.blob 32 = y at *
  obtain ⟨t, c1⟩ := y
  have hb : Cu.blob ⟨c.s, c.a, c.e⟩ 32 = (t, c1) := hb0
  simp only at hlim hbok hent
  have hlast := hlast hce
  have hec1 : c1.e ≠ 0 → gd (lessB p t) 6 (gd (decide (t ≠ [])) 14 c1) = c1 := fun h => by rw [gd_stuck h, gd_stuck h]
  have key : ∀ q : Cu, gd (lessB p t) 6 (gd (decide (t ≠ [])) 14 c1) = q → q.Ok ∧ ∃ m c2, Cu.blob ⟨q.s, q.a, q.e⟩ 32768 = (m, c2) ∧
      ∀ T' σ', keepT T' [0, 2, 3, 4] = [(0, .p 0 0), (2, .d (.s (.slice none 0 0))), (3, iv .i64 n), (4, .o 1 (out.length + 1))] → σ'.take 2 = [Cu.ob c2, .row 62 2 (out.length + 1) (prsD out ++ [.s (.string ⟨t.toArray⟩), .s (.string ⟨m.toArray⟩)])] → J T' σ' := fun q hq => by
    rw [hq] at hent
    have hqok : q.Ok := by rw [← hq]; exact gd_ok (gd_ok hbok)
    have hqe : c1.e ≠ 0 → q.e ≠ 0 := fun h => by rw [← hq, hec1 h]; exact h
    have hok2 := Cu.blob_ok (max := 32768) hqok
    have hst := (trip_blob 32768).stuck q
    refine ⟨hqok, (q.blob 32768).1, (q.blob 32768).2, rfl, ?_⟩
    generalize hv : q.blob 32768 = w at *
    obtain ⟨m, c2⟩ := w
    simp only at hent hok2 hst ⊢
    rw [hent] at hstep
    have hl : (out ++ [(t, m)]).length = out.length + 1 := by simp
    intro T' σ' h1 h2
    refine hJ (out ++ [(t, m)], t, c2) T' σ' (by simp only [hl]; omega) ⟨hok2, fun h0 => Prs.last_snoc out t m ?_, hstep⟩ (by simp only [hl]; exact h1) (by rw [prs_snoc] at h2; simp only [hl]; exact h2)
    have e1 : c1.e = 0 := by
      apply Decidable.byContradiction
      intro hn
      have hq := hqe hn
      rw [hst hq] at h0
      exact hq h0
    have := hlim e1
    simpa using this
  clear hJ hstep hf hent
  have st14 : c1.e ≠ 0 → Cu.fail ⟨c1.s, c1.a, c1.e⟩ 14 = c1 := fun h => Cu.fail_stuck (c := c1) h 14
  have st6 : c1.e ≠ 0 → Cu.fail ⟨c1.s, c1.a, c1.e⟩ 6 = c1 := fun h => Cu.fail_stuck (c := c1) h 6
  rcases hlast with ⟨rfl, rfl⟩ | ⟨hlo, hpl, pn, pr, hpd⟩
  · by_cases h1 : c1.e = 0
    case neg =>
      obtain ⟨hqok, m, c2, hv, go⟩ := key c1 (hec1 h1)
      have st14 := st14 h1
      have st6 := st6 h1
      (have kxs := And.intro hb (And.intro hv (And.intro st14 st6)); have kk1 := uN [0] (blob_Take c.s c.a c.e 32 hok (by decide)); have kuc1 := fun za zb zc => uN [0] (cursor_Err za zb zc); have kk2 := uN [0] (blob_Take c1.s c1.a c1.e 32768 hqok (by decide)); have kua1 := fun za => uN [0] (cursor_Fail c1.s c1.a c1.e za); exact Wcg)
    by_cases h2 : t = []
    · subst h2
      obtain ⟨hqok, m, c2, hv, go⟩ := key (c1.fail 14) (gd_name_empty [] c1)
      (have kxs := And.intro hb hv; have kk1 := uN [0] (blob_Take c.s c.a c.e 32 hok (by decide)); have kuc1 := fun za zb zc => uN [0] (cursor_Err za zb zc); have kk2 := uN [0] (blob_Take (c1.fail 14).s (c1.fail 14).a (c1.fail 14).e 32768 hqok (by decide)); have kua1 := fun za => uN [0] (cursor_Fail c1.s c1.a c1.e za); exact Wcg)
    have hl0 : lessB [] t = true := by
      cases hx : t with
      | nil => exact absurd hx h2
      | cons b u => exact less_nil_cons b u
    obtain ⟨hqok, m, c2, hv, go⟩ := key c1 (gd_name_ok h2 hl0)
    (have kxs := And.intro hb hv; have kk1 := uN [0] (blob_Take c.s c.a c.e 32 hok (by decide)); have kuc1 := fun za zb zc => uN [0] (cursor_Err za zb zc); have kk2 := uN [0] (blob_Take c1.s c1.a c1.e 32768 hqok (by decide)); have kua1 := fun za => uN [0] (cursor_Fail c1.s c1.a c1.e za); exact Wcg)
  have hcd := prs_drop hpd
  have hi1 : ((out.length : Int) - 1).toNat = out.length - 1 := by omega
  have htri := less_tri t p
  by_cases h1 : c1.e = 0
  case neg =>
    obtain ⟨hqok, m, c2, hv, go⟩ := key c1 (hec1 h1)
    have st14 := st14 h1
    have st6 := st6 h1
    (have kxs := And.intro hb (And.intro hv (And.intro st14 (And.intro st6 (And.intro hcd (And.intro hi1 htri))))); have kk1 := uN [0] (blob_Take c.s c.a c.e 32 hok (by decide)); have kuc1 := fun za zb zc => uN [0] (cursor_Err za zb zc); have kk2 := uN [0] (blob_Take c1.s c1.a c1.e 32768 hqok (by decide)); have kua1 := fun za => uN [0] (cursor_Fail c1.s c1.a c1.e za); exact Wcg)
  by_cases h2 : t = []
  · subst h2
    obtain ⟨hqok, m, c2, hv, go⟩ := key (c1.fail 14) (gd_name_empty p c1)
    (have kxs := And.intro hb hv; have kk1 := uN [0] (blob_Take c.s c.a c.e 32 hok (by decide)); have kuc1 := fun za zb zc => uN [0] (cursor_Err za zb zc); have kk2 := uN [0] (blob_Take (c1.fail 14).s (c1.fail 14).a (c1.fail 14).e 32768 hqok (by decide)); have kua1 := fun za => uN [0] (cursor_Fail c1.s c1.a c1.e za); exact Wcg)
  by_cases h3 : lessB p t = true
  · have h3' : Op.bytesLess p t = true := h3
    obtain ⟨hqok, m, c2, hv, go⟩ := key c1 (gd_name_ok h2 h3)
    (have kxs := And.intro hb (And.intro hv (And.intro hcd (And.intro hi1 (And.intro htri h3')))); have kk1 := uN [0] (blob_Take c.s c.a c.e 32 hok (by decide)); have kuc1 := fun za zb zc => uN [0] (cursor_Err za zb zc); have kk2 := uN [0] (blob_Take c1.s c1.a c1.e 32768 hqok (by decide)); have kua1 := fun za => uN [0] (cursor_Fail c1.s c1.a c1.e za); exact Wcg)
  · have h3' : Op.bytesLess p t = false := by simpa using h3
    obtain ⟨hqok, m, c2, hv, go⟩ := key (c1.fail 6) (gd_name_order h2 h3')
    (have kxs := And.intro hb (And.intro hv (And.intro hcd (And.intro hi1 (And.intro htri h3')))); have kk1 := uN [0] (blob_Take c.s c.a c.e 32 hok (by decide)); have kuc1 := fun za zb zc => uN [0] (cursor_Err za zb zc); have kk2 := uN [0] (blob_Take (c1.fail 6).s (c1.fail 6).a (c1.fail 6).e 32768 hqok (by decide)); have kua1 := fun za => uN [0] (cursor_Fail c1.s c1.a c1.e za); exact Wcg)
theorem ref14_Take (s : List UInt8) (a : Nat) (e : Int) (h : Cu.Ok ⟨s, a, e⟩) : AC Tryz.prog 216 [.p 0 0] [Cu.ro ⟨s, a, e⟩] fun x σ => x = .d (.l (Cu.prs ⟨s, a, e⟩).1.length (prsD (Cu.prs ⟨s, a, e⟩).1)) ∧ σ = [Cu.ro (Cu.prs ⟨s, a, e⟩).2] := by
  refine AC.wk Tryz.func216 ?_
  have hlt : (Cu.count ⟨s, a, e⟩ 8).1 ≤ 8 := Cu.count_max ⟨s, a, e⟩ 8
  have hok0 := Cu.count_ok (max := 8) h
  have hvec : Cu.prs ⟨s, a, e⟩ = (if ((Cu.count ⟨s, a, e⟩ 8).2.pairs (Cu.count ⟨s, a, e⟩ 8).1 []).2.e ≠ 0 then [] else ((Cu.count ⟨s, a, e⟩ 8).2.pairs (Cu.count ⟨s, a, e⟩ 8).1 []).1, ((Cu.count ⟨s, a, e⟩ 8).2.pairs (Cu.count ⟨s, a, e⟩ 8).1 []).2) := rfl
  rw [hvec]
  have hze : (Cu.count ⟨s, a, e⟩ 8).2.e = 0 ∨ (Cu.count ⟨s, a, e⟩ 8).1 = 0 := by
    unfold Cu.count
    by_cases h1 : (Cu.vtake ⟨s, a, e⟩).2.e = 0
    · rw [if_neg (by simpa using h1)]
      split
      · exact .inr rfl
      · exact .inl h1
    · rw [if_pos h1]; exact .inr rfl
  generalize hz : Cu.count ⟨s, a, e⟩ 8 = z at *
  obtain ⟨n, c0⟩ := z
  simp only at hlt hok0 hze ⊢
  clear hvec
  focus (have kxs := hz; have kk1 := uN [0] (ref06_Count s a e 8 h (by decide)); (repeat' (first | refine G ?_ | refine AW.ret ?_ | (refine GC ?_ ?_ <;> intro h <;> (try simp only [hsB] at h) <;> try exact xf) | (refine GL ?_ ?_ <;> intro h <;> (try simp only [hsN] at h) <;> (try simp only [h]) <;> (try simp only [hsB] at h) <;> try exact xf) | fail)); all_goals clear kxs kk1)
  refine AW.birth 62 2 [4] [] ?_
  refine AW.rounds [0, 2, 3, 4, 5] (fun x : Prs × List UInt8 × Cu => [(0, .p 0 0), (2, .d (.s (.slice none 0 0))), (3, iv .i64 n), (4, .o 1 x.1.length), (5, iv .i64 x.1.length)]) (fun x => [Cu.ro x.2.2, .row 62 2 x.1.length (prsD x.1)])
    (fun x => x.2.2.Ok ∧ (x.2.2.e = 0 ∨ n = 0) ∧ Prs.last x.1 x.2.1 ∧ Pfam n [] c0 x.1 x.2.1 x.2.2) (fun x => n - x.1.length) ([], [], c0) ⟨hok0, hze, .inl ⟨rfl, rfl⟩, Fam.start n [] c0⟩ rfl rfl (fun _ _ => Nat.le_of_ble_eq_true rfl) (fun _ _ => rfl) (fun _ _ => rfl) ?_
  rintro ⟨out, p, c⟩ ⟨hok, hcn, hlast, hf⟩ J hJ
  simp only at hok hcn hlast hf ⊢
  have hst : ∀ (k : List UInt8) (c : Cu), c.e ≠ 0 → (Cu.pair k c).2 = c := fun k c h => (trip_pair k).stuck c h
  by_cases hlen : out.length < n
  case neg =>
    by_cases hce : c.e = 0
    · have hb2 : Cu.pairs n [] c0 = (out, c) := Fam.done hf hce hlen
      rw [hb2]
      simp only
      rw [if_neg (by simpa using hce)]
      exact Wc1
    · have hb2 : (Cu.pairs n [] c0).2 = c := Fam.bad hst hf hce
      have hfl := hf.1
      have hn0 : out.length = 0 := by omega
      have ho : out = [] := List.length_eq_zero_iff.1 hn0
      subst ho
      rw [hb2, if_pos hce]
      exact Wc1
  have hce : c.e = 0 := by omega
  have hstep := Fam.step hf hce hlen
  have hbok := Cu.blob_ok (max := 32) hok
  have hlim := Cu.blob_lim c 32
  have hent : Cu.pair p c = (((c.blob 32).1, ((gd (lessB p (c.blob 32).1) 6 (gd (decide ((c.blob 32).1 ≠ [])) 14 (c.blob 32).2)).blob 32768).1), ((gd (lessB p (c.blob 32).1) 6 (gd (decide ((c.blob 32).1 ≠ [])) 14 (c.blob 32).2)).blob 32768).2) := rfl
  generalize hb0 : c.blob 32 = y at *
  obtain ⟨t, c1⟩ := y
  have hb : Cu.blob ⟨c.s, c.a, c.e⟩ 32 = (t, c1) := hb0
  simp only at hlim hbok hent
  have key : ∀ q : Cu, gd (lessB p t) 6 (gd (decide (t ≠ [])) 14 c1) = q → q.Ok ∧ ∃ m c2, Cu.blob ⟨q.s, q.a, q.e⟩ 32768 = (m, c2) ∧ (q.e ≠ 0 → c2.e ≠ 0) ∧ (c2.e ≠ 0 → (Cu.pairs n [] c0).2 = c2) ∧
      (c2.e = 0 → ∀ T' σ', keepT T' [0, 2, 3, 4, 5] = [(0, .p 0 0), (2, .d (.s (.slice none 0 0))), (3, iv .i64 n), (4, .o 1 (out.length + 1)), (5, iv .i64 ((out.length : Int) + 1))] → σ'.take 2 = [Cu.ro c2, .row 62 2 (out.length + 1) (prsD out ++ [.s (.string ⟨t.toArray⟩), .s (.string ⟨m.toArray⟩)])] → J T' σ') := fun q hq => by
    rw [hq] at hent
    have hqok : q.Ok := by rw [← hq]; exact gd_ok (gd_ok hbok)
    have hqe : c1.e ≠ 0 → q.e ≠ 0 := fun h => by rw [← hq, gd_stuck h, gd_stuck h]; exact h
    have hok2 := Cu.blob_ok (max := 32768) hqok
    have hbs := (trip_blob 32768).stuck q
    refine ⟨hqok, (q.blob 32768).1, (q.blob 32768).2, rfl, ?_⟩
    generalize hv : q.blob 32768 = w at *
    obtain ⟨m, c2⟩ := w
    simp only at hent hok2 hbs ⊢
    rw [hent] at hstep
    refine ⟨fun h => by rw [hbs h]; exact h, fun h => Fam.bad hst hstep h, fun h0 T' σ' g1 g2 => ?_⟩
    have hl : (out ++ [(t, m)]).length = out.length + 1 := by simp
    have e1 : c1.e = 0 := by
      apply Decidable.byContradiction
      intro hn
      have hq := hqe hn
      rw [hbs hq] at h0
      exact hq h0
    have htl := hlim e1
    exact hJ (out ++ [(t, m)], t, c2) T' σ' (by simp only [hl]; omega) ⟨hok2, .inl h0, Prs.last_snoc out t m (by simpa using htl), hstep⟩ (by simp only [hl]; exact g1) (by rw [prs_snoc] at g2; simp only [hl]; exact g2)
  clear hJ hstep hf hent
  have fin : ∀ q : Cu, gd (lessB p t) 6 (gd (decide (t ≠ [])) 14 c1) = q → ∃ m c2, q.Ok ∧ Cu.blob ⟨q.s, q.a, q.e⟩ 32768 = (m, c2) ∧ (q.e ≠ 0 → c2.e ≠ 0) ∧
      ((c2.e ≠ 0 ∧ (Cu.pairs n [] c0).2 = c2) ∨ (c2.e = 0 ∧ ∀ T' σ', keepT T' [0, 2, 3, 4, 5] = [(0, .p 0 0), (2, .d (.s (.slice none 0 0))), (3, iv .i64 n), (4, .o 1 (out.length + 1)), (5, iv .i64 ((out.length : Int) + 1))] → σ'.take 2 = [Cu.ro c2, .row 62 2 (out.length + 1) (prsD out ++ [.s (.string ⟨t.toArray⟩), .s (.string ⟨m.toArray⟩)])] → J T' σ')) := fun q hq => by
    obtain ⟨k1, m, c2, k2, k3, k4, k5⟩ := key q hq
    by_cases h0 : c2.e = 0
    · exact ⟨m, c2, k1, k2, k3, .inr ⟨h0, k5 h0⟩⟩
    · exact ⟨m, c2, k1, k2, k3, .inl ⟨h0, k4 h0⟩⟩
  clear key
  by_cases h1 : c1.e = 0
  case neg =>
    obtain ⟨m, c2, hqok, hv, h3, h4 | h4⟩ := fin c1 (by rw [gd_stuck h1, gd_stuck h1])
    · obtain ⟨h4, h5⟩ := h4
      rw [h5, if_pos h4]
      (have kxs := And.intro hb hv; have kk1 := uN [0] (ref06_Take c.s c.a c.e 32 hok (by decide)); have kk2 := uN [0] (ref06_Take c1.s c1.a c1.e 32768 hqok (by decide)); exact Wc1)
    · exact absurd h4.1 (h3 h1)
  by_cases h2 : t = []
  · subst h2
    obtain ⟨m, c2, hqok, hv, h3, h4 | h4⟩ := fin (c1.fail 14) (gd_name_empty p c1)
    · obtain ⟨h4, h5⟩ := h4
      rw [Cu.fail_ok0 h1] at hqok hv
      rw [h5, if_pos h4]
      (have kxs := And.intro hb hv; have kk1 := uN [0] (ref06_Take c.s c.a c.e 32 hok (by decide)); have kk2 := uN [0] (ref06_Take c1.s c1.a 14 32768 hqok (by decide)); exact Wc1)
    · exact absurd h4.1 (h3 (Cu.fail_e (by decide)))
  have htl : t.length ≤ 32 := by simpa using hlim h1
  have ht0 : 0 < t.length := List.length_pos_iff.2 h2
  have h10 : t.length ≠ 0 := by omega
  rcases hlast with ⟨rfl, rfl⟩ | ⟨hlo, hpl, pn, pr, hpd⟩
  · have hl0 : lessB [] t = true := by
      cases hx : t with
      | nil => exact absurd hx h2
      | cons b u => exact less_nil_cons b u
    obtain ⟨m, c2, hqok, hv, h3, h4 | h4⟩ := fin c1 (gd_name_ok h2 hl0)
    · obtain ⟨h4, h5⟩ := h4
      rw [h5, if_pos h4]
      (have kxs := And.intro hb hv; have kk1 := uN [0] (ref06_Take c.s c.a c.e 32 hok (by decide)); have kk2 := uN [0] (ref06_Take c1.s c1.a c1.e 32768 hqok (by decide)); exact Wc1)
    · obtain ⟨h4, go⟩ := h4
      (have kxs := And.intro hb hv; have kk1 := uN [0] (ref06_Take c.s c.a c.e 32 hok (by decide)); have kk2 := uN [0] (ref06_Take c1.s c1.a c1.e 32768 hqok (by decide)); exact Wcg)
  have hcd := prs_drop hpd
  have hi1 : ((out.length : Int) - 1).toNat = out.length - 1 := by omega
  by_cases h3 : lessB p t = true
  · have h3' : Op.bytesLess p t = true := h3
    obtain ⟨m, c2, hqok, hv, h3, h4 | h4⟩ := fin c1 (gd_name_ok h2 h3)
    · obtain ⟨h4, h5⟩ := h4
      rw [h5, if_pos h4]
      (have kxs := And.intro hb (And.intro hv (And.intro hcd (And.intro hi1 h3'))); have kk1 := uN [0] (ref06_Take c.s c.a c.e 32 hok (by decide)); have kk2 := uN [] (ref06_Below p t (by omega) (by omega)); have kk3 := uN [0] (ref06_Take c1.s c1.a c1.e 32768 hqok (by decide)); exact Wc1)
    · obtain ⟨h4, go⟩ := h4
      (have kxs := And.intro hb (And.intro hv (And.intro hcd (And.intro hi1 h3'))); have kk1 := uN [0] (ref06_Take c.s c.a c.e 32 hok (by decide)); have kk2 := uN [] (ref06_Below p t (by omega) (by omega)); have kk3 := uN [0] (ref06_Take c1.s c1.a c1.e 32768 hqok (by decide)); exact Wcg)
  · have h3' : Op.bytesLess p t = false := by simpa using h3
    obtain ⟨m, c2, hqok, hv, h3, h4 | h4⟩ := fin (c1.fail 6) (gd_name_order h2 h3')
    · obtain ⟨h4, h5⟩ := h4
      rw [Cu.fail_ok0 h1] at hqok hv
      rw [h5, if_pos h4]
      (have kxs := And.intro hb (And.intro hv (And.intro hcd (And.intro hi1 h3'))); have kk1 := uN [0] (ref06_Take c.s c.a c.e 32 hok (by decide)); have kk2 := uN [] (ref06_Below p t (by omega) (by omega)); have kk3 := uN [0] (ref06_Take c1.s c1.a 6 32768 hqok (by decide)); exact Wc1)
    · exact absurd h4.1 (h3 (Cu.fail_e (by decide)))
def osD (x : Os1) : List D := [.l x.clk.length (vecD x.clk), .s (.bool x.dead), .s (.string ⟨x.val.toArray⟩)]
abbrev ossD (l : List Os1) : List D := (l.map osD).flatten
abbrev osV (x : Os1) : V := .a [.d (.l x.clk.length (vecD x.clk)), bv x.dead, sv (bs x.val)]
abbrev odV (o : Od) : V := .a [sv (bs o.key), .d (.l o.sibs.length (ossD o.sibs))]
def Os1.fits (x : Os1) : Prop := x.clk.fits ∧ x.val.length ≤ 9223372036854775807
def Od.fits (o : Od) : Prop := o.key.length ≤ 9223372036854775807 ∧ o.sibs.length ≤ 9223372036854775807 ∧ ∀ x ∈ o.sibs, x.fits
abbrev sbV (x : Sb) : V := .a [.d (.l x.clk.ctx.length (vecD x.clk.ctx)), bv x.clk.dotted, sv (bs x.clk.dot.1), iv .u64 x.clk.dot.2, .d (.l x.meta_.length (prsD x.meta_)), bv x.dead, sv (bs x.val)]
def sbD (x : Sb) : List D := [.l x.clk.ctx.length (vecD x.clk.ctx), .s (.bool x.clk.dotted), .s (.string ⟨x.clk.dot.1.toArray⟩), .s (.int .u64 x.clk.dot.2), .l x.meta_.length (prsD x.meta_), .s (.bool x.dead), .s (.string ⟨x.val.toArray⟩)]
abbrev sbsD (l : List Sb) : List D := (l.map sbD).flatten
def Sb.fits (x : Sb) : Prop := x.clk.fits ∧ x.meta_.fits ∧ x.val.length ≤ 9223372036854775807
theorem sb_eq (k o : Sb) : (decide (k.clk = o.clk) && (decide (k.meta_ = o.meta_) && (decide (k.dead = o.dead) && decide (k.val = o.val)))) = true ↔ k = o := by
  obtain ⟨a, b, c, d⟩ := k
  obtain ⟨e, f, g, h⟩ := o
  simp
instance : DecidableEq Sb := fun k o => decidable_of_iff _ (sb_eq k o)
abbrev ojV (o : Oj) : V := .a [sv (bs o.key), .d (.l o.sibs.length (sbsD o.sibs))]
def Oj.fits (o : Oj) : Prop := o.key.length ≤ 9223372036854775807 ∧ o.sibs.length ≤ 9223372036854775807 ∧ ∀ x ∈ o.sibs, x.fits
def sahead (l : List Sb) (i : Nat) (p : List UInt8) : Prop := (i = 0 ∧ p = []) ∨ (0 < i ∧ ∃ y r, l.drop (i - 1) = y :: r ∧ y.check = 0 ∧ skey y = p)
theorem oj_eq (k o : Oj) : (decide (k.key = o.key) && decide (k.sibs = o.sibs)) = true ↔ k = o := by
  obtain ⟨a, b⟩ := k
  obtain ⟨d, e⟩ := o
  simp
instance : DecidableEq Oj := fun k o => decidable_of_iff _ (oj_eq k o)
def mgD (m : Mg) : List D := [.s (.int .u8 (m.kind : Nat)), .s (.int .u64 (m.id : Nat)), .s (.string ⟨m.key.toArray⟩), .s (.bool m.found), .s (.string ⟨m.obj.key.toArray⟩), .l m.obj.sibs.length (sbsD m.obj.sibs), .s (.string ⟨m.old.key.toArray⟩), .l m.old.sibs.length (ossD m.old.sibs), .l m.ctx.length (vecD m.ctx), .l m.meta_.length (prsD m.meta_), .s (.bool m.dead), .s (.string ⟨m.val.toArray⟩), .s (.string ⟨m.pre.toArray⟩), .s (.string ⟨m.page.pre.toArray⟩), .s (.bool m.page.leaf), .l m.page.slots.length (slsD m.page.slots), .l m.page.items.length (itsD m.page.items), .l m.ring.length (ringD m.ring), .s (.int .i64 m.code), .s (.string ⟨m.txt.toArray⟩)]
abbrev mgC (m : Mg) : List V := [iv .u8 (m.kind : Nat), iv .u64 (m.id : Nat), sv (bs m.key), bv m.found, sv (bs m.obj.key), .d (.l m.obj.sibs.length (sbsD m.obj.sibs)), sv (bs m.old.key), .d (.l m.old.sibs.length (ossD m.old.sibs)), .d (.l m.ctx.length (vecD m.ctx)), .d (.l m.meta_.length (prsD m.meta_)), bv m.dead, sv (bs m.val), sv (bs m.pre), sv (bs m.page.pre), bv m.page.leaf, .d (.l m.page.slots.length (slsD m.page.slots)), .d (.l m.page.items.length (itsD m.page.items)), .d (.l m.ring.length (ringD m.ring)), iv .i64 m.code, sv (bs m.txt)]
abbrev mgV (m : Mg) : V := .a (mgC m)
abbrev De : D := .s (.string ⟨([] : List UInt8).toArray⟩)
abbrev Dn : D := .s (.slice none 0 0)
abbrev Df : D := .s (.bool false)
abbrev D0 : D := .s (.int .i64 0)
abbrev qo0 : Ob := .box 364 [.f (.func 321) [] [.p 1 0, .p 2 0, .p 0 0], .f (.func 323) [] [.p 0 0, .p 2 0], .f (.func 324) [] [.p 0 0, .p 2 0, .p 1 0], .f (.func 325) [] [.p 2 0]]
abbrev qo1 : Ob := .box 364 [.f (.func 321) [] [.p 7 0, .p 8 0, .p 6 0], .f (.func 323) [] [.p 6 0, .p 8 0], .f (.func 324) [] [.p 6 0, .p 8 0, .p 7 0], .f (.func 325) [] [.p 8 0]]
abbrev qo2 : Ob := .box 364 [.f (.func 326) [] [], .f (.func 327) [] [.p 4 0], .f (.func 328) [] [.p 4 0], .f (.func 329) [] [.p 4 0]]
abbrev qo3 : Ob := .box 364 [.f (.func 342) [] [], .f (.func 343) [] [], .f (.func 344) [] [], .f (.func 346) [] []]
abbrev qo4 : Ob := .box 377 [.f (.func 272) [] []]
abbrev qo5 : Ob := .box 380 [.f (.func 274) [] []]
abbrev qo6 : Ob := .box 377 [.f (.func 275) [] []]
abbrev qo7 : Ob := .box 3 [iv .i64 128]
abbrev qo8 : Ob := .box 3 [iv .i64 64]
def Mg.fits (m : Mg) : Prop := m.kind < 256 ∧ m.id < 18446744073709551616 ∧ m.key.length ≤ 9223372036854775807 ∧ m.obj.fits ∧ m.old.fits ∧ m.ctx.fits ∧ m.meta_.fits ∧ m.val.length ≤ 9223372036854775807 ∧ m.pre.length ≤ 9223372036854775807 ∧ m.page.fits ∧ m.ring.fits ∧ (-9223372036854775808 ≤ m.code ∧ m.code ≤ 9223372036854775807) ∧ m.txt.length ≤ 9223372036854775807
deriving instance DecidableEq for Mb
abbrev jnext (_ : List UInt8) (x : Sb) : List UInt8 := eclk x.clk
def Slast (l : List Sb) (p : List UInt8) : Prop := (l = [] ∧ p = []) ∨ (0 < l.length ∧ ∃ y r, l.drop (l.length - 1) = y :: r ∧ gsib y ∧ skey y = p)
abbrev Jfam := Fam Cu.os2 jnext
theorem msg_text (n : Int) (b : Bool) (k : FuncId) : AC Tryz.prog 271 [iv .i64 n, bv b, .f (.func k) [] []] [] fun y σ => y = .a [.f (.func 321) [] [.p 1 0, .p 2 0, .p 0 0], .f (.func 323) [] [.p 0 0, .p 2 0], .f (.func 324) [] [.p 0 0, .p 2 0, .p 1 0], .f (.func 325) [] [.p 2 0]] ∧ σ = [.box 3 [iv .i64 n], .box 4 [bv b], .box 377 [.f (.func k) [] []]] := by
  refine AC.wk Tryz.func271 ?_
  focus ((repeat' (first | refine G ?_ | refine AW.ret ?_ | (refine GC ?_ ?_ <;> intro h <;> (try simp only [hsB] at h) <;> try exact xf) | (refine GL ?_ ?_ <;> intro h <;> (try simp only [hsN] at h) <;> (try simp only [h]) <;> (try simp only [hsB] at h) <;> try exact xf) | fail)))
  all_goals first | (((all_goals first | refine RetQ.yr 3 (xs := [.a [.f (.func 321) [] [.p 1 0, .p 2 0, .p 0 0], .f (.func 323) [] [.p 0 0, .p 2 0], .f (.func 324) [] [.p 0 0, .p 2 0, .p 1 0], .f (.func 325) [] [.p 2 0]]]) ⟨?_, ?_⟩ | refine RetQ.yn 3 (xs := [.a [.f (.func 321) [] [.p 1 0, .p 2 0, .p 0 0], .f (.func 323) [] [.p 0 0, .p 2 0], .f (.func 324) [] [.p 0 0, .p 2 0, .p 1 0], .f (.func 325) [] [.p 2 0]]]) ⟨?_, ?_⟩); (all_goals exact fx)); done) | exact xg
theorem msg_flag (k : FuncId) : AC Tryz.prog 273 [.f (.func k) [] []] [] fun y σ => y = .a [.f (.func 326) [] [], .f (.func 327) [] [.p 0 0], .f (.func 328) [] [.p 0 0], .f (.func 329) [] [.p 0 0]] ∧ σ = [.box 380 [.f (.func k) [] []]] := by
  refine AC.wk Tryz.func273 ?_
  focus ((repeat' (first | refine G ?_ | refine AW.ret ?_ | (refine GC ?_ ?_ <;> intro h <;> (try simp only [hsB] at h) <;> try exact xf) | (refine GL ?_ ?_ <;> intro h <;> (try simp only [hsN] at h) <;> (try simp only [h]) <;> (try simp only [hsB] at h) <;> try exact xf) | fail)))
  all_goals first | (((all_goals first | refine RetQ.yr 1 (xs := [.a [.f (.func 326) [] [], .f (.func 327) [] [.p 0 0], .f (.func 328) [] [.p 0 0], .f (.func 329) [] [.p 0 0]]]) ⟨?_, ?_⟩ | refine RetQ.yn 1 (xs := [.a [.f (.func 326) [] [], .f (.func 327) [] [.p 0 0], .f (.func 328) [] [.p 0 0], .f (.func 329) [] [.p 0 0]]]) ⟨?_, ?_⟩); (all_goals exact fx)); done) | exact xg
theorem msg_objectPart : AC Tryz.prog 278 [] [] fun y σ => y = .a [.f (.func 342) [] [], .f (.func 343) [] [], .f (.func 344) [] [], .f (.func 346) [] []] ∧ σ = [] := by
  refine AC.wk Tryz.func278 ?_
  focus ((repeat' (first | refine G ?_ | refine AW.ret ?_ | (refine GC ?_ ?_ <;> intro h <;> (try simp only [hsB] at h) <;> try exact xf) | (refine GL ?_ ?_ <;> intro h <;> (try simp only [hsN] at h) <;> (try simp only [h]) <;> (try simp only [hsB] at h) <;> try exact xf) | fail)))
  all_goals first | (((all_goals first | refine RetQ.yr 0 (xs := [.a [.f (.func 342) [] [], .f (.func 343) [] [], .f (.func 344) [] [], .f (.func 346) [] []]]) ⟨?_, ?_⟩ | refine RetQ.yn 0 (xs := [.a [.f (.func 342) [] [], .f (.func 343) [] [], .f (.func 344) [] [], .f (.func 346) [] []]]) ⟨?_, ?_⟩); (all_goals exact fx)); done) | exact xg
theorem msg_oldPart : AC Tryz.prog 277 [] [] fun y σ => y = .a [.f (.func 334) [] [], .f (.func 336) [] [], .f (.func 339) [] [], .f (.func 341) [] []] ∧ σ = [] := by
  refine AC.wk Tryz.func277 ?_
  focus ((repeat' (first | refine G ?_ | refine AW.ret ?_ | (refine GC ?_ ?_ <;> intro h <;> (try simp only [hsB] at h) <;> try exact xf) | (refine GL ?_ ?_ <;> intro h <;> (try simp only [hsN] at h) <;> (try simp only [h]) <;> (try simp only [hsB] at h) <;> try exact xf) | fail)))
  all_goals first | (((all_goals first | refine RetQ.yr 0 (xs := [.a [.f (.func 334) [] [], .f (.func 336) [] [], .f (.func 339) [] [], .f (.func 341) [] []]]) ⟨?_, ?_⟩ | refine RetQ.yn 0 (xs := [.a [.f (.func 334) [] [], .f (.func 336) [] [], .f (.func 339) [] [], .f (.func 341) [] []]]) ⟨?_, ?_⟩); (all_goals exact fx)); done) | exact xg
theorem msg_ctxPart : AC Tryz.prog 281 [] [] fun y σ => y = .a [.f (.func 351) [] [], .f (.func 352) [] [], .f (.func 353) [] [], .f (.func 354) [] []] ∧ σ = [] := by
  refine AC.wk Tryz.func281 ?_
  focus ((repeat' (first | refine G ?_ | refine AW.ret ?_ | (refine GC ?_ ?_ <;> intro h <;> (try simp only [hsB] at h) <;> try exact xf) | (refine GL ?_ ?_ <;> intro h <;> (try simp only [hsN] at h) <;> (try simp only [h]) <;> (try simp only [hsB] at h) <;> try exact xf) | fail)))
  all_goals first | (((all_goals first | refine RetQ.yr 0 (xs := [.a [.f (.func 351) [] [], .f (.func 352) [] [], .f (.func 353) [] [], .f (.func 354) [] []]]) ⟨?_, ?_⟩ | refine RetQ.yn 0 (xs := [.a [.f (.func 351) [] [], .f (.func 352) [] [], .f (.func 353) [] [], .f (.func 354) [] []]]) ⟨?_, ?_⟩); (all_goals exact fx)); done) | exact xg
theorem msg_metaPart : AC Tryz.prog 282 [] [] fun y σ => y = .a [.f (.func 355) [] [], .f (.func 356) [] [], .f (.func 357) [] [], .f (.func 358) [] []] ∧ σ = [] := by
  refine AC.wk Tryz.func282 ?_
  focus ((repeat' (first | refine G ?_ | refine AW.ret ?_ | (refine GC ?_ ?_ <;> intro h <;> (try simp only [hsB] at h) <;> try exact xf) | (refine GL ?_ ?_ <;> intro h <;> (try simp only [hsN] at h) <;> (try simp only [h]) <;> (try simp only [hsB] at h) <;> try exact xf) | fail)))
  all_goals first | (((all_goals first | refine RetQ.yr 0 (xs := [.a [.f (.func 355) [] [], .f (.func 356) [] [], .f (.func 357) [] [], .f (.func 358) [] []]]) ⟨?_, ?_⟩ | refine RetQ.yn 0 (xs := [.a [.f (.func 355) [] [], .f (.func 356) [] [], .f (.func 357) [] [], .f (.func 358) [] []]]) ⟨?_, ?_⟩); (all_goals exact fx)); done) | exact xg
theorem msg_pagePart : AC Tryz.prog 285 [] [] fun y σ => y = .a [.f (.func 359) [] [], .f (.func 361) [] [], .f (.func 363) [] [], .f (.func 364) [] []] ∧ σ = [] := by
  refine AC.wk Tryz.func285 ?_
  focus ((repeat' (first | refine G ?_ | refine AW.ret ?_ | (refine GC ?_ ?_ <;> intro h <;> (try simp only [hsB] at h) <;> try exact xf) | (refine GL ?_ ?_ <;> intro h <;> (try simp only [hsN] at h) <;> (try simp only [h]) <;> (try simp only [hsB] at h) <;> try exact xf) | fail)))
  all_goals first | (((all_goals first | refine RetQ.yr 0 (xs := [.a [.f (.func 359) [] [], .f (.func 361) [] [], .f (.func 363) [] [], .f (.func 364) [] []]]) ⟨?_, ?_⟩ | refine RetQ.yn 0 (xs := [.a [.f (.func 359) [] [], .f (.func 361) [] [], .f (.func 363) [] [], .f (.func 364) [] []]]) ⟨?_, ?_⟩); (all_goals exact fx)); done) | exact xg
theorem msg_ringPart : AC Tryz.prog 286 [] [] fun y σ => y = .a [.f (.func 367) [] [], .f (.func 369) [] [], .f (.func 371) [] [], .f (.func 372) [] []] ∧ σ = [] := by
  refine AC.wk Tryz.func286 ?_
  focus ((repeat' (first | refine G ?_ | refine AW.ret ?_ | (refine GC ?_ ?_ <;> intro h <;> (try simp only [hsB] at h) <;> try exact xf) | (refine GL ?_ ?_ <;> intro h <;> (try simp only [hsN] at h) <;> (try simp only [h]) <;> (try simp only [hsB] at h) <;> try exact xf) | fail)))
  all_goals first | (((all_goals first | refine RetQ.yr 0 (xs := [.a [.f (.func 367) [] [], .f (.func 369) [] [], .f (.func 371) [] [], .f (.func 372) [] []]]) ⟨?_, ?_⟩ | refine RetQ.yn 0 (xs := [.a [.f (.func 367) [] [], .f (.func 369) [] [], .f (.func 371) [] [], .f (.func 372) [] []]]) ⟨?_, ?_⟩); (all_goals exact fx)); done) | exact xg
theorem msg_codePart : AC Tryz.prog 279 [] [] fun y σ => y = .a [.f (.func 347) [] [], .f (.func 348) [] [], .f (.func 349) [] [], .f (.func 350) [] []] ∧ σ = [] := by
  refine AC.wk Tryz.func279 ?_
  focus ((repeat' (first | refine G ?_ | refine AW.ret ?_ | (refine GC ?_ ?_ <;> intro h <;> (try simp only [hsB] at h) <;> try exact xf) | (refine GL ?_ ?_ <;> intro h <;> (try simp only [hsN] at h) <;> (try simp only [h]) <;> (try simp only [hsB] at h) <;> try exact xf) | fail)))
  all_goals first | (((all_goals first | refine RetQ.yr 0 (xs := [.a [.f (.func 347) [] [], .f (.func 348) [] [], .f (.func 349) [] [], .f (.func 350) [] []]]) ⟨?_, ?_⟩ | refine RetQ.yn 0 (xs := [.a [.f (.func 347) [] [], .f (.func 348) [] [], .f (.func 349) [] [], .f (.func 350) [] []]]) ⟨?_, ?_⟩); (all_goals exact fx)); done) | exact xg
theorem msg_found_object : AC Tryz.prog 276 [.a [.f (.func 342) [] [], .f (.func 343) [] [], .f (.func 344) [] [], .f (.func 346) [] []]] [] fun y σ => y = .a [.f (.func 330) [] [.p 0 0], .f (.func 331) [] [.p 0 0], .f (.func 332) [] [.p 0 0], .f (.func 333) [] [.p 0 0]] ∧ σ = [qo3] := by
  refine AC.wk Tryz.func276 ?_
  focus ((repeat' (first | refine G ?_ | refine AW.ret ?_ | (refine GC ?_ ?_ <;> intro h <;> (try simp only [hsB] at h) <;> try exact xf) | (refine GL ?_ ?_ <;> intro h <;> (try simp only [hsN] at h) <;> (try simp only [h]) <;> (try simp only [hsB] at h) <;> try exact xf) | fail)))
  all_goals first | (((all_goals first | refine RetQ.yr 1 (xs := [.a [.f (.func 330) [] [.p 0 0], .f (.func 331) [] [.p 0 0], .f (.func 332) [] [.p 0 0], .f (.func 333) [] [.p 0 0]]]) ⟨?_, ?_⟩ | refine RetQ.yn 1 (xs := [.a [.f (.func 330) [] [.p 0 0], .f (.func 331) [] [.p 0 0], .f (.func 332) [] [.p 0 0], .f (.func 333) [] [.p 0 0]]]) ⟨?_, ?_⟩); (all_goals exact fx)); done) | exact xg
theorem msg_found_old : AC Tryz.prog 276 [.a [.f (.func 334) [] [], .f (.func 336) [] [], .f (.func 339) [] [], .f (.func 341) [] []]] [] fun y σ => y = .a [.f (.func 330) [] [.p 0 0], .f (.func 331) [] [.p 0 0], .f (.func 332) [] [.p 0 0], .f (.func 333) [] [.p 0 0]] ∧ σ = [.box 364 [.f (.func 334) [] [], .f (.func 336) [] [], .f (.func 339) [] [], .f (.func 341) [] []]] := by
  refine AC.wk Tryz.func276 ?_
  focus ((repeat' (first | refine G ?_ | refine AW.ret ?_ | (refine GC ?_ ?_ <;> intro h <;> (try simp only [hsB] at h) <;> try exact xf) | (refine GL ?_ ?_ <;> intro h <;> (try simp only [hsN] at h) <;> (try simp only [h]) <;> (try simp only [hsB] at h) <;> try exact xf) | fail)))
  all_goals first | (((all_goals first | refine RetQ.yr 1 (xs := [.a [.f (.func 330) [] [.p 0 0], .f (.func 331) [] [.p 0 0], .f (.func 332) [] [.p 0 0], .f (.func 333) [] [.p 0 0]]]) ⟨?_, ?_⟩ | refine RetQ.yn 1 (xs := [.a [.f (.func 330) [] [.p 0 0], .f (.func 331) [] [.p 0 0], .f (.func 332) [] [.p 0 0], .f (.func 333) [] [.p 0 0]]]) ⟨?_, ?_⟩); (all_goals exact fx)); done) | exact xg
theorem parts_11 : AC Tryz.prog 196 [iv .u8 1, iv .u8 1] [] fun y σ => y = .t [.b 10 0 1, bv true] ∧ σ = [qo7, .box 4 [bv true], qo4, qo0, qo5, qo2, qo8, .box 4 [bv false], qo6, qo1, qo0] := by
  refine AC.wk Tryz.func196 ?_
  (have kk1 := uN [] (msg_text 128 true 272); have kk2 := uN [] (msg_flag 274); have kk3 := uN [] (msg_text 64 false 275); exact We11)
theorem has_11 : AC Tryz.prog 95 [iv .u8 1, iv .u8 1] [] fun y σ => y = bv true ∧ σ = [] := by
  refine AC.wk Tryz.func95 ?_
  have hp := parts_11
  (have kk1 := uN [] hp; exact Wc0)
theorem parts_12 : AC Tryz.prog 196 [iv .u8 1, iv .u8 2] [] fun y σ => y = .t [.b 11 0 2, bv true] ∧ σ = [qo7, .box 4 [bv true], qo4, qo0, qo5, qo2, qo8, .box 4 [bv false], qo6, qo1, .box 364 [.f (.func 334) [] [], .f (.func 336) [] [], .f (.func 339) [] [], .f (.func 341) [] []], .box 364 [.f (.func 326) [] [], .f (.func 327) [] [.p 4 0], .f (.func 328) [] [.p 4 0], .f (.func 329) [] [.p 4 0], .f (.func 330) [] [.p 10 0], .f (.func 331) [] [.p 10 0], .f (.func 332) [] [.p 10 0], .f (.func 333) [] [.p 10 0]]] := by
  refine AC.wk Tryz.func196 ?_
  (have kk1 := uN [] (msg_text 128 true 272); have kk2 := uN [] (msg_flag 274); have kk3 := uN [] (msg_text 64 false 275); have kk4 := uN [] msg_oldPart; have kk5 := uN [] msg_found_old; exact We12)
theorem has_12 : AC Tryz.prog 95 [iv .u8 1, iv .u8 2] [] fun y σ => y = bv true ∧ σ = [] := by
  refine AC.wk Tryz.func95 ?_
  have hp := parts_12
  (have kk1 := uN [] hp; exact Wc0)
theorem parts_18 : AC Tryz.prog 196 [iv .u8 1, iv .u8 8] [] fun y σ => y = .t [.b 10 0 2, bv true] ∧ σ = [qo7, .box 4 [bv true], qo4, qo0, qo5, qo2, qo8, .box 4 [bv false], qo6, qo1, .box 364 [.f (.func 347) [] [], .f (.func 348) [] [], .f (.func 349) [] [], .f (.func 350) [] [], .f (.func 321) [] [.p 7 0, .p 8 0, .p 6 0], .f (.func 323) [] [.p 6 0, .p 8 0], .f (.func 324) [] [.p 6 0, .p 8 0, .p 7 0], .f (.func 325) [] [.p 8 0]]] := by
  refine AC.wk Tryz.func196 ?_
  (have kk1 := uN [] (msg_text 128 true 272); have kk2 := uN [] (msg_flag 274); have kk3 := uN [] (msg_text 64 false 275); have kk4 := uN [] msg_codePart; exact We11)
theorem has_18 : AC Tryz.prog 95 [iv .u8 1, iv .u8 8] [] fun y σ => y = bv true ∧ σ = [] := by
  refine AC.wk Tryz.func95 ?_
  have hp := parts_18
  (have kk1 := uN [] hp; exact Wc0)
theorem parts_21 : AC Tryz.prog 196 [iv .u8 2, iv .u8 1] [] fun y σ => y = .t [.b 10 0 1, bv true] ∧ σ = [qo7, .box 4 [bv true], qo4, qo0, qo5, qo2, qo8, .box 4 [bv false], qo6, qo1, qo0] := by
  refine AC.wk Tryz.func196 ?_
  (have kk1 := uN [] (msg_text 128 true 272); have kk2 := uN [] (msg_flag 274); have kk3 := uN [] (msg_text 64 false 275); exact We11)
theorem has_21 : AC Tryz.prog 95 [iv .u8 2, iv .u8 1] [] fun y σ => y = bv true ∧ σ = [] := by
  refine AC.wk Tryz.func95 ?_
  have hp := parts_21
  (have kk1 := uN [] hp; exact Wc0)
theorem parts_22 : AC Tryz.prog 196 [iv .u8 2, iv .u8 2] [] fun y σ => y = .t [.b 11 0 2, bv true] ∧ σ = [qo7, .box 4 [bv true], qo4, qo0, qo5, qo2, qo8, .box 4 [bv false], qo6, qo1, qo3, .box 364 [.f (.func 326) [] [], .f (.func 327) [] [.p 4 0], .f (.func 328) [] [.p 4 0], .f (.func 329) [] [.p 4 0], .f (.func 330) [] [.p 10 0], .f (.func 331) [] [.p 10 0], .f (.func 332) [] [.p 10 0], .f (.func 333) [] [.p 10 0]]] := by
  refine AC.wk Tryz.func196 ?_
  (have kk1 := uN [] (msg_text 128 true 272); have kk2 := uN [] (msg_flag 274); have kk3 := uN [] (msg_text 64 false 275); have kk4 := uN [] msg_objectPart; have kk5 := uN [] msg_found_object; exact We12)
theorem has_22 : AC Tryz.prog 95 [iv .u8 2, iv .u8 2] [] fun y σ => y = bv true ∧ σ = [] := by
  refine AC.wk Tryz.func95 ?_
  have hp := parts_22
  (have kk1 := uN [] hp; exact Wc0)
theorem parts_23 : AC Tryz.prog 196 [iv .u8 2, iv .u8 3] [] fun y σ => y = .t [.b 15 0 5, bv true] ∧ σ = [qo7, .box 4 [bv true], qo4, qo0, qo5, qo2, qo8, .box 4 [bv false], qo6, qo1, .box 380 [.f (.func 280) [] []], .box 364 [.f (.func 326) [] [], .f (.func 327) [] [.p 10 0], .f (.func 328) [] [.p 10 0], .f (.func 329) [] [.p 10 0]], .box 3 [iv .i64 32768], .box 4 [bv false], .box 377 [.f (.func 283) [] []], .box 364 [.f (.func 321) [] [.p 1 0, .p 2 0, .p 0 0], .f (.func 323) [] [.p 0 0, .p 2 0], .f (.func 324) [] [.p 0 0, .p 2 0, .p 1 0], .f (.func 325) [] [.p 2 0], .f (.func 351) [] [], .f (.func 352) [] [], .f (.func 353) [] [], .f (.func 354) [] [], .f (.func 355) [] [], .f (.func 356) [] [], .f (.func 357) [] [], .f (.func 358) [] [], .f (.func 326) [] [], .f (.func 327) [] [.p 10 0], .f (.func 328) [] [.p 10 0], .f (.func 329) [] [.p 10 0], .f (.func 321) [] [.p 13 0, .p 14 0, .p 12 0], .f (.func 323) [] [.p 12 0, .p 14 0], .f (.func 324) [] [.p 12 0, .p 14 0, .p 13 0], .f (.func 325) [] [.p 14 0]]] := by
  refine AC.wk Tryz.func196 ?_
  (have kk1 := uN [] (msg_text 128 true 272); have kk2 := uN [] (msg_flag 274); have kk3 := uN [] (msg_text 64 false 275); have kk4 := uN [] (msg_flag 280); have kk5 := uN [] (msg_text 32768 false 283); have kk6 := uN [] msg_ctxPart; have kk7 := uN [] msg_metaPart; exact We16)
theorem has_23 : AC Tryz.prog 95 [iv .u8 2, iv .u8 3] [] fun y σ => y = bv true ∧ σ = [] := by
  refine AC.wk Tryz.func95 ?_
  have hp := parts_23
  (have kk1 := uN [] hp; exact Wc0)
theorem parts_24 : AC Tryz.prog 196 [iv .u8 2, iv .u8 4] [] fun y σ => y = .t [.b 10 0 1, bv true] ∧ σ = [qo7, .box 4 [bv true], qo4, qo0, qo5, qo2, qo8, .box 4 [bv false], qo6, qo1, .box 364 [.f (.func 351) [] [], .f (.func 352) [] [], .f (.func 353) [] [], .f (.func 354) [] []]] := by
  refine AC.wk Tryz.func196 ?_
  (have kk1 := uN [] (msg_text 128 true 272); have kk2 := uN [] (msg_flag 274); have kk3 := uN [] (msg_text 64 false 275); have kk4 := uN [] msg_ctxPart; exact We11)
theorem has_24 : AC Tryz.prog 95 [iv .u8 2, iv .u8 4] [] fun y σ => y = bv true ∧ σ = [] := by
  refine AC.wk Tryz.func95 ?_
  have hp := parts_24
  (have kk1 := uN [] hp; exact Wc0)
theorem parts_25 : AC Tryz.prog 196 [iv .u8 2, iv .u8 5] [] fun y σ => y = .t [.b 13 0 1, bv true] ∧ σ = [qo7, .box 4 [bv true], qo4, qo0, qo5, qo2, qo8, .box 4 [bv false], qo6, qo1, .box 3 [iv .i64 31], .box 4 [bv false], .box 377 [.f (.func 284) [] []], .box 364 [.f (.func 321) [] [.p 11 0, .p 12 0, .p 10 0], .f (.func 323) [] [.p 10 0, .p 12 0], .f (.func 324) [] [.p 10 0, .p 12 0, .p 11 0], .f (.func 325) [] [.p 12 0]]] := by
  refine AC.wk Tryz.func196 ?_
  (have kk1 := uN [] (msg_text 128 true 272); have kk2 := uN [] (msg_flag 274); have kk3 := uN [] (msg_text 64 false 275); have kk4 := uN [] (msg_text 31 false 284); exact We14)
theorem has_25 : AC Tryz.prog 95 [iv .u8 2, iv .u8 5] [] fun y σ => y = bv true ∧ σ = [] := by
  refine AC.wk Tryz.func95 ?_
  have hp := parts_25
  (have kk1 := uN [] hp; exact Wc0)
theorem parts_26 : AC Tryz.prog 196 [iv .u8 2, iv .u8 6] [] fun y σ => y = .t [.b 10 0 1, bv true] ∧ σ = [qo7, .box 4 [bv true], qo4, qo0, qo5, qo2, qo8, .box 4 [bv false], qo6, qo1, .box 364 [.f (.func 359) [] [], .f (.func 361) [] [], .f (.func 363) [] [], .f (.func 364) [] []]] := by
  refine AC.wk Tryz.func196 ?_
  (have kk1 := uN [] (msg_text 128 true 272); have kk2 := uN [] (msg_flag 274); have kk3 := uN [] (msg_text 64 false 275); have kk4 := uN [] msg_pagePart; exact We11)
theorem has_26 : AC Tryz.prog 95 [iv .u8 2, iv .u8 6] [] fun y σ => y = bv true ∧ σ = [] := by
  refine AC.wk Tryz.func95 ?_
  have hp := parts_26
  (have kk1 := uN [] hp; exact Wc0)
theorem parts_27 : AC Tryz.prog 196 [iv .u8 2, iv .u8 7] [] fun y σ => y = .t [.b 10 0 1, bv true] ∧ σ = [qo7, .box 4 [bv true], qo4, qo0, qo5, qo2, qo8, .box 4 [bv false], qo6, qo1, .box 364 [.f (.func 367) [] [], .f (.func 369) [] [], .f (.func 371) [] [], .f (.func 372) [] []]] := by
  refine AC.wk Tryz.func196 ?_
  (have kk1 := uN [] (msg_text 128 true 272); have kk2 := uN [] (msg_flag 274); have kk3 := uN [] (msg_text 64 false 275); have kk4 := uN [] msg_ringPart; exact We11)
theorem has_27 : AC Tryz.prog 95 [iv .u8 2, iv .u8 7] [] fun y σ => y = bv true ∧ σ = [] := by
  refine AC.wk Tryz.func95 ?_
  have hp := parts_27
  (have kk1 := uN [] hp; exact Wc0)
theorem parts_28 : AC Tryz.prog 196 [iv .u8 2, iv .u8 8] [] fun y σ => y = .t [.b 10 0 2, bv true] ∧ σ = [qo7, .box 4 [bv true], qo4, qo0, qo5, qo2, qo8, .box 4 [bv false], qo6, qo1, .box 364 [.f (.func 347) [] [], .f (.func 348) [] [], .f (.func 349) [] [], .f (.func 350) [] [], .f (.func 321) [] [.p 7 0, .p 8 0, .p 6 0], .f (.func 323) [] [.p 6 0, .p 8 0], .f (.func 324) [] [.p 6 0, .p 8 0, .p 7 0], .f (.func 325) [] [.p 8 0]]] := by
  refine AC.wk Tryz.func196 ?_
  (have kk1 := uN [] (msg_text 128 true 272); have kk2 := uN [] (msg_flag 274); have kk3 := uN [] (msg_text 64 false 275); have kk4 := uN [] msg_codePart; exact We11)
theorem has_28 : AC Tryz.prog 95 [iv .u8 2, iv .u8 8] [] fun y σ => y = bv true ∧ σ = [] := by
  refine AC.wk Tryz.func95 ?_
  have hp := parts_28
  (have kk1 := uN [] hp; exact Wc0)
theorem parts_29 : AC Tryz.prog 196 [iv .u8 2, iv .u8 9] [] fun y σ => y = .t [.b 10 0 1, bv true] ∧ σ = [qo7, .box 4 [bv true], qo4, qo0, qo5, qo2, qo8, .box 4 [bv false], qo6, qo1, qo3] := by
  refine AC.wk Tryz.func196 ?_
  (have kk1 := uN [] (msg_text 128 true 272); have kk2 := uN [] (msg_flag 274); have kk3 := uN [] (msg_text 64 false 275); have kk4 := uN [] msg_objectPart; exact We11)
theorem has_29 : AC Tryz.prog 95 [iv .u8 2, iv .u8 9] [] fun y σ => y = bv true ∧ σ = [] := by
  refine AC.wk Tryz.func95 ?_
  have hp := parts_29
  (have kk1 := uN [] hp; exact Wc0)
end Go.AW
