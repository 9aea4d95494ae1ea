/-
  vectors that are read: the program's and the document's.
-/
import Derived.Test.YtdjeilbhdleopaaGreatP12
set_option linter.unusedVariables false
set_option linter.unusedSimpArgs false
set_option maxHeartbeats 4000000
set_option maxRecDepth 10000
namespace Go.AW
open Go Go.Proofs
attribute [local irreducible] thenQ blockQ RetQ AL AW AC AOp
abbrev Vfam := Fam Cu.ent (fun (_ : List UInt8) (x : En) => x.1)
def Vec.last (v : Vec) (p : List UInt8) : Prop := (v = [] ∧ p = []) ∨ (0 < v.length ∧ p.length ≤ 32 ∧ ∃ n r, v.drop (v.length - 1) = (p, n) :: r)
theorem Vec.last_snoc (v : Vec) (a : List UInt8) (m : Nat) (ha : a.length ≤ 32) : (v ++ [(a, m)] : Vec).last a :=
  .inr ⟨by simp, ha, m, [], by simp⟩
theorem vec_snoc (v : Vec) (a : List UInt8) (m : Nat) : vecD v ++ [.s (.string ⟨a.toArray⟩), .s (.int .u64 m)] = vecD (v ++ [(a, m)]) := by
  rw [vecD, vecD, List.map_append, List.flatten_append]; rfl
theorem gd_name_empty (p : List UInt8) (c : Cu) : gd (lessB p []) 6 (gd (decide (([] : List UInt8) ≠ [])) 14 c) = c.fail 14 := by
  have h1 : lessB p [] = false := less_nil p
  have h2 : decide (([] : List UInt8) ≠ []) = false := by simp
  rw [h1, h2]
  exact Cu.fail_stuck (Cu.fail_e (by decide)) 6
theorem gd_name_order {p t : List UInt8} {c : Cu} (ht : t ≠ []) (h : lessB p t = false) : gd (lessB p t) 6 (gd (decide (t ≠ [])) 14 c) = c.fail 6 := by
  have h2 : decide (t ≠ []) = true := by simpa using ht
  rw [h, h2]; rfl
theorem gd_name_ok {p t : List UInt8} {c : Cu} (ht : t ≠ []) (h : lessB p t = true) : gd (lessB p t) 6 (gd (decide (t ≠ [])) 14 c) = c := by
  have h2 : decide (t ≠ []) = true := by simpa using ht
  rw [h, h2]; rfl
theorem vcode_Take (s : List UInt8) (a : Nat) (e : Int) (h : Cu.Ok ⟨s, a, e⟩) : AC Tryz.prog 200 [.p 0 0] [Cu.ob ⟨s, a, e⟩] fun x σ => x = .d (.l (Cu.vec ⟨s, a, e⟩).1.length (vecD (Cu.vec ⟨s, a, e⟩).1)) ∧ σ = [Cu.ob (Cu.vec ⟨s, a, e⟩).2] := by
  refine AC.wk Tryz.func200 ?_
  have hlt : (Cu.count ⟨s, a, e⟩ 64).1 ≤ 64 := Cu.count_max ⟨s, a, e⟩ 64
  have hok0 := Cu.count_ok (max := 64) h
  have hvec : Cu.vec ⟨s, a, e⟩ = (if ((Cu.count ⟨s, a, e⟩ 64).2.ents (Cu.count ⟨s, a, e⟩ 64).1 []).2.e ≠ 0 then [] else ((Cu.count ⟨s, a, e⟩ 64).2.ents (Cu.count ⟨s, a, e⟩ 64).1 []).1, ((Cu.count ⟨s, a, e⟩ 64).2.ents (Cu.count ⟨s, a, e⟩ 64).1 []).2) := rfl
  rw [hvec]
  generalize hz : Cu.count ⟨s, a, e⟩ 64 = z at *
  obtain ⟨n, c0⟩ := z
  simp only at hlt hok0 ⊢
  clear hvec
  focus (have kxs := hz; have kk1 := uN [0] (blob_Count s a e 64 h (by decide)); (repeat' (first | (refine ADr.nil ?_; try clear hgv) | refine GO ?_ | refine AW.ret ?_ | (refine GC ?_ ?_ <;> intro h <;> (try simp only [hsB] at h) <;> try exact xf) | (refine GD ?_ ?_ <;> intro h <;> (try intro hgv) <;> (try simp only [hsN] at h) <;> (try simp only [h]) <;> (try simp only [hsB] at h) <;> try exact xf) | (refine GL ?_ ?_ <;> intro h <;> (try simp only [hsN] at h) <;> (try simp only [h]) <;> (try simp only [hsB] at h) <;> try exact xf) | fail)); all_goals clear kxs kk1)
  refine AW.birth 35 2 [4] [] ?_
  refine AW.rounds [0, 2, 3, 4] (fun x : Vec × List UInt8 × Cu => [(0, .p 0 0), (2, .d (.s (.slice none 0 0))), (3, iv .i64 n), (4, .o 1 x.1.length)]) (fun x => [Cu.ob x.2.2, .row 35 2 x.1.length (vecD x.1)])
    (fun x => x.2.2.Ok ∧ (x.2.2.e = 0 → Vec.last x.1 x.2.1) ∧ Vfam n [] c0 x.1 x.2.1 x.2.2) (fun x => n - x.1.length) ([], [], c0) ⟨hok0, fun _ => .inl ⟨rfl, rfl⟩, Fam.start n [] c0⟩ rfl rfl (fun _ _ => Nat.le_of_ble_eq_true rfl) (fun _ _ => rfl) (fun _ _ => rfl) ?_
  rintro ⟨out, p, c⟩ ⟨hok, hlast, hf⟩ J hJ
  simp only at hok hlast hf ⊢
  by_cases hce : c.e = 0
  case neg =>
    have hbad := Fam.bad (fun k c h => (trip_ent k).stuck c h) hf hce
    have hb2 : (Cu.ents n [] c0).2 = c := hbad
    rw [hb2, if_pos hce]
    (have kk1 := uN [0] (cursor_Err c.s c.a c.e); exact Wd1)
  by_cases hlen : out.length < n
  case neg =>
    have hdone := Fam.done hf hce hlen
    have hb2 : Cu.ents n [] c0 = (out, c) := hdone
    rw [hb2]
    simp only
    rw [if_neg (by simpa using hce)]
    (have kk1 := uN [0] (cursor_Err c.s c.a c.e); exact Wd1)
  have hstep := Fam.step hf hce hlen
  have hbok := Cu.blob_ok (max := 32) hok
  have hlim := Cu.blob_lim c 32
  have hent : Cu.ent p c = (((c.blob 32).1, ((gd (lessB p (c.blob 32).1) 6 (gd (decide ((c.blob 32).1 ≠ [])) 14 (c.blob 32).2))).vnz.1), (gd (lessB p (c.blob 32).1) 6 (gd (decide ((c.blob 32).1 ≠ [])) 14 (c.blob 32).2)).vnz.2) := rfl
  generalize hb0 : c.blob 32 = y at *
  obtain ⟨t, c1⟩ := y
  have hb : Cu.blob ⟨c.s, c.a, c.e⟩ 32 = (t, c1) := hb0
  simp only at hlim hbok hent
  have hlast := hlast hce
  have hec1 : c1.e ≠ 0 → gd (lessB p t) 6 (gd (decide (t ≠ [])) 14 c1) = c1 := fun h => by rw [gd_stuck h, gd_stuck h]
  -- the rest, from the cursor behind the name on
  have key : ∀ q : Cu, gd (lessB p t) 6 (gd (decide (t ≠ [])) 14 c1) = q → q.Ok ∧ (c1.e ≠ 0 → q.e ≠ 0) ∧ Cu.ent p c = ((t, q.vtake.1), gd (decide (q.vtake.1 ≠ 0)) 7 q.vtake.2) ∧ q.vtake.2.Ok := fun q hq => by
    rw [hq] at hent
    have hqok : q.Ok := by rw [← hq]; exact gd_ok (gd_ok hbok)
    exact ⟨hqok, fun h => by rw [← hq, hec1 h]; exact h, hent, Cu.vtake_ok hqok⟩
  have fin : ∀ (q : Cu) (m : Nat) (c2 c3 : Cu), (c1.e ≠ 0 → q.e ≠ 0) → Cu.vtake q = (m, c2) → Cu.ent p c = ((t, q.vtake.1), gd (decide (q.vtake.1 ≠ 0)) 7 q.vtake.2) → gd (decide (m ≠ 0)) 7 c2 = c3 → c2.Ok →
      (out ++ [(t, m)]).length ≤ n ∧ c3.Ok ∧ (c3.e = 0 → Vec.last (out ++ [(t, m)]) t) ∧ Vfam n [] c0 (out ++ [(t, m)]) t c3 := by
    intro q m c2 c3 hqe hv he h3 hok2
    rw [hv] at he
    simp only at he
    rw [h3] at he
    rw [he] at hstep
    refine ⟨hstep.1, by rw [← h3]; exact gd_ok hok2, fun h0 => ?_, hstep⟩
    refine Vec.last_snoc out t m ?_
    have e1 : c1.e = 0 := by
      apply Decidable.byContradiction
      intro hn
      have hq := hqe hn
      have := trip_v.stuck q hq
      rw [hv] at this
      simp only at this
      rw [← h3, this, gd_stuck hq] at h0
      exact hq h0
    have := hlim e1
    simpa using this
  have go : ∀ (q : Cu) (m : Nat) (c2 : Cu), (c1.e ≠ 0 → q.e ≠ 0) → Cu.vtake q = (m, c2) → Cu.ent p c = ((t, q.vtake.1), gd (decide (q.vtake.1 ≠ 0)) 7 q.vtake.2) → c2.Ok →
      (m = 0 → ∀ T' σ', keepT T' [0, 2, 3, 4] = [(0, .p 0 0), (2, .d (.s (.slice none 0 0))), (3, iv .i64 n), (4, .o 1 (out.length + 1))] → σ'.take 2 = [Cu.ob (c2.fail 7), .row 35 2 (out.length + 1) (vecD out ++ [.s (.string ⟨t.toArray⟩), .s (.int .u64 m)])] → J T' σ') ∧
      (m ≠ 0 → ∀ T' σ', keepT T' [0, 2, 3, 4] = [(0, .p 0 0), (2, .d (.s (.slice none 0 0))), (3, iv .i64 n), (4, .o 1 (out.length + 1))] → σ'.take 2 = [Cu.ob c2, .row 35 2 (out.length + 1) (vecD out ++ [.s (.string ⟨t.toArray⟩), .s (.int .u64 m)])] → J T' σ') := by
    intro q m c2 hqe hv he hok2
    have hl : (out ++ [(t, m)]).length = out.length + 1 := by simp
    constructor
    · intro hm T' σ' h1 h2
      obtain ⟨f1, f2⟩ := fin q m c2 (c2.fail 7) hqe hv he (by unfold gd; rw [if_neg (by simpa using hm)]) hok2
      exact hJ (out ++ [(t, m)], t, c2.fail 7) T' σ' (by simp only [hl]; omega) f2 (by simp only [hl]; exact h1) (by rw [vec_snoc] at h2; simp only [hl]; exact h2)
    · intro hm T' σ' h1 h2
      obtain ⟨f1, f2⟩ := fin q m c2 c2 hqe hv he (by unfold gd; rw [if_pos (by simpa using hm)]) hok2
      exact hJ (out ++ [(t, m)], t, c2) T' σ' (by simp only [hl]; omega) f2 (by simp only [hl]; exact h1) (by rw [vec_snoc] at h2; simp only [hl]; exact h2)
  clear hJ fin hstep hf hent
  by_cases h1 : c1.e = 0
  case neg =>
    obtain ⟨hqok, hqe, he, hvok⟩ := key (c1) (hec1 h1)
    generalize hv : Cu.vtake (c1) = w at *
    obtain ⟨m, c2⟩ := w
    have hv' : Cu.vtake ⟨(c1).s, (c1).a, (c1).e⟩ = (m, c2) := hv
    simp only at hvok
    obtain ⟨g7, g0⟩ := go (c1) m c2 hqe hv (by rw [hv]; exact he) hvok
    focus (have kxs := And.intro hb hv'; have kk1 := uN [0] (blob_Take c.s c.a c.e 32 hok (by decide)); have kuc1 := fun za zb zc => uN [0] (cursor_Err za zb zc); have kk2 := uN [0] (varint_Take (c1).s (c1).a (c1).e hqok); have kua1 := fun za => uN [0] (cursor_Fail c1.s c1.a c1.e za); have kk3 := uN [0] (cursor_Fail c2.s c2.a c2.e 7); (repeat' (first | (refine ADr.nil ?_; try clear hgv) | refine GO ?_ | refine AW.ret ?_ | (refine GC ?_ ?_ <;> intro h <;> (try simp only [hsB] at h) <;> try exact xf) | (refine GD ?_ ?_ <;> intro h <;> (try intro hgv) <;> (try simp only [hsN] at h) <;> (try simp only [h]) <;> (try simp only [hsB] at h) <;> try exact xf) | (refine GL ?_ ?_ <;> intro h <;> (try simp only [hsN] at h) <;> (try simp only [h]) <;> (try simp only [hsB] at h) <;> try exact xf) | fail)); all_goals clear kxs kk1 kuc1 kk2 kua1 kk3)
    all_goals first | exact g7 (by omega) _ _ rfl rfl | exact g0 (by omega) _ _ rfl rfl | (exfalso; simp_all; done)
  by_cases h2 : t = []
  · subst h2
    obtain ⟨hqok, hqe, he, hvok⟩ := key (c1.fail 14) (gd_name_empty p c1)
    generalize hv : Cu.vtake (c1.fail 14) = w at *
    obtain ⟨m, c2⟩ := w
    have hv' : Cu.vtake ⟨(c1.fail 14).s, (c1.fail 14).a, (c1.fail 14).e⟩ = (m, c2) := hv
    simp only at hvok
    obtain ⟨g7, g0⟩ := go (c1.fail 14) m c2 hqe hv (by rw [hv]; exact he) hvok
    focus (have kxs := And.intro hb hv'; have kk1 := uN [0] (blob_Take c.s c.a c.e 32 hok (by decide)); have kuc1 := fun za zb zc => uN [0] (cursor_Err za zb zc); have kk2 := uN [0] (varint_Take (c1.fail 14).s (c1.fail 14).a (c1.fail 14).e hqok); have kua1 := fun za => uN [0] (cursor_Fail c1.s c1.a c1.e za); have kk3 := uN [0] (cursor_Fail c2.s c2.a c2.e 7); (repeat' (first | (refine ADr.nil ?_; try clear hgv) | refine GO ?_ | refine AW.ret ?_ | (refine GC ?_ ?_ <;> intro h <;> (try simp only [hsB] at h) <;> try exact xf) | (refine GD ?_ ?_ <;> intro h <;> (try intro hgv) <;> (try simp only [hsN] at h) <;> (try simp only [h]) <;> (try simp only [hsB] at h) <;> try exact xf) | (refine GL ?_ ?_ <;> intro h <;> (try simp only [hsN] at h) <;> (try simp only [h]) <;> (try simp only [hsB] at h) <;> try exact xf) | fail)); all_goals clear kxs kk1 kuc1 kk2 kua1 kk3)
    all_goals first | exact g7 (by omega) _ _ rfl rfl | exact g0 (by omega) _ _ rfl rfl | (exfalso; simp_all; done)
  rcases hlast with ⟨rfl, rfl⟩ | ⟨hlo, hpl, pn, pr, hpd⟩
  · have hl0 : lessB [] t = true := by
      cases hx : t with
      | nil => exact absurd hx h2
      | cons b u => exact less_nil_cons b u
    obtain ⟨hqok, hqe, he, hvok⟩ := key (c1) (gd_name_ok h2 hl0)
    generalize hv : Cu.vtake (c1) = w at *
    obtain ⟨m, c2⟩ := w
    have hv' : Cu.vtake ⟨(c1).s, (c1).a, (c1).e⟩ = (m, c2) := hv
    simp only at hvok
    obtain ⟨g7, g0⟩ := go (c1) m c2 hqe hv (by rw [hv]; exact he) hvok
    focus (have kxs := And.intro hb hv'; have kk1 := uN [0] (blob_Take c.s c.a c.e 32 hok (by decide)); have kuc1 := fun za zb zc => uN [0] (cursor_Err za zb zc); have kk2 := uN [0] (varint_Take (c1).s (c1).a (c1).e hqok); have kua1 := fun za => uN [0] (cursor_Fail c1.s c1.a c1.e za); have kk3 := uN [0] (cursor_Fail c2.s c2.a c2.e 7); (repeat' (first | (refine ADr.nil ?_; try clear hgv) | refine GO ?_ | refine AW.ret ?_ | (refine GC ?_ ?_ <;> intro h <;> (try simp only [hsB] at h) <;> try exact xf) | (refine GD ?_ ?_ <;> intro h <;> (try intro hgv) <;> (try simp only [hsN] at h) <;> (try simp only [h]) <;> (try simp only [hsB] at h) <;> try exact xf) | (refine GL ?_ ?_ <;> intro h <;> (try simp only [hsN] at h) <;> (try simp only [h]) <;> (try simp only [hsB] at h) <;> try exact xf) | fail)); all_goals clear kxs kk1 kuc1 kk2 kua1 kk3)
    all_goals first | exact g7 (by omega) _ _ rfl rfl | exact g0 (by omega) _ _ rfl rfl | (exfalso; simp_all; done)
  have hcd := vec_drop hpd
  have hi1 : ((out.length : Int) - 1).toNat = out.length - 1 := by omega
  have htri := less_tri t p
  by_cases h3 : lessB p t = true
  · have h3' : Op.bytesLess p t = true := h3
    obtain ⟨hqok, hqe, he, hvok⟩ := key (c1) (gd_name_ok h2 h3)
    generalize hv : Cu.vtake (c1) = w at *
    obtain ⟨m, c2⟩ := w
    have hv' : Cu.vtake ⟨(c1).s, (c1).a, (c1).e⟩ = (m, c2) := hv
    simp only at hvok
    obtain ⟨g7, g0⟩ := go (c1) m c2 hqe hv (by rw [hv]; exact he) hvok
    focus (have kxs := And.intro hb (And.intro hv' (And.intro hcd (And.intro hi1 (And.intro htri h3')))); have kk1 := uN [0] (blob_Take c.s c.a c.e 32 hok (by decide)); have kuc1 := fun za zb zc => uN [0] (cursor_Err za zb zc); have kk2 := uN [0] (varint_Take (c1).s (c1).a (c1).e hqok); have kua1 := fun za => uN [0] (cursor_Fail c1.s c1.a c1.e za); have kk3 := uN [0] (cursor_Fail c2.s c2.a c2.e 7); (repeat' (first | (refine ADr.nil ?_; try clear hgv) | refine GO ?_ | refine AW.ret ?_ | (refine GC ?_ ?_ <;> intro h <;> (try simp only [hsB] at h) <;> try exact xf) | (refine GD ?_ ?_ <;> intro h <;> (try intro hgv) <;> (try simp only [hsN] at h) <;> (try simp only [h]) <;> (try simp only [hsB] at h) <;> try exact xf) | (refine GL ?_ ?_ <;> intro h <;> (try simp only [hsN] at h) <;> (try simp only [h]) <;> (try simp only [hsB] at h) <;> try exact xf) | fail)); all_goals clear kxs kk1 kuc1 kk2 kua1 kk3)
    all_goals first | exact g7 (by omega) _ _ rfl rfl | exact g0 (by omega) _ _ rfl rfl | (exfalso; simp_all; done)
  · have h3' : Op.bytesLess p t = false := by simpa using h3
    obtain ⟨hqok, hqe, he, hvok⟩ := key (c1.fail 6) (gd_name_order h2 h3')
    generalize hv : Cu.vtake (c1.fail 6) = w at *
    obtain ⟨m, c2⟩ := w
    have hv' : Cu.vtake ⟨(c1.fail 6).s, (c1.fail 6).a, (c1.fail 6).e⟩ = (m, c2) := hv
    simp only at hvok
    obtain ⟨g7, g0⟩ := go (c1.fail 6) m c2 hqe hv (by rw [hv]; exact he) hvok
    focus (have kxs := And.intro hb (And.intro hv' (And.intro hcd (And.intro hi1 (And.intro htri h3')))); have kk1 := uN [0] (blob_Take c.s c.a c.e 32 hok (by decide)); have kuc1 := fun za zb zc => uN [0] (cursor_Err za zb zc); have kk2 := uN [0] (varint_Take (c1.fail 6).s (c1.fail 6).a (c1.fail 6).e hqok); have kua1 := fun za => uN [0] (cursor_Fail c1.s c1.a c1.e za); have kk3 := uN [0] (cursor_Fail c2.s c2.a c2.e 7); (repeat' (first | (refine ADr.nil ?_; try clear hgv) | refine GO ?_ | refine AW.ret ?_ | (refine GC ?_ ?_ <;> intro h <;> (try simp only [hsB] at h) <;> try exact xf) | (refine GD ?_ ?_ <;> intro h <;> (try intro hgv) <;> (try simp only [hsN] at h) <;> (try simp only [h]) <;> (try simp only [hsB] at h) <;> try exact xf) | (refine GL ?_ ?_ <;> intro h <;> (try simp only [hsN] at h) <;> (try simp only [h]) <;> (try simp only [hsB] at h) <;> try exact xf) | fail)); all_goals clear kxs kk1 kuc1 kk2 kua1 kk3)
    all_goals first | exact g7 (by omega) _ _ rfl rfl | exact g0 (by omega) _ _ rfl rfl | (exfalso; simp_all; done)
theorem Cu.fail_ok0 {c : Cu} (h : c.e = 0) (f : Int) : c.fail f = ⟨c.s, c.a, f⟩ := by unfold Cu.fail; rw [if_pos h]
theorem ref11_Take (s : List UInt8) (a : Nat) (e : Int) (h : Cu.Ok ⟨s, a, e⟩) : AC Tryz.prog 215 [.p 0 0] [Cu.ro ⟨s, a, e⟩] fun x σ => x = .d (.l (Cu.vec ⟨s, a, e⟩).1.length (vecD (Cu.vec ⟨s, a, e⟩).1)) ∧ σ = [Cu.ro (Cu.vec ⟨s, a, e⟩).2] := by
  refine AC.wk Tryz.func215 ?_
  have hlt : (Cu.count ⟨s, a, e⟩ 64).1 ≤ 64 := Cu.count_max ⟨s, a, e⟩ 64
  have hok0 := Cu.count_ok (max := 64) h
  have hvec : Cu.vec ⟨s, a, e⟩ = (if ((Cu.count ⟨s, a, e⟩ 64).2.ents (Cu.count ⟨s, a, e⟩ 64).1 []).2.e ≠ 0 then [] else ((Cu.count ⟨s, a, e⟩ 64).2.ents (Cu.count ⟨s, a, e⟩ 64).1 []).1, ((Cu.count ⟨s, a, e⟩ 64).2.ents (Cu.count ⟨s, a, e⟩ 64).1 []).2) := rfl
  rw [hvec]
  have hze : (Cu.count ⟨s, a, e⟩ 64).2.e = 0 ∨ (Cu.count ⟨s, a, e⟩ 64).1 = 0 := by
    unfold Cu.count
    by_cases h1 : (Cu.vtake ⟨s, a, e⟩).2.e = 0
    · rw [if_neg (by simpa using h1)]
      split
      · exact .inr rfl
      · exact .inl h1
    · rw [if_pos h1]; exact .inr rfl
  generalize hz : Cu.count ⟨s, a, e⟩ 64 = z at *
  obtain ⟨n, c0⟩ := z
  simp only at hlt hok0 hze ⊢
  clear hvec
  focus (have kxs := hz; have kk1 := uN [0] (ref06_Count s a e 64 h (by decide)); (repeat' (first | refine G ?_ | refine AW.ret ?_ | (refine GC ?_ ?_ <;> intro h <;> (try simp only [hsB] at h) <;> try exact xf) | (refine GL ?_ ?_ <;> intro h <;> (try simp only [hsN] at h) <;> (try simp only [h]) <;> (try simp only [hsB] at h) <;> try exact xf) | fail)); all_goals clear kxs kk1)
  refine AW.birth 35 2 [4] [] ?_
  refine AW.rounds [0, 2, 3, 4, 5] (fun x : Vec × List UInt8 × Cu => [(0, .p 0 0), (2, .d (.s (.slice none 0 0))), (3, iv .i64 n), (4, .o 1 x.1.length), (5, iv .i64 x.1.length)]) (fun x => [Cu.ro x.2.2, .row 35 2 x.1.length (vecD x.1)])
    (fun x => x.2.2.Ok ∧ (x.2.2.e = 0 ∨ n = 0) ∧ Vec.last x.1 x.2.1 ∧ Vfam n [] c0 x.1 x.2.1 x.2.2) (fun x => n - x.1.length) ([], [], c0) ⟨hok0, hze, .inl ⟨rfl, rfl⟩, Fam.start n [] c0⟩ rfl rfl (fun _ _ => Nat.le_of_ble_eq_true rfl) (fun _ _ => rfl) (fun _ _ => rfl) ?_
  rintro ⟨out, p, c⟩ ⟨hok, hcn, hlast, hf⟩ J hJ
  simp only at hok hcn hlast hf ⊢
  have hst : ∀ (k : List UInt8) (c : Cu), c.e ≠ 0 → (Cu.ent k c).2 = c := fun k c h => (trip_ent k).stuck c h
  by_cases hlen : out.length < n
  case neg =>
    by_cases hce : c.e = 0
    · have hb2 : Cu.ents n [] c0 = (out, c) := Fam.done hf hce hlen
      rw [hb2]
      simp only
      rw [if_neg (by simpa using hce)]
      exact Wc1
    · have hb2 : (Cu.ents n [] c0).2 = c := Fam.bad hst hf hce
      have hfl := hf.1
      have hn0 : out.length = 0 := by omega
      have ho : out = [] := List.length_eq_zero_iff.1 hn0
      subst ho
      rw [hb2, if_pos hce]
      exact Wc1
  have hce : c.e = 0 := by omega
  have hstep := Fam.step hf hce hlen
  have hbok := Cu.blob_ok (max := 32) hok
  have hlim := Cu.blob_lim c 32
  have hent : Cu.ent p c = (((c.blob 32).1, ((gd (lessB p (c.blob 32).1) 6 (gd (decide ((c.blob 32).1 ≠ [])) 14 (c.blob 32).2))).vnz.1), (gd (lessB p (c.blob 32).1) 6 (gd (decide ((c.blob 32).1 ≠ [])) 14 (c.blob 32).2)).vnz.2) := rfl
  generalize hb0 : c.blob 32 = y at *
  obtain ⟨t, c1⟩ := y
  have hb : Cu.blob ⟨c.s, c.a, c.e⟩ 32 = (t, c1) := hb0
  simp only at hlim hbok hent
  -- an error: no more is read
  have bad : ∀ c3 : Cu, (Cu.ent p c).2 = c3 → c3.e ≠ 0 → (Cu.ents n [] c0).2 = c3 := fun c3 h3 he => by
    rw [h3] at hstep
    exact Fam.bad hst hstep he
  have vbad : ∀ q : Cu, q.e ≠ 0 → q.vnz.2 = q := fun q hq => trip_vnz.stuck q hq
  by_cases h1 : c1.e = 0
  case neg =>
    have hb2 := bad c1 (by rw [hent, gd_stuck h1, gd_stuck h1]; exact vbad c1 h1) h1
    rw [hb2, if_pos h1]
    (have kxs := hb; have kk1 := uN [0] (ref06_Take c.s c.a c.e 32 hok (by decide)); exact Wc1)
  by_cases h2 : t = []
  · subst h2
    have hb2 := bad (c1.fail 14) (by rw [hent, gd_name_empty]; exact vbad _ (Cu.fail_e (by decide))) (Cu.fail_e (by decide))
    rw [hb2, if_pos (Cu.fail_e (by decide)), Cu.fail_ok0 h1]
    (have kxs := hb; have kk1 := uN [0] (ref06_Take c.s c.a c.e 32 hok (by decide)); exact Wc1)
  have htl : t.length ≤ 32 := by simpa using hlim h1
  have ht0 : 0 < t.length := List.length_pos_iff.2 h2
  -- behind a name that is right
  have good : gd (lessB p t) 6 (gd (decide (t ≠ [])) 14 c1) = c1 → ∀ (m : Nat) (c2 : Cu), Cu.vtake c1 = (m, c2) →
      (c2.e ≠ 0 → (Cu.ents n [] c0).2 = c2) ∧ (c2.e = 0 → m = 0 → (Cu.ents n [] c0).2 = c2.fail 7) ∧
      (c2.e = 0 → m ≠ 0 → ∀ T' σ', keepT T' [0, 2, 3, 4, 5] = [(0, .p 0 0), (2, .d (.s (.slice none 0 0))), (3, iv .i64 n), (4, .o 1 (out.length + 1)), (5, iv .i64 ((out.length : Int) + 1))] → σ'.take 2 = [Cu.ro c2, .row 35 2 (out.length + 1) (vecD out ++ [.s (.string ⟨t.toArray⟩), .s (.int .u64 m)])] → J T' σ') := by
    intro hg m c2 hv
    rw [hg] at hent
    have hv1 : c1.vnz = (m, gd (decide (m ≠ 0)) 7 c2) := by unfold Cu.vnz; rw [hv]
    rw [hv1] at hent
    have hok2 : c2.Ok := by have := Cu.vtake_ok hbok; rw [hv] at this; exact this
    refine ⟨fun h0 => bad c2 (by rw [hent]; exact gd_stuck h0 _ _) h0, fun h0 hm => bad (c2.fail 7) (by rw [hent, hm]; rfl) (Cu.fail_e (by decide)), fun h0 hm T' σ' g1 g2 => ?_⟩
    have hd : decide (m ≠ 0) = true := by simpa using hm
    have hent2 : Cu.ent p c = ((t, m), c2) := by rw [hent, hd]; rfl
    rw [hent2] at hstep
    have hl : (out ++ [(t, m)]).length = out.length + 1 := by simp
    exact hJ (out ++ [(t, m)], t, c2) T' σ' (by simp only [hl]; omega) ⟨hok2, .inl h0, Vec.last_snoc out t m htl, hstep⟩ (by simp only [hl]; exact g1) (by rw [vec_snoc] at g2; simp only [hl]; exact g2)
  have h10 : t.length ≠ 0 := by omega
  have hbok' : Cu.Ok ⟨c1.s, c1.a, c1.e⟩ := hbok
  rcases hlast with ⟨rfl, rfl⟩ | ⟨hlo, hpl, pn, pr, hpd⟩
  · have hl0 : lessB [] t = true := by
      cases hx : t with
      | nil => exact absurd hx h2
      | cons b u => exact less_nil_cons b u
    have good := good (gd_name_ok h2 hl0)
    generalize hv : c1.vtake = w at *
    obtain ⟨m, c2⟩ := w
    have hv' : Cu.vtake ⟨c1.s, c1.a, c1.e⟩ = (m, c2) := hv
    obtain ⟨g1, g2, g3⟩ := good m c2 rfl
    by_cases h5 : c2.e = 0
    case neg =>
      rw [g1 h5, if_pos h5]
      (have kxs := And.intro hb hv'; have kk1 := uN [0] (ref06_Take c.s c.a c.e 32 hok (by decide)); have kk2 := uN [0] (ref03_Take c1.s c1.a c1.e hbok'); exact Wc1)
    by_cases h6 : m = 0
    · rw [g2 h5 h6, if_pos (Cu.fail_e (by decide)), Cu.fail_ok0 h5]
      (have kxs := And.intro hb hv'; have kk1 := uN [0] (ref06_Take c.s c.a c.e 32 hok (by decide)); have kk2 := uN [0] (ref03_Take c1.s c1.a c1.e hbok'); exact Wc1)
    · have g3 := g3 h5 h6
      focus (have kxs := And.intro hb hv'; have kk1 := uN [0] (ref06_Take c.s c.a c.e 32 hok (by decide)); have kk2 := uN [0] (ref03_Take c1.s c1.a c1.e hbok'); (repeat' (first | refine G ?_ | refine AW.ret ?_ | (refine GC ?_ ?_ <;> intro h <;> (try simp only [hsB] at h) <;> try exact xf) | (refine GL ?_ ?_ <;> intro h <;> (try simp only [hsN] at h) <;> (try simp only [h]) <;> (try simp only [hsB] at h) <;> try exact xf) | fail)); all_goals clear kxs kk1 kk2)
      all_goals first | exact g3 _ _ rfl rfl | (exfalso; simp_all; done)
  have hcd := vec_drop hpd
  have hi1 : ((out.length : Int) - 1).toNat = out.length - 1 := by omega
  by_cases h3 : lessB p t = true
  · have h3' : Op.bytesLess p t = true := h3
    have good := good (gd_name_ok h2 h3)
    generalize hv : c1.vtake = w at *
    obtain ⟨m, c2⟩ := w
    have hv' : Cu.vtake ⟨c1.s, c1.a, c1.e⟩ = (m, c2) := hv
    obtain ⟨g1, g2, g3⟩ := good m c2 rfl
    by_cases h5 : c2.e = 0
    case neg =>
      rw [g1 h5, if_pos h5]
      (have kxs := And.intro hb (And.intro hv' (And.intro hcd (And.intro hi1 h3'))); have kk1 := uN [0] (ref06_Take c.s c.a c.e 32 hok (by decide)); have kk2 := uN [] (ref06_Below p t (by omega) (by omega)); have kk3 := uN [0] (ref03_Take c1.s c1.a c1.e hbok'); exact Wc1)
    by_cases h6 : m = 0
    · rw [g2 h5 h6, if_pos (Cu.fail_e (by decide)), Cu.fail_ok0 h5]
      (have kxs := And.intro hb (And.intro hv' (And.intro hcd (And.intro hi1 h3'))); have kk1 := uN [0] (ref06_Take c.s c.a c.e 32 hok (by decide)); have kk2 := uN [] (ref06_Below p t (by omega) (by omega)); have kk3 := uN [0] (ref03_Take c1.s c1.a c1.e hbok'); exact Wc1)
    · have g3 := g3 h5 h6
      focus (have kxs := And.intro hb (And.intro hv' (And.intro hcd (And.intro hi1 h3'))); have kk1 := uN [0] (ref06_Take c.s c.a c.e 32 hok (by decide)); have kk2 := uN [] (ref06_Below p t (by omega) (by omega)); have kk3 := uN [0] (ref03_Take c1.s c1.a c1.e hbok'); (repeat' (first | refine G ?_ | refine AW.ret ?_ | (refine GC ?_ ?_ <;> intro h <;> (try simp only [hsB] at h) <;> try exact xf) | (refine GL ?_ ?_ <;> intro h <;> (try simp only [hsN] at h) <;> (try simp only [h]) <;> (try simp only [hsB] at h) <;> try exact xf) | fail)); all_goals clear kxs kk1 kk2 kk3)
      all_goals first | exact g3 _ _ rfl rfl | (exfalso; simp_all; done)
  · have h3' : Op.bytesLess p t = false := by simpa using h3
    have hb2 := bad (c1.fail 6) (by rw [hent, gd_name_order h2 h3']; exact vbad _ (Cu.fail_e (by decide))) (Cu.fail_e (by decide))
    rw [hb2, if_pos (Cu.fail_e (by decide)), Cu.fail_ok0 h1]
    (have kxs := And.intro hb (And.intro hcd (And.intro hi1 h3')); have kk1 := uN [0] (ref06_Take c.s c.a c.e 32 hok (by decide)); have kk2 := uN [] (ref06_Below p t (by omega) (by omega)); exact Wc1)
abbrev vecsD (l : List Vec) : List D := l.map fun v => D.l v.length (vecD v)
abbrev ckV (k : Ck) : V := .a [.d (.l k.ctx.length (vecD k.ctx)), bv k.dotted, sv (bs k.dot.1), iv .u64 k.dot.2]
def Ck.fits (k : Ck) : Prop := k.ctx.fits ∧ k.dot.1.length ≤ 9223372036854775807 ∧ k.dot.2 < 18446744073709551616
theorem ck_eq (k o : Ck) : (decide (k.ctx = o.ctx) && (decide (k.dotted = o.dotted) && (decide (k.dot.1 = o.dot.1) && (decide ((k.dot.2 : Int) = o.dot.2) && true)))) = true ↔ k = o := by
  obtain ⟨a, b, c, d⟩ := k
  obtain ⟨a', b', c', d'⟩ := o
  simp only [Bool.and_eq_true, decide_eq_true_eq, and_true, Int.natCast_inj, Ck.mk.injEq, Prod.mk.injEq]
instance : DecidableEq Ck := fun k o => decidable_of_iff _ (ck_eq k o)
def ckD (k : Ck) : List D := [.l k.ctx.length (vecD k.ctx), .s (.bool k.dotted), .s (.string ⟨k.dot.1.toArray⟩), .s (.int .u64 k.dot.2)]
abbrev cksD (l : List Ck) : List D := (l.map ckD).flatten
def prD (x : Pr) : List D := [.s (.string ⟨x.1.toArray⟩), .s (.string ⟨x.2.toArray⟩)]
abbrev prsD (v : Prs) : List D := (v.map prD).flatten
theorem prs_drop {v r : Prs} {x : Pr} {i : Nat} (h : v.drop i = x :: r) : (prsD v).drop (i * 2) = .s (.string ⟨x.1.toArray⟩) :: .s (.string ⟨x.2.toArray⟩) :: prsD r := by
  rw [prsD, flat_drop (f := prD) (sz := 2) (fun _ => rfl), h]; rfl
def Prs.fits (v : Prs) : Prop := v.length ≤ 9223372036854775807 ∧ (∀ x ∈ v, x.1.length ≤ 9223372036854775807) ∧ ∀ x ∈ v, x.2.length ≤ 9223372036854775807
def Prs.ahead (v : Prs) (i : Nat) (p : List UInt8) : Prop := (i = 0 ∧ p = []) ∨ (0 < i ∧ p.length ≤ 32 ∧ ∃ n r, v.drop (i - 1) = (p, n) :: r)
end Go.AW
