/-
  metadata that is read: the program's and the document's.
-/
import Derived.Test.YtbedecfkincemaaGreatX09
namespace Go.AW
open Go Go.Proofs
set_option maxHeartbeats 2000000
set_option maxRecDepth 10000
set_option linter.unusedSimpArgs false
set_option linter.unusedVariables false
attribute [local irreducible] thenQ blockQ RetQ AL AW AC AOp

abbrev Pfam := Fam Cu.pair (fun (_ : List UInt8) (x : Pr) => x.1)
/-- The name ahead, of a list that is being read. -/
def Prs.last (v : Prs) (p : List UInt8) : Prop := (v = [] ∧ p = []) ∨ (0 < v.length ∧ p.length ≤ 32 ∧ ∃ n r, v.drop (v.length - 1) = (p, n) :: r)
theorem Prs.last_snoc (v : Prs) (a : List UInt8) (m : List UInt8) (ha : a.length ≤ 32) : (v ++ [(a, m)] : Prs).last a :=
  .inr ⟨by simp, ha, m, [], by simp⟩
theorem prs_snoc (v : Prs) (a m : List UInt8) : prsD v ++ [.s (.string ⟨a.toArray⟩), .s (.string ⟨m.toArray⟩)] = prsD (v ++ [(a, m)]) := by
  rw [prsD, prsD, List.map_append, List.flatten_append]; rfl

theorem pairs_Take (s : List UInt8) (a : Nat) (e : Int) (h : Cu.Ok ⟨s, a, e⟩) : AC Tryz.prog 192 [.p 0 0] [Cu.ob ⟨s, a, e⟩] fun x σ => x = .d (.l (Cu.prs ⟨s, a, e⟩).1.length (prsD (Cu.prs ⟨s, a, e⟩).1)) ∧ σ = [Cu.ob (Cu.prs ⟨s, a, e⟩).2] := by
  refine AC.walk Tryz.func192 rfl (by decide) (of_decide_eq_true rfl) ?_
  have hlt : (Cu.count ⟨s, a, e⟩ 8).1 ≤ 8 := Cu.count_max ⟨s, a, e⟩ 8
  have hok0 := Cu.count_ok (max := 8) h
  have hvec : Cu.prs ⟨s, a, e⟩ = (if ((Cu.count ⟨s, a, e⟩ 8).2.pairs (Cu.count ⟨s, a, e⟩ 8).1 []).2.e ≠ 0 then [] else ((Cu.count ⟨s, a, e⟩ 8).2.pairs (Cu.count ⟨s, a, e⟩ 8).1 []).1, ((Cu.count ⟨s, a, e⟩ 8).2.pairs (Cu.count ⟨s, a, e⟩ 8).1 []).2) := rfl
  rw [hvec]
  generalize hz : Cu.count ⟨s, a, e⟩ 8 = z at *
  obtain ⟨n, c0⟩ := z
  simp only at hlt hok0 ⊢
  clear hvec
  focus (have kxs := hz; have kk1 := uN [0] (blob_Count s a e 8 h (by decide)); (repeat' (first | refine G ?_ | refine AW.ret ?_ | (refine GC ?_ ?_ <;> intro h <;> (try simp only [hsB] at h) <;> try exact xf) | (refine GL ?_ ?_ <;> intro h <;> (try simp only [hsN] at h) <;> (try simp only [h]) <;> (try simp only [hsB] at h) <;> try exact xf) | fail)); all_goals clear kxs kk1)
  refine AW.birth 219 2 [4] [] ?_
  refine AW.rounds [0, 2, 3, 4] (fun x : Prs × List UInt8 × Cu => [(0, .p 0 0), (2, .d (.s (.slice none 0 0))), (3, iv .i64 n), (4, .o 1 x.1.length)]) (fun x => [Cu.ob x.2.2, .row 219 2 x.1.length (prsD x.1)])
    (fun x => x.2.2.Ok ∧ (x.2.2.e = 0 → Prs.last x.1 x.2.1) ∧ Pfam n [] c0 x.1 x.2.1 x.2.2) (fun x => n - x.1.length) ([], [], c0) ⟨hok0, fun _ => .inl ⟨rfl, rfl⟩, Fam.start n [] c0⟩ rfl rfl (fun _ _ => Nat.le_of_ble_eq_true rfl) (fun _ _ => rfl) (fun _ _ => rfl) ?_
  rintro ⟨out, p, c⟩ ⟨hok, hlast, hf⟩ J hJ
  simp only at hok hlast hf ⊢
  by_cases hce : c.e = 0
  case neg =>
    have hbad := Fam.bad (fun k c h => (trip_pair k).stuck c h) hf hce
    have hb2 : (Cu.pairs n [] c0).2 = c := hbad
    rw [hb2, if_pos hce]
    focus (have kxs := kx0; have kk1 := uN [0] (cursor_Err c.s c.a c.e); (repeat' (first | refine G ?_ | refine AW.ret ?_ | (refine GC ?_ ?_ <;> intro h <;> (try simp only [hsB] at h) <;> try exact xf) | (refine GL ?_ ?_ <;> intro h <;> (try simp only [hsN] at h) <;> (try simp only [h]) <;> (try simp only [hsB] at h) <;> try exact xf) | fail)); all_goals clear kxs kk1)
    all_goals first | exact RetQ.fr 1 | exact RetQ.fn 1 | (exfalso; simp_all; done)
  by_cases hlen : out.length < n
  case neg =>
    have hdone := Fam.done hf hce hlen
    have hb2 : Cu.pairs n [] c0 = (out, c) := hdone
    rw [hb2]
    simp only
    rw [if_neg (by simpa using hce)]
    focus (have kxs := kx0; have kk1 := uN [0] (cursor_Err c.s c.a c.e); (repeat' (first | refine G ?_ | refine AW.ret ?_ | (refine GC ?_ ?_ <;> intro h <;> (try simp only [hsB] at h) <;> try exact xf) | (refine GL ?_ ?_ <;> intro h <;> (try simp only [hsN] at h) <;> (try simp only [h]) <;> (try simp only [hsB] at h) <;> try exact xf) | fail)); all_goals clear kxs kk1)
    all_goals first | exact RetQ.fr 1 | exact RetQ.fn 1 | (exfalso; simp_all; done)
  have hstep := Fam.step hf hce hlen
  have hbok := Cu.blob_ok (max := 32) hok
  have hlim := Cu.blob_lim c 32
  have hent : Cu.pair p c = (((c.blob 32).1, ((gd (lessB p (c.blob 32).1) 6 (gd (decide ((c.blob 32).1 ≠ [])) 14 (c.blob 32).2)).blob 32768).1), ((gd (lessB p (c.blob 32).1) 6 (gd (decide ((c.blob 32).1 ≠ [])) 14 (c.blob 32).2)).blob 32768).2) := rfl
  generalize hb0 : c.blob 32 = y at *
  obtain ⟨t, c1⟩ := y
  have hb : Cu.blob ⟨c.s, c.a, c.e⟩ 32 = (t, c1) := hb0
  simp only at hlim hbok hent
  have hlast := hlast hce
  have hec1 : c1.e ≠ 0 → gd (lessB p t) 6 (gd (decide (t ≠ [])) 14 c1) = c1 := fun h => by rw [gd_stuck h, gd_stuck h]
  have key : ∀ q : Cu, gd (lessB p t) 6 (gd (decide (t ≠ [])) 14 c1) = q → q.Ok ∧ ∃ m c2, Cu.blob ⟨q.s, q.a, q.e⟩ 32768 = (m, c2) ∧
      ∀ T' σ', keepT T' [0, 2, 3, 4] = [(0, .p 0 0), (2, .d (.s (.slice none 0 0))), (3, iv .i64 n), (4, .o 1 (out.length + 1))] → σ'.take 2 = [Cu.ob c2, .row 219 2 (out.length + 1) (prsD out ++ [.s (.string ⟨t.toArray⟩), .s (.string ⟨m.toArray⟩)])] → J T' σ' := fun q hq => by
    rw [hq] at hent
    have hqok : q.Ok := by rw [← hq]; exact gd_ok (gd_ok hbok)
    have hqe : c1.e ≠ 0 → q.e ≠ 0 := fun h => by rw [← hq, hec1 h]; exact h
    have hok2 := Cu.blob_ok (max := 32768) hqok
    have hst := (trip_blob 32768).stuck q
    refine ⟨hqok, (q.blob 32768).1, (q.blob 32768).2, rfl, ?_⟩
    generalize hv : q.blob 32768 = w at *
    obtain ⟨m, c2⟩ := w
    simp only at hent hok2 hst ⊢
    rw [hent] at hstep
    have hl : (out ++ [(t, m)]).length = out.length + 1 := by simp
    intro T' σ' h1 h2
    refine hJ (out ++ [(t, m)], t, c2) T' σ' (by simp only [hl]; omega) ⟨hok2, fun h0 => Prs.last_snoc out t m ?_, hstep⟩ (by simp only [hl]; exact h1) (by rw [prs_snoc] at h2; simp only [hl]; exact h2)
    have e1 : c1.e = 0 := by
      apply Decidable.byContradiction
      intro hn
      have hq := hqe hn
      rw [hst hq] at h0
      exact hq h0
    have := hlim e1
    simpa using this
  clear hJ hstep hf hent
  have st14 : c1.e ≠ 0 → Cu.fail ⟨c1.s, c1.a, c1.e⟩ 14 = c1 := fun h => Cu.fail_stuck (c := c1) h 14
  have st6 : c1.e ≠ 0 → Cu.fail ⟨c1.s, c1.a, c1.e⟩ 6 = c1 := fun h => Cu.fail_stuck (c := c1) h 6
  rcases hlast with ⟨rfl, rfl⟩ | ⟨hlo, hpl, pn, pr, hpd⟩
  · by_cases h1 : c1.e = 0
    case neg =>
      obtain ⟨hqok, m, c2, hv, go⟩ := key c1 (hec1 h1)
      have st14 := st14 h1
      have st6 := st6 h1
      focus (have kxs := And.intro hb (And.intro hv (And.intro st14 st6)); have kk1 := uN [0] (blob_Take c.s c.a c.e 32 hok (by decide)); have kuc1 := fun za zb zc => uN [0] (cursor_Err za zb zc); have kk2 := uN [0] (blob_Take c1.s c1.a c1.e 32768 hqok (by decide)); have kua1 := fun za => uN [0] (cursor_Fail c1.s c1.a c1.e za); (repeat' (first | refine G ?_ | refine AW.ret ?_ | (refine GC ?_ ?_ <;> intro h <;> (try simp only [hsB] at h) <;> try exact xf) | (refine GL ?_ ?_ <;> intro h <;> (try simp only [hsN] at h) <;> (try simp only [h]) <;> (try simp only [hsB] at h) <;> try exact xf) | fail)); all_goals clear kxs kk1 kuc1 kk2 kua1)
      all_goals first | exact go _ _ rfl rfl | (exfalso; simp_all; done)
    by_cases h2 : t = []
    · subst h2
      obtain ⟨hqok, m, c2, hv, go⟩ := key (c1.fail 14) (gd_name_empty [] c1)
      focus (have kxs := And.intro hb hv; have kk1 := uN [0] (blob_Take c.s c.a c.e 32 hok (by decide)); have kuc1 := fun za zb zc => uN [0] (cursor_Err za zb zc); have kk2 := uN [0] (blob_Take (c1.fail 14).s (c1.fail 14).a (c1.fail 14).e 32768 hqok (by decide)); have kua1 := fun za => uN [0] (cursor_Fail c1.s c1.a c1.e za); (repeat' (first | refine G ?_ | refine AW.ret ?_ | (refine GC ?_ ?_ <;> intro h <;> (try simp only [hsB] at h) <;> try exact xf) | (refine GL ?_ ?_ <;> intro h <;> (try simp only [hsN] at h) <;> (try simp only [h]) <;> (try simp only [hsB] at h) <;> try exact xf) | fail)); all_goals clear kxs kk1 kuc1 kk2 kua1)
      all_goals first | exact go _ _ rfl rfl | (exfalso; simp_all; done)
    have hl0 : lessB [] t = true := by
      cases hx : t with
      | nil => exact absurd hx h2
      | cons b u => exact less_nil_cons b u
    obtain ⟨hqok, m, c2, hv, go⟩ := key c1 (gd_name_ok h2 hl0)
    focus (have kxs := And.intro hb hv; have kk1 := uN [0] (blob_Take c.s c.a c.e 32 hok (by decide)); have kuc1 := fun za zb zc => uN [0] (cursor_Err za zb zc); have kk2 := uN [0] (blob_Take c1.s c1.a c1.e 32768 hqok (by decide)); have kua1 := fun za => uN [0] (cursor_Fail c1.s c1.a c1.e za); (repeat' (first | refine G ?_ | refine AW.ret ?_ | (refine GC ?_ ?_ <;> intro h <;> (try simp only [hsB] at h) <;> try exact xf) | (refine GL ?_ ?_ <;> intro h <;> (try simp only [hsN] at h) <;> (try simp only [h]) <;> (try simp only [hsB] at h) <;> try exact xf) | fail)); all_goals clear kxs kk1 kuc1 kk2 kua1)
    all_goals first | exact go _ _ rfl rfl | (exfalso; simp_all; done)
  have hcd := prs_drop hpd
  have hi1 : ((out.length : Int) - 1).toNat = out.length - 1 := by omega
  have htri := less_tri t p
  by_cases h1 : c1.e = 0
  case neg =>
    obtain ⟨hqok, m, c2, hv, go⟩ := key c1 (hec1 h1)
    have st14 := st14 h1
    have st6 := st6 h1
    focus (have kxs := And.intro hb (And.intro hv (And.intro st14 (And.intro st6 (And.intro hcd (And.intro hi1 htri))))); have kk1 := uN [0] (blob_Take c.s c.a c.e 32 hok (by decide)); have kuc1 := fun za zb zc => uN [0] (cursor_Err za zb zc); have kk2 := uN [0] (blob_Take c1.s c1.a c1.e 32768 hqok (by decide)); have kua1 := fun za => uN [0] (cursor_Fail c1.s c1.a c1.e za); (repeat' (first | refine G ?_ | refine AW.ret ?_ | (refine GC ?_ ?_ <;> intro h <;> (try simp only [hsB] at h) <;> try exact xf) | (refine GL ?_ ?_ <;> intro h <;> (try simp only [hsN] at h) <;> (try simp only [h]) <;> (try simp only [hsB] at h) <;> try exact xf) | fail)); all_goals clear kxs kk1 kuc1 kk2 kua1)
    all_goals first | exact go _ _ rfl rfl | (exfalso; simp_all; done)
  by_cases h2 : t = []
  · subst h2
    obtain ⟨hqok, m, c2, hv, go⟩ := key (c1.fail 14) (gd_name_empty p c1)
    focus (have kxs := And.intro hb hv; have kk1 := uN [0] (blob_Take c.s c.a c.e 32 hok (by decide)); have kuc1 := fun za zb zc => uN [0] (cursor_Err za zb zc); have kk2 := uN [0] (blob_Take (c1.fail 14).s (c1.fail 14).a (c1.fail 14).e 32768 hqok (by decide)); have kua1 := fun za => uN [0] (cursor_Fail c1.s c1.a c1.e za); (repeat' (first | refine G ?_ | refine AW.ret ?_ | (refine GC ?_ ?_ <;> intro h <;> (try simp only [hsB] at h) <;> try exact xf) | (refine GL ?_ ?_ <;> intro h <;> (try simp only [hsN] at h) <;> (try simp only [h]) <;> (try simp only [hsB] at h) <;> try exact xf) | fail)); all_goals clear kxs kk1 kuc1 kk2 kua1)
    all_goals first | exact go _ _ rfl rfl | (exfalso; simp_all; done)
  by_cases h3 : lessB p t = true
  · have h3' : Op.bytesLess p t = true := h3
    obtain ⟨hqok, m, c2, hv, go⟩ := key c1 (gd_name_ok h2 h3)
    focus (have kxs := And.intro hb (And.intro hv (And.intro hcd (And.intro hi1 (And.intro htri h3')))); have kk1 := uN [0] (blob_Take c.s c.a c.e 32 hok (by decide)); have kuc1 := fun za zb zc => uN [0] (cursor_Err za zb zc); have kk2 := uN [0] (blob_Take c1.s c1.a c1.e 32768 hqok (by decide)); have kua1 := fun za => uN [0] (cursor_Fail c1.s c1.a c1.e za); (repeat' (first | refine G ?_ | refine AW.ret ?_ | (refine GC ?_ ?_ <;> intro h <;> (try simp only [hsB] at h) <;> try exact xf) | (refine GL ?_ ?_ <;> intro h <;> (try simp only [hsN] at h) <;> (try simp only [h]) <;> (try simp only [hsB] at h) <;> try exact xf) | fail)); all_goals clear kxs kk1 kuc1 kk2 kua1)
    all_goals first | exact go _ _ rfl rfl | (exfalso; simp_all; done)
  · have h3' : Op.bytesLess p t = false := by simpa using h3
    obtain ⟨hqok, m, c2, hv, go⟩ := key (c1.fail 6) (gd_name_order h2 h3')
    focus (have kxs := And.intro hb (And.intro hv (And.intro hcd (And.intro hi1 (And.intro htri h3')))); have kk1 := uN [0] (blob_Take c.s c.a c.e 32 hok (by decide)); have kuc1 := fun za zb zc => uN [0] (cursor_Err za zb zc); have kk2 := uN [0] (blob_Take (c1.fail 6).s (c1.fail 6).a (c1.fail 6).e 32768 hqok (by decide)); have kua1 := fun za => uN [0] (cursor_Fail c1.s c1.a c1.e za); (repeat' (first | refine G ?_ | refine AW.ret ?_ | (refine GC ?_ ?_ <;> intro h <;> (try simp only [hsB] at h) <;> try exact xf) | (refine GL ?_ ?_ <;> intro h <;> (try simp only [hsN] at h) <;> (try simp only [h]) <;> (try simp only [hsB] at h) <;> try exact xf) | fail)); all_goals clear kxs kk1 kuc1 kk2 kua1)
    all_goals first | exact go _ _ rfl rfl | (exfalso; simp_all; done)

end Go.AW
/-
  metadata that is written: the program's and the document's.
-/
namespace Go.AW
open Go Go.Proofs
set_option maxHeartbeats 2000000
set_option maxRecDepth 10000
set_option linter.unusedSimpArgs false
set_option linter.unusedVariables false
attribute [local irreducible] thenQ blockQ RetQ AL AW AC AOp

theorem Pe.pairs_snoc (p : Pe) (v : Prs) (x : Pr) : p.pairs (v ++ [x]) = (p.pairs v).pair x := by simp [Pe.pairs, List.foldl_append]
theorem pens_pairs : Pens Pe.pairs (fun v => (v.map epair).flatten) (fun v => ∀ x ∈ v, x.1.length ≤ 32 ∧ x.2.length ≤ 32768) := pens_pair.fold
theorem Pe.count_ok8 {p : Pe} {n : Nat} (hn : n ≤ 8) : p.count 8 n = p.text (vput n) := by
  unfold Pe.count
  rw [if_neg (by omega), if_neg (by omega)]
  rfl
/-- What is known on the way: a pair that is next. -/
theorem Pe.pairs_way {b : List UInt8} {m : Int} {v : Prs} {p : Pe} (hpo : p.Ok) (hpm : p.m = m) (h8 : v.length ≤ 8) (h32 : ∀ x ∈ v, x.1.length ≤ 32 ∧ x.2.length ≤ 32768) (hpl : p.b.length ≤ b.length + (vput v.length).length) (hl : m ≤ 140737488355328 ∨ b.length + (eprs v).length + 40 ≤ 140737488355328)
    {j : Nat} (hj : j ≤ v.length) : (Pe.pairs p (v.take j)).Ok ∧ (Pe.pairs p (v.take j)).m = m ∧ (∀ x r, v.drop j = x :: r →
      (m ≤ 140737488355328 ∨ (Pe.pairs p (v.take j)).b.length + 10 + x.1.length ≤ 140737488355328) ∧ ((Pe.pairs p (v.take j)).blob 32 x.1).Ok ∧ ((Pe.pairs p (v.take j)).blob 32 x.1).m = m ∧ (m ≤ 140737488355328 ∨ ((Pe.pairs p (v.take j)).blob 32 x.1).b.length + 10 + x.2.length ≤ 140737488355328)) := by
  have h1 := take_flat epair v j
  have hel : (eprs v).length = (vput v.length).length + (v.map epair).flatten.length := by unfold eprs; rw [List.length_append]
  have ho := pens_pairs.keep (x := v.take j) hpo (by omega)
  have hm := pens_pairs.m p (v.take j)
  have hq := pens_pairs.len p (v.take j)
  generalize Pe.pairs p (v.take j) = q at *
  refine ⟨ho, hm.trans hpm, fun x r hd => ?_⟩
  rw [hd] at h1
  simp only [List.map_cons, List.flatten_cons, List.length_append] at h1
  have hxl := h32 x (next_mem hd)
  have hel2 : (epair x).length = (vput x.1.length).length + x.1.length + ((vput x.2.length).length + x.2.length) := by unfold epair eblob; simp only [List.length_append]
  have hbm := Pe.blob_m q 32 x.1
  have hbo := Pe.blob_ok (p := q) (max := 32) (s := x.1) ho (by omega) (by omega)
  have hbl := (pens_blob 32).len q x.1
  have hebl : (eblob x.1).length = (vput x.1.length).length + x.1.length := by unfold eblob; rw [List.length_append]
  exact ⟨by omega, hbo, by omega, by omega⟩

section
variable (b : List UInt8) (m e : Int)
theorem ref14_Put (ok : Pe.Ok ⟨b, m, e⟩) (v : Prs) (hfv : v.fits) (hl : m ≤ 140737488355328 ∨ b.length + (eprs v).length + 40 ≤ 140737488355328) :
    AC Tryz.prog 90 [.p 0 0, .d (.l v.length (prsD v))] [Pe.ro ⟨b, m, e⟩] fun x σ => x = .t [] ∧ σ = [Pe.ro (Pe.prs ⟨b, m, e⟩ v)] := by
  refine AC.walk Tryz.func90 rfl (by decide) (of_decide_eq_true rfl) ?_
  by_cases hc : v.check = 0
  case neg =>
    have hv : Pe.prs ⟨b, m, e⟩ v = Pe.fail ⟨b, m, e⟩ v.check := by unfold Pe.prs; rw [if_pos hc]
    rw [hv]
    focus (have kxs := kx0; have kk1 := uN [] (ref14_Check v hfv); have kua1 := fun za => uN [0] (ref02_Fail b m e za); (repeat' (first | refine G ?_ | refine AW.ret ?_ | (refine GC ?_ ?_ <;> intro h <;> (try simp only [hsB] at h) <;> try exact xf) | (refine GL ?_ ?_ <;> intro h <;> (try simp only [hsN] at h) <;> (try simp only [h]) <;> (try simp only [hsB] at h) <;> try exact xf) | fail)); all_goals clear kxs kk1 kua1)
    all_goals first | exact RetQ.fr 1 | exact RetQ.fn 1 | (exfalso; simp_all; done)
  have hvec : Pe.prs ⟨b, m, e⟩ v = (Pe.text ⟨b, m, e⟩ (vput v.length)).pairs v := by unfold Pe.prs; rw [if_neg (by simpa using hc)]
  obtain ⟨hv8, hv32⟩ := Prs.check_len hc
  have hcnt : Pe.count ⟨b, m, e⟩ 8 (v.length : Nat) = Pe.text ⟨b, m, e⟩ (vput v.length) := Pe.count_ok8 hv8
  have hvl := vput_len10 (n := v.length) (by omega)
  have hpl := Pe.text_len ⟨b, m, e⟩ (vput v.length)
  have hpm := Pe.text_m ⟨b, m, e⟩ (vput v.length)
  have hevl : (eprs v).length = (vput v.length).length + (v.map epair).flatten.length := by unfold eprs; rw [List.length_append]
  have hpo := Pe.text_ok (s := vput v.length) ok (by simp only; omega)
  simp only at hpl hpm
  generalize hp : Pe.text ⟨b, m, e⟩ (vput v.length) = p at *
  focus (have kxs := And.intro hc hcnt; have kk1 := uN [] (ref14_Check v hfv); have kk2 := uN [0] (ref06_PutCount b m e 8 ok (v.length : Nat) (by omega) (by omega)); (repeat' (first | refine G ?_ | refine AW.ret ?_ | (refine GC ?_ ?_ <;> intro h <;> (try simp only [hsB] at h) <;> try exact xf) | (refine GL ?_ ?_ <;> intro h <;> (try simp only [hsN] at h) <;> (try simp only [h]) <;> (try simp only [hsB] at h) <;> try exact xf) | fail)); all_goals clear kxs kk1 kk2)
  all_goals first | (exfalso; simp_all; done) | skip
  refine AW.rounds [0, 1, 5] (fun j : Nat => [(0, .p 0 0), (1, .d (.l v.length (prsD v))), (5, iv .i64 j)]) (fun j => [Pe.ro (Pe.pairs p (v.take j))])
    (fun j => j ≤ v.length) (fun j => v.length - j) 0 (Nat.zero_le _) rfl rfl (fun _ _ => Nat.le_of_ble_eq_true rfl) (fun _ _ => rfl) (fun _ _ => rfl) ?_
  intro j hj J2 hJ2
  obtain ⟨hok2, hqm2, way⟩ := Pe.pairs_way hpo hpm hv8 hv32 hpl hl hj
  generalize hq2 : Pe.pairs p (v.take j) = p2 at *
  by_cases hjl : j < v.length
  case neg =>
    have hj2 : j = v.length := by omega
    rw [hj2, List.take_length] at hq2
    rw [hvec, hq2]
    focus (have kxs := kx0; (repeat' (first | refine G ?_ | refine AW.ret ?_ | (refine GC ?_ ?_ <;> intro h <;> (try simp only [hsB] at h) <;> try exact xf) | (refine GL ?_ ?_ <;> intro h <;> (try simp only [hsN] at h) <;> (try simp only [h]) <;> (try simp only [hsB] at h) <;> try exact xf) | fail)); all_goals clear kxs)
    all_goals first | exact RetQ.fr 1 | exact RetQ.fn 1 | (exfalso; simp_all; done)
  obtain ⟨x, r2, hd2⟩ := next_at hjl
  have hcd2 := prs_drop hd2
  have hn3 : Pe.pairs p (v.take (j + 1)) = p2.pair x := by rw [next_take hd2, Pe.pairs_snoc, hq2]
  obtain ⟨w1, hbo, hbm, w2⟩ := way x r2 hd2
  have hx := hv32 x (next_mem hd2)
  generalize hp3 : p2.blob 32 x.1 = p3 at *
  have hp3' : Pe.blob ⟨p2.b, p2.m, p2.e⟩ 32 x.1 = p3 := hp3
  have hent : p2.pair x = p3.blob 32768 x.2 := by unfold Pe.pair; rw [hp3]
  focus (have kxs := And.intro hcd2 hp3'; have kk1 := uN [0] (ref06_Put p2.b x.1 p2.m p2.e 32 hok2 (by omega) (by omega)); have kk2 := uN [0] (ref06_Put p3.b x.2 p3.m p3.e 32768 hbo (by omega) (by omega)); (repeat' (first | refine G ?_ | refine AW.ret ?_ | (refine GC ?_ ?_ <;> intro h <;> (try simp only [hsB] at h) <;> try exact xf) | (refine GL ?_ ?_ <;> intro h <;> (try simp only [hsN] at h) <;> (try simp only [h]) <;> (try simp only [hsB] at h) <;> try exact xf) | fail)); all_goals clear kxs kk1 kk2)
  all_goals first
    | (refine hJ2 (j + 1) _ _ (by omega) hjl rfl ?_; rw [hn3, hent]; rfl)
    | (exfalso; simp_all; done)
end
end Go.AW
/-
  siblings: what is right, the same, too great, what is read: the program's and the document's.
-/
namespace Go.AW
open Go Go.Proofs
set_option maxHeartbeats 2000000
set_option maxRecDepth 10000
set_option linter.unusedSimpArgs false
set_option linter.unusedVariables false
attribute [local irreducible] thenQ blockQ RetQ AL AW AC AOp

abbrev sbV (x : Sb) : V := .a [.d (.l x.clk.ctx.length (vecD x.clk.ctx)), bv x.clk.dotted, sv (bs x.clk.dot.1), iv .u64 x.clk.dot.2, .d (.l x.meta_.length (prsD x.meta_)), bv x.dead, sv (bs x.val)]
def sbD (x : Sb) : List D := [.l x.clk.ctx.length (vecD x.clk.ctx), .s (.bool x.clk.dotted), .s (.string ⟨x.clk.dot.1.toArray⟩), .s (.int .u64 x.clk.dot.2), .l x.meta_.length (prsD x.meta_), .s (.bool x.dead), .s (.string ⟨x.val.toArray⟩)]
abbrev sbsD (l : List Sb) : List D := (l.map sbD).flatten
def Sb.fits (x : Sb) : Prop := x.clk.fits ∧ x.meta_.fits ∧ x.val.length ≤ 9223372036854775807
theorem sbs_drop {l r : List Sb} {x : Sb} {i : Nat} (h : l.drop i = x :: r) : (sbsD l).drop (i * 7) = .l x.clk.ctx.length (vecD x.clk.ctx) :: .s (.bool x.clk.dotted) :: .s (.string ⟨x.clk.dot.1.toArray⟩) :: .s (.int .u64 x.clk.dot.2) :: .l x.meta_.length (prsD x.meta_) :: .s (.bool x.dead) :: .s (.string ⟨x.val.toArray⟩) :: sbsD r := by
  rw [sbsD, flat_drop (f := sbD) (sz := 7) (fun _ => rfl), h]; rfl

theorem sb_check {x : Sb} {R : Int} (h : x.check = R) : R = if x.clk.check ≠ 0 then x.clk.check else if x.meta_.check ≠ 0 then x.meta_.check else if 32768 < x.val.length then 3 else 0 := h.symm
theorem ref15_Check (x : Sb) (hx : x.fits) : AC Tryz.prog 184 [sbV x] [] fun y σ => y = iv .i64 x.check ∧ σ = [] := by
  refine AC.walk Tryz.func184 rfl (by decide) (of_decide_eq_true rfl) ?_
  generalize hR : x.check = R
  have hR2 := sb_check hR
  clear hR
  focus (have kxs := kx0; have kk1 := uN [] (ref12_Check x.clk hx.1); have kk2 := uN [] (ref14_Check x.meta_ hx.2.1); (repeat' (first | refine G ?_ | refine AW.ret ?_ | (refine GC ?_ ?_ <;> intro h <;> (try simp only [hsB] at h) <;> try exact xf) | (refine GL ?_ ?_ <;> intro h <;> (try simp only [hsN] at h) <;> (try simp only [h]) <;> (try simp only [hsB] at h) <;> try exact xf) | fail)); all_goals clear kxs kk1 kk2)
  all_goals first
    | (rw [show R = x.clk.check from by rw [hR2, if_pos (by assumption)]]; (first | exact RetQ.zr 0 | exact RetQ.zn 0 | fail))
    | (rw [show R = x.meta_.check from by rw [hR2, if_neg (by simp only [ne_eq, Decidable.not_not]; assumption), if_pos (by assumption)]]; (first | exact RetQ.zr 0 | exact RetQ.zn 0 | fail))
    | (rw [show R = 3 from by rw [hR2, if_neg (by simp only [ne_eq, Decidable.not_not]; assumption), if_neg (by simp only [ne_eq, Decidable.not_not]; assumption), if_pos (by omega)]]; (first | exact RetQ.zr 0 | exact RetQ.zn 0 | fail))
    | (rw [show R = 0 from by rw [hR2, if_neg (by simp only [ne_eq, Decidable.not_not]; assumption), if_neg (by simp only [ne_eq, Decidable.not_not]; assumption), if_neg (by omega)]]; (first | exact RetQ.zr 0 | exact RetQ.zn 0 | fail))
    | trace_state

theorem sb_eq (k o : Sb) : (decide (k.clk = o.clk) && (decide (k.meta_ = o.meta_) && (decide (k.dead = o.dead) && decide (k.val = o.val)))) = true ↔ k = o := by
  obtain ⟨a, b, c, d⟩ := k
  obtain ⟨e, f, g, h⟩ := o
  simp
instance : DecidableEq Sb := fun k o => decidable_of_iff _ (sb_eq k o)
theorem ref15_Great (k : Sb) (hk : k.fits) : AC Tryz.prog 168 [sbV k] [] fun x σ => x = bv k.great ∧ σ = [] := by
  refine AC.walk Tryz.func168 rfl (by decide) (of_decide_eq_true rfl) ?_
  unfold Sb.great
  cases hg : k.clk.great <;> cases hg2 : k.meta_.great
  all_goals
    focus (have kxs := And.intro hg hg2; have kk1 := uN [] (ref12_Great k.clk hk.1); have kk2 := uN [] (ref14_Great k.meta_ hk.2.1); (repeat' (first | refine G ?_ | refine AW.ret ?_ | (refine GC ?_ ?_ <;> intro h <;> (try simp only [hsB] at h) <;> try exact xf) | (refine GL ?_ ?_ <;> intro h <;> (try simp only [hsN] at h) <;> (try simp only [h]) <;> (try simp only [hsB] at h) <;> try exact xf) | fail)); all_goals clear kxs kk1 kk2)
    all_goals first | exact RetQ.fr 0 | exact RetQ.fn 0 | (exfalso; simp_all; done)

theorem sib_eq {c c1 c2 c3 c4 : Cu} {k : Ck} {l : Prs} {f : Bool} {t : List UInt8} (h1 : c.clk = (k, c1)) (h2 : c1.prs = (l, c2)) (h3 : c2.flag = (f, c3)) (h4 : c3.blob 32768 = (t, c4)) : c.sib = (if c4.e ≠ 0 then sb0 else ⟨k, l, f, t⟩, c4) := by
  unfold Cu.sib Cu.sib0 rseq
  simp only [h1, h2, h3, h4]
theorem sibling_Take (c : Cu) (h : c.Ok) : AC Tryz.prog 324 [.p 0 0] [Cu.ob c] fun x σ => x = sbV c.sib.1 ∧ σ = [Cu.ob c.sib.2] := by
  refine AC.walk Tryz.func324 rfl (by decide) (of_decide_eq_true rfl) ?_
  have ho1 := Cu.clk_ok h
  cases h1 : c.clk with
  | mk k c1 =>
  rw [h1] at ho1
  have ho2 := Cu.prs_ok ho1
  cases h2 : c1.prs with
  | mk l c2 =>
  rw [h2] at ho2
  have ho3 := Cu.flag_ok ho2
  cases h3 : c2.flag with
  | mk f c3 =>
  rw [h3] at ho3
  cases h4 : c3.blob 32768 with
  | mk t c4 =>
  have h2' : Cu.prs ⟨c1.s, c1.a, c1.e⟩ = (l, c2) := h2
  have h3' : Cu.flag ⟨c2.s, c2.a, c2.e⟩ = (f, c3) := h3
  have h4' : Cu.blob ⟨c3.s, c3.a, c3.e⟩ 32768 = (t, c4) := h4
  rw [sib_eq h1 h2 h3 h4]
  simp only at ho1 ho2 ho3 ⊢
  by_cases he : c4.e = 0
  · rw [if_neg (by simpa using he)]
    focus (have kxs := And.intro h1 (And.intro h2' (And.intro h3' h4')); have kk1 := uN [0] (dcode_Take c h); have kk2 := uN [0] (pairs_Take c1.s c1.a c1.e ho1); have kk3 := uN [0] (blob_Flag c2.s c2.a c2.e ho2); have kk4 := uN [0] (blob_Take c3.s c3.a c3.e 32768 ho3 (by decide)); have kk5 := uN [0] (cursor_Err c4.s c4.a c4.e); (repeat' (first | refine G ?_ | refine AW.ret ?_ | (refine GC ?_ ?_ <;> intro h <;> (try simp only [hsB] at h) <;> try exact xf) | (refine GL ?_ ?_ <;> intro h <;> (try simp only [hsN] at h) <;> (try simp only [h]) <;> (try simp only [hsB] at h) <;> try exact xf) | fail)); all_goals clear kxs kk1 kk2 kk3 kk4 kk5)
    all_goals first | exact RetQ.fr 1 | exact RetQ.fn 1 | (exfalso; simp_all; done)
  · rw [if_pos he]
    focus (have kxs := And.intro h1 (And.intro h2' (And.intro h3' h4')); have kk1 := uN [0] (dcode_Take c h); have kk2 := uN [0] (pairs_Take c1.s c1.a c1.e ho1); have kk3 := uN [0] (blob_Flag c2.s c2.a c2.e ho2); have kk4 := uN [0] (blob_Take c3.s c3.a c3.e 32768 ho3 (by decide)); have kk5 := uN [0] (cursor_Err c4.s c4.a c4.e); (repeat' (first | refine G ?_ | refine AW.ret ?_ | (refine GC ?_ ?_ <;> intro h <;> (try simp only [hsB] at h) <;> try exact xf) | (refine GL ?_ ?_ <;> intro h <;> (try simp only [hsN] at h) <;> (try simp only [h]) <;> (try simp only [hsB] at h) <;> try exact xf) | fail)); all_goals clear kxs kk1 kk2 kk3 kk4 kk5)
    all_goals first | (((all_goals first | refine RetQ.r 1 rfl (Nat.le_of_ble_eq_true rfl) rfl (by first | rfl | (simp only [go_sem, ↓reduceIte, Nat.reduceLT, Nat.lt_irrefl])) ⟨?_, ?_⟩ | refine RetQ.n 1 rfl (Nat.le_of_ble_eq_true rfl) rfl (by first | rfl | (simp only [go_sem, ↓reduceIte, Nat.reduceLT, Nat.lt_irrefl])) ⟨?_, ?_⟩); (all_goals first | rfl | (simp [sb0, ck0, *]; done) | ((simp only [go_sem, ↓reduceIte, Nat.reduceLT, sb0, ck0]; (repeat' split)) <;> first | rfl | (exfalso; omega) | (simp_all; done) | (simp_all; omega)))); done) | (exfalso; simp_all; done)
end Go.AW
/-
  siblings that are written: the program's and the document's; whole texts.
-/
namespace Go.AW
open Go Go.Proofs
set_option maxHeartbeats 2000000
set_option maxRecDepth 10000
set_option linter.unusedSimpArgs false
set_option linter.unusedVariables false
attribute [local irreducible] thenQ blockQ RetQ AL AW AC AOp

theorem Pe.sibs_snoc (p : Pe) (l : List Sb) (v : Sb) : p.sibs (l ++ [v]) = (p.sibs l).sib v := by simp [Pe.sibs, List.foldl_append]
/-- What is known on the way through a sibling. -/
theorem Pe.sib_way {q : Pe} {x : Sb} (hc : x.check = 0) (hok : q.Ok) (hl : q.m ≤ 140737488355328 ∨ q.b.length + (esib x).length + 80 ≤ 140737488355328) :
    ∃ p1 p2 p3 : Pe, q.clk x.clk = p1 ∧ p1.prs x.meta_ = p2 ∧ p2.flag x.dead = p3 ∧ q.sib x = p3.blob 32768 x.val ∧ p1.Ok ∧ p2.Ok ∧ p3.Ok ∧
      (q.m ≤ 140737488355328 ∨ q.b.length + (eclk x.clk).length + 40 ≤ 140737488355328) ∧ (p1.m ≤ 140737488355328 ∨ p1.b.length + (eprs x.meta_).length + 40 ≤ 140737488355328) ∧
      (p2.m ≤ 140737488355328 ∨ p2.b.length + 1 ≤ 140737488355328) ∧ (p3.m ≤ 140737488355328 ∨ p3.b.length + 10 + x.val.length ≤ 140737488355328) := by
  have hel : (esib x).length = (eclk x.clk).length + ((eprs x.meta_).length + (1 + ((vput x.val.length).length + x.val.length))) := by
    unfold esib eblob eflag; simp only [List.length_append, List.length_cons, List.length_nil]
  have hsib : q.sib x = (((q.clk x.clk).prs x.meta_).flag x.dead).blob 32768 x.val := by unfold Pe.sib; rw [if_neg (by simpa using hc)]
  have k1 := pens_clk.keep (p := q) (x := x.clk) hok (by omega)
  have m1 := pens_clk.m q x.clk
  have l1 := pens_clk.len q x.clk
  refine ⟨q.clk x.clk, (q.clk x.clk).prs x.meta_, ((q.clk x.clk).prs x.meta_).flag x.dead, rfl, rfl, rfl, hsib, ?_⟩
  generalize q.clk x.clk = p1 at *
  have k2 := pens_prs.keep (p := p1) (x := x.meta_) k1 (by omega)
  have m2 := pens_prs.m p1 x.meta_
  have l2 := pens_prs.len p1 x.meta_
  generalize p1.prs x.meta_ = p2 at *
  have hf1 : (eflag x.dead).length = 1 := rfl
  have k3 := pens_flag.keep (p := p2) (x := x.dead) k2 (by omega)
  have m3 := pens_flag.m p2 x.dead
  have l3 := pens_flag.len p2 x.dead
  generalize p2.flag x.dead = p3 at *
  exact ⟨k1, k2, k3, by omega, by omega, by omega, by omega⟩

section
variable (b : List UInt8) (m e : Int)
theorem ref15_Put (ok : Pe.Ok ⟨b, m, e⟩) (x : Sb) (hfx : x.fits) (hl : m ≤ 140737488355328 ∨ b.length + (esib x).length + 80 ≤ 140737488355328) :
    AC Tryz.prog 283 [.p 0 0, sbV x] [Pe.ro ⟨b, m, e⟩] fun y σ => y = .t [] ∧ σ = [Pe.ro (Pe.sib ⟨b, m, e⟩ x)] := by
  refine AC.walk Tryz.func283 rfl (by decide) (of_decide_eq_true rfl) ?_
  by_cases hc : x.check = 0
  case neg =>
    have hv : Pe.sib ⟨b, m, e⟩ x = Pe.fail ⟨b, m, e⟩ x.check := by unfold Pe.sib; rw [if_pos hc]
    rw [hv]
    focus (have kxs := kx0; have kk1 := uN [] (ref15_Check x hfx); have kua1 := fun za => uN [0] (ref02_Fail b m e za); (repeat' (first | refine G ?_ | refine AW.ret ?_ | (refine GC ?_ ?_ <;> intro h <;> (try simp only [hsB] at h) <;> try exact xf) | (refine GL ?_ ?_ <;> intro h <;> (try simp only [hsN] at h) <;> (try simp only [h]) <;> (try simp only [hsB] at h) <;> try exact xf) | fail)); all_goals clear kxs kk1 kua1)
    all_goals first | exact RetQ.fr 1 | exact RetQ.fn 1 | (exfalso; simp_all; done)
  obtain ⟨hcc, hcm, hcv⟩ := Sb.check_parts hc
  obtain ⟨p1, p2, p3, g1, g2, g3, g4, o1, o2, o3, b0, b1, b2, b3⟩ := Pe.sib_way hc ok hl
  have g2' : Pe.prs ⟨p1.b, p1.m, p1.e⟩ x.meta_ = p2 := g2
  have g3' : Pe.flag ⟨p2.b, p2.m, p2.e⟩ x.dead = p3 := g3
  rw [g4]
  focus (have kxs := And.intro hc (And.intro g1 (And.intro g2' g3')); have kk1 := uN [] (ref15_Check x hfx); have kk2 := uN [0] (ref13_Put ⟨b, m, e⟩ ok x.clk hfx.1 b0); have kk3 := uN [0] (ref14_Put p1.b p1.m p1.e o1 x.meta_ hfx.2.1 b1); have kk4 := uN [0] (ref06_PutFlag p2.b p2.m p2.e o2 x.dead b2); have kk5 := uN [0] (ref06_Put p3.b x.val p3.m p3.e 32768 o3 (by omega) b3); (repeat' (first | refine G ?_ | refine AW.ret ?_ | (refine GC ?_ ?_ <;> intro h <;> (try simp only [hsB] at h) <;> try exact xf) | (refine GL ?_ ?_ <;> intro h <;> (try simp only [hsN] at h) <;> (try simp only [h]) <;> (try simp only [hsB] at h) <;> try exact xf) | fail)); all_goals clear kxs kk1 kk2 kk3 kk4 kk5)
  all_goals first | exact RetQ.fr 1 | exact RetQ.fn 1 | (exfalso; simp_all; done)
end

end Go.AW
