/-
  old objects that are alike: the program's and the document's.
-/
import Derived.Test.YtbjdiepceokmkaaGreatLeg6
namespace Go.AW
open Go Go.Proofs
set_option maxHeartbeats 2000000
set_option maxRecDepth 10000
set_option linter.unusedSimpArgs false
set_option linter.unusedVariables false
attribute [local irreducible] thenQ blockQ RetQ AL AW AC AOp

theorem alike2 (o q : Od) (x y : Os1) (hy : y.clk.length ≤ 9223372036854775807) (hx : x.clk.length ≤ 9223372036854775807) :
    AC Tryz.prog 50 [osV y, .p 2 0] [.box 35 [sv (bs o.key), .d (.l o.sibs.length (ossD o.sibs))], .box 35 [sv (bs q.key), .d (.l q.sibs.length (ossD q.sibs))], .box 52 [.d (.l x.clk.length (vecD x.clk)), bv x.dead, sv (bs x.val)]]
      fun z σ' => z = bv (decide (x = y)) ∧ σ' = [.box 35 [sv (bs o.key), .d (.l o.sibs.length (ossD o.sibs))], .box 35 [sv (bs q.key), .d (.l q.sibs.length (ossD q.sibs))], .box 52 [.d (.l x.clk.length (vecD x.clk)), bv x.dead, sv (bs x.val)]] := by
  refine AC.walk Tryz.func50 rfl (by decide) (of_decide_eq_true rfl) ?_
  focus (have kxs : 987654321 = 987654320 + 1 := rfl; have kk1 := uN [] (legacy_same x y hx); (repeat' (first | refine G ?_ | refine AW.ret ?_ | (refine GC ?_ ?_ <;> intro h <;> (try simp only [hsB] at h) <;> try (exfalso; first | omega | contradiction)) | (refine GL ?_ ?_ <;> intro h <;> (try simp only [Bool.not_true, Bool.not_false] at h) <;> (try simp only [h]) <;> (try simp only [hsB] at h) <;> try (exfalso; first | omega | contradiction)) | fail)); all_goals clear kxs kk1)
  all_goals first | ((all_goals first | exact RetQ.fr 3 | exact RetQ.fn 3 | fail); done) | (exfalso; simp_all; done)
theorem alike1 (o q : Od) (x : Os1) (hx : x.clk.length ≤ 9223372036854775807) (hq : q.fits) :
    AC Tryz.prog 49 [osV x, .p 1 0] [.box 35 [sv (bs o.key), .d (.l o.sibs.length (ossD o.sibs))], .box 35 [sv (bs q.key), .d (.l q.sibs.length (ossD q.sibs))]]
      fun z σ' => z = bv (!(q.sibs.any fun y => decide (x = y))) ∧ σ' = [.box 35 [sv (bs o.key), .d (.l o.sibs.length (ossD o.sibs))], .box 35 [sv (bs q.key), .d (.l q.sibs.length (ossD q.sibs))]] := by
  refine AC.walk Tryz.func49 rfl (by decide) (of_decide_eq_true rfl) ?_
  have hc := contains_OldSib q.sibs osD (fun x => ⟨_, _, _, rfl, rfl, rfl, rfl⟩) 50 [.p 2 0] [.box 35 [sv (bs o.key), .d (.l o.sibs.length (ossD o.sibs))], .box 35 [sv (bs q.key), .d (.l q.sibs.length (ossD q.sibs))], .box 52 [.d (.l x.clk.length (vecD x.clk)), bv x.dead, sv (bs x.val)]]
    (fun y => decide (x = y)) rfl rfl rfl hq.2.1 (fun y hm => alike2 o q x y (hq.2.2 y hm).1.1 hx)
  focus (have kxs : 987654321 = 987654320 + 1 := rfl; have kk1 := uS (hc); (repeat' (first | refine G ?_ | refine AW.ret ?_ | (refine GC ?_ ?_ <;> intro h <;> (try simp only [hsB] at h) <;> try (exfalso; first | omega | contradiction)) | (refine GL ?_ ?_ <;> intro h <;> (try simp only [Bool.not_true, Bool.not_false] at h) <;> (try simp only [h]) <;> (try simp only [hsB] at h) <;> try (exfalso; first | omega | contradiction)) | fail)); all_goals clear kxs kk1)
  all_goals first | ((all_goals first | exact RetQ.fr 2 | exact RetQ.fn 2 | fail); done) | (exfalso; simp_all; done)
theorem alike_all (l m : List Os1) : (!(l.any fun x => !(m.any fun y => decide (x = y)))) = l.all fun x => m.any fun y => decide (x = y) := by
  rw [List.not_any_eq_all_not]
  congr 1
  funext x
  rw [Bool.not_not]
theorem legacy_Alike (o q : Od) (ho : o.fits) (hq : q.fits) : AC Tryz.prog 17 [odV o, odV q] [] fun x σ => x = bv (o.alike q) ∧ σ = [] := by
  refine AC.walk Tryz.func17 rfl (by decide) (of_decide_eq_true rfl) ?_
  have hc := contains_OldSib o.sibs osD (fun x => ⟨_, _, _, rfl, rfl, rfl, rfl⟩) 49 [.p 1 0] [.box 35 [sv (bs o.key), .d (.l o.sibs.length (ossD o.sibs))], .box 35 [sv (bs q.key), .d (.l q.sibs.length (ossD q.sibs))]]
    (fun x => !(q.sibs.any fun y => decide (x = y))) rfl rfl rfl ho.2.1 (fun y hm => alike1 o q y (ho.2.2 y hm).1.1 hq)
  unfold Od.alike
  rw [← alike_all]
  by_cases h1 : o.check = 0
  case neg =>
    rw [decide_eq_false h1]
    focus (have kxs : 987654321 = 987654320 + 1 := rfl; have kk1 := uN [] (legacy_Check o ho); have kk2 := uN [] (legacy_Check q hq); (repeat' (first | refine G ?_ | refine AW.ret ?_ | (refine GC ?_ ?_ <;> intro h <;> (try simp only [hsB] at h) <;> try (exfalso; first | omega | contradiction)) | (refine GL ?_ ?_ <;> intro h <;> (try simp only [Bool.not_true, Bool.not_false] at h) <;> (try simp only [h]) <;> (try simp only [hsB] at h) <;> try (exfalso; first | omega | contradiction)) | fail)); all_goals clear kxs kk1 kk2)
    all_goals first | ((all_goals first | exact RetQ.fr 0 | exact RetQ.fn 0 | fail); done) | (exfalso; simp_all; done)
  by_cases h2 : q.check = 0
  case neg =>
    rw [decide_eq_false h2, decide_eq_true h1]
    focus (have kxs := h1; have kk1 := uN [] (legacy_Check o ho); have kk2 := uN [] (legacy_Check q hq); (repeat' (first | refine G ?_ | refine AW.ret ?_ | (refine GC ?_ ?_ <;> intro h <;> (try simp only [hsB] at h) <;> try (exfalso; first | omega | contradiction)) | (refine GL ?_ ?_ <;> intro h <;> (try simp only [Bool.not_true, Bool.not_false] at h) <;> (try simp only [h]) <;> (try simp only [hsB] at h) <;> try (exfalso; first | omega | contradiction)) | fail)); all_goals clear kxs kk1 kk2)
    all_goals first | ((all_goals first | exact RetQ.fr 0 | exact RetQ.fn 0 | fail); done) | (exfalso; simp_all; done)
  rw [decide_eq_true h1, decide_eq_true h2]
  by_cases h3 : o.key = q.key
  case neg =>
    rw [decide_eq_false h3]
    focus (have kxs := And.intro h1 h2; have kk1 := uN [] (legacy_Check o ho); have kk2 := uN [] (legacy_Check q hq); (repeat' (first | refine G ?_ | refine AW.ret ?_ | (refine GC ?_ ?_ <;> intro h <;> (try simp only [hsB] at h) <;> try (exfalso; first | omega | contradiction)) | (refine GL ?_ ?_ <;> intro h <;> (try simp only [Bool.not_true, Bool.not_false] at h) <;> (try simp only [h]) <;> (try simp only [hsB] at h) <;> try (exfalso; first | omega | contradiction)) | fail)); all_goals clear kxs kk1 kk2)
    all_goals first | ((all_goals first | exact RetQ.fr 0 | exact RetQ.fn 0 | fail); done) | (exfalso; simp_all; done)
  by_cases h4 : o.sibs.length = q.sibs.length
  case neg =>
    rw [decide_eq_false h4, decide_eq_true h3]
    focus (have kxs := And.intro h1 h2; have kk1 := uN [] (legacy_Check o ho); have kk2 := uN [] (legacy_Check q hq); (repeat' (first | refine G ?_ | refine AW.ret ?_ | (refine GC ?_ ?_ <;> intro h <;> (try simp only [hsB] at h) <;> try (exfalso; first | omega | contradiction)) | (refine GL ?_ ?_ <;> intro h <;> (try simp only [Bool.not_true, Bool.not_false] at h) <;> (try simp only [h]) <;> (try simp only [hsB] at h) <;> try (exfalso; first | omega | contradiction)) | fail)); all_goals clear kxs kk1 kk2)
    all_goals first | ((all_goals first | exact RetQ.fr 0 | exact RetQ.fn 0 | fail); done) | (exfalso; omega) | (exfalso; simp_all; done)
  rw [decide_eq_true h3, decide_eq_true h4]
  focus (have kxs := And.intro h1 h2; have kk1 := uN [] (legacy_Check o ho); have kk2 := uN [] (legacy_Check q hq); have kk3 := uS (hc); (repeat' (first | refine G ?_ | refine AW.ret ?_ | (refine GC ?_ ?_ <;> intro h <;> (try simp only [hsB] at h) <;> try (exfalso; first | omega | contradiction)) | (refine GL ?_ ?_ <;> intro h <;> (try simp only [Bool.not_true, Bool.not_false] at h) <;> (try simp only [h]) <;> (try simp only [hsB] at h) <;> try (exfalso; first | omega | contradiction)) | fail)); all_goals clear kxs kk1 kk2 kk3)
  all_goals first | ((all_goals first | exact RetQ.fr 0 | exact RetQ.fn 0 | fail); done) | (exfalso; omega) | (exfalso; simp_all; done)

theorem filt_take {l r : List Os1} {x y : Os1} {k : Nat} (h : l.drop k = y :: r) : ((l.take (k + 1)).filter fun y => decide (x = y)).length = ((l.take k).filter fun y => decide (x = y)).length + (if x = y then 1 else 0) := by
  rw [next_take h, List.filter_append, List.length_append]
  congr 1
  by_cases hxy : x = y
  · rw [if_pos hxy, List.filter_cons_of_pos (by simpa using hxy)]; rfl
  · rw [if_neg hxy, List.filter_cons_of_neg (by simpa using hxy)]; rfl
theorem ref17_Alike (o q : Od) (ho : o.fits) (hq : q.fits) : AC Tryz.prog 18 [odV o, odV q] [] fun x σ => x = bv (o.alike q) ∧ σ = [] := by
  refine AC.walk Tryz.func18 rfl (by decide) (of_decide_eq_true rfl) ?_
  unfold Od.alike
  by_cases h1 : o.check = 0
  case neg =>
    rw [decide_eq_false h1]
    focus (have kxs : 987654321 = 987654320 + 1 := rfl; have kk1 := uN [] (ref17_Check o ho); have kk2 := uN [] (ref17_Check q hq); (repeat' (first | (refine ADr.nil ?_; try clear hgv) | refine GO ?_ | refine AW.ret ?_ | (refine GC ?_ ?_ <;> intro h <;> (try simp only [hsB] at h) <;> try (exfalso; first | omega | contradiction)) | (refine GD ?_ ?_ <;> intro h <;> (try intro hgv) <;> (try simp only [Bool.not_true, Bool.not_false] at h) <;> (try simp only [h]) <;> (try simp only [hsB] at h) <;> try (exfalso; first | omega | contradiction)) | (refine GL ?_ ?_ <;> intro h <;> (try simp only [Bool.not_true, Bool.not_false] at h) <;> (try simp only [h]) <;> (try simp only [hsB] at h) <;> try (exfalso; first | omega | contradiction)) | fail)); all_goals clear kxs kk1 kk2)
    all_goals first | ((all_goals first | exact RetQ.fr 0 | exact RetQ.fn 0 | fail); done) | (exfalso; simp_all; done)
  by_cases h2 : q.check = 0
  case neg =>
    rw [decide_eq_false h2, decide_eq_true h1]
    focus (have kxs := h1; have kk1 := uN [] (ref17_Check o ho); have kk2 := uN [] (ref17_Check q hq); (repeat' (first | (refine ADr.nil ?_; try clear hgv) | refine GO ?_ | refine AW.ret ?_ | (refine GC ?_ ?_ <;> intro h <;> (try simp only [hsB] at h) <;> try (exfalso; first | omega | contradiction)) | (refine GD ?_ ?_ <;> intro h <;> (try intro hgv) <;> (try simp only [Bool.not_true, Bool.not_false] at h) <;> (try simp only [h]) <;> (try simp only [hsB] at h) <;> try (exfalso; first | omega | contradiction)) | (refine GL ?_ ?_ <;> intro h <;> (try simp only [Bool.not_true, Bool.not_false] at h) <;> (try simp only [h]) <;> (try simp only [hsB] at h) <;> try (exfalso; first | omega | contradiction)) | fail)); all_goals clear kxs kk1 kk2)
    all_goals first | ((all_goals first | exact RetQ.fr 0 | exact RetQ.fn 0 | fail); done) | (exfalso; simp_all; done)
  have hnd := (ocheck_parts _ _ (Od.check_parts h2).2).2
  rw [decide_eq_true h1, decide_eq_true h2]
  by_cases h3 : o.key = q.key
  case neg =>
    rw [decide_eq_false h3]
    focus (have kxs := And.intro h1 h2; have kk1 := uN [] (ref17_Check o ho); have kk2 := uN [] (ref17_Check q hq); (repeat' (first | (refine ADr.nil ?_; try clear hgv) | refine GO ?_ | refine AW.ret ?_ | (refine GC ?_ ?_ <;> intro h <;> (try simp only [hsB] at h) <;> try (exfalso; first | omega | contradiction)) | (refine GD ?_ ?_ <;> intro h <;> (try intro hgv) <;> (try simp only [Bool.not_true, Bool.not_false] at h) <;> (try simp only [h]) <;> (try simp only [hsB] at h) <;> try (exfalso; first | omega | contradiction)) | (refine GL ?_ ?_ <;> intro h <;> (try simp only [Bool.not_true, Bool.not_false] at h) <;> (try simp only [h]) <;> (try simp only [hsB] at h) <;> try (exfalso; first | omega | contradiction)) | fail)); all_goals clear kxs kk1 kk2)
    all_goals first | ((all_goals first | exact RetQ.fr 0 | exact RetQ.fn 0 | fail); done) | (exfalso; simp_all; done)
  by_cases h4 : o.sibs.length = q.sibs.length
  case neg =>
    rw [decide_eq_false h4, decide_eq_true h3]
    focus (have kxs := And.intro h1 h2; have kk1 := uN [] (ref17_Check o ho); have kk2 := uN [] (ref17_Check q hq); (repeat' (first | (refine ADr.nil ?_; try clear hgv) | refine GO ?_ | refine AW.ret ?_ | (refine GC ?_ ?_ <;> intro h <;> (try simp only [hsB] at h) <;> try (exfalso; first | omega | contradiction)) | (refine GD ?_ ?_ <;> intro h <;> (try intro hgv) <;> (try simp only [Bool.not_true, Bool.not_false] at h) <;> (try simp only [h]) <;> (try simp only [hsB] at h) <;> try (exfalso; first | omega | contradiction)) | (refine GL ?_ ?_ <;> intro h <;> (try simp only [Bool.not_true, Bool.not_false] at h) <;> (try simp only [h]) <;> (try simp only [hsB] at h) <;> try (exfalso; first | omega | contradiction)) | fail)); all_goals clear kxs kk1 kk2)
    all_goals first | ((all_goals first | exact RetQ.fr 0 | exact RetQ.fn 0 | fail); done) | (exfalso; omega) | (exfalso; simp_all; done)
  rw [decide_eq_true h3, decide_eq_true h4]
  simp only [Bool.true_and]
  generalize hR : (o.sibs.all fun x => q.sibs.any fun y => decide (x = y)) = R
  obtain ⟨_, hl, hf⟩ := ho
  focus (have kxs := And.intro h1 h2; have kk1 := uN [] (ref17_Check o ⟨by assumption, hl, hf⟩); have kk2 := uN [] (ref17_Check q hq); (repeat' (first | (refine ADr.nil ?_; try clear hgv) | refine GO ?_ | refine AW.ret ?_ | (refine GC ?_ ?_ <;> intro h <;> (try simp only [hsB] at h) <;> try (exfalso; first | omega | contradiction)) | (refine GD ?_ ?_ <;> intro h <;> (try intro hgv) <;> (try simp only [Bool.not_true, Bool.not_false] at h) <;> (try simp only [h]) <;> (try simp only [hsB] at h) <;> try (exfalso; first | omega | contradiction)) | (refine GL ?_ ?_ <;> intro h <;> (try simp only [Bool.not_true, Bool.not_false] at h) <;> (try simp only [h]) <;> (try simp only [hsB] at h) <;> try (exfalso; first | omega | contradiction)) | fail)); all_goals clear kxs kk1 kk2)
  all_goals first | (exfalso; omega) | (exfalso; simp_all; done) | skip
  refine AW.rounds [2, 3, 4, 5] (fun i : Nat => [(2, .p 0 0), (3, .p 1 0), (4, bv false), (5, iv .i64 i)]) (fun _ => [.box 35 [sv (bs o.key), .d (.l o.sibs.length (ossD o.sibs))], .box 35 [sv (bs q.key), .d (.l q.sibs.length (ossD q.sibs))]])
    (fun i => i ≤ o.sibs.length ∧ ((o.sibs.drop i).all fun x => q.sibs.any fun y => decide (x = y)) = R) (fun i => o.sibs.length - i) 0 ⟨Nat.zero_le _, hR⟩ rfl rfl (fun _ _ => Nat.zero_le _) (fun _ _ => rfl) (fun _ _ => rfl) ?_
  rintro i ⟨hi, hr⟩ J hJ
  by_cases hil : i < o.sibs.length
  case neg =>
    have h0 : o.sibs.drop i = [] := List.drop_eq_nil_of_le (by omega)
    rw [h0] at hr
    have hR0 : R = true := hr.symm
    rw [hR0]
    focus (have kxs : 987654321 = 987654320 + 1 := rfl; (repeat' (first | (refine ADr.nil ?_; try clear hgv) | refine GO ?_ | refine AW.ret ?_ | (refine GC ?_ ?_ <;> intro h <;> (try simp only [hsB] at h) <;> try (exfalso; first | omega | contradiction)) | (refine GD ?_ ?_ <;> intro h <;> (try intro hgv) <;> (try simp only [Bool.not_true, Bool.not_false] at h) <;> (try simp only [h]) <;> (try simp only [hsB] at h) <;> try (exfalso; first | omega | contradiction)) | (refine GL ?_ ?_ <;> intro h <;> (try simp only [Bool.not_true, Bool.not_false] at h) <;> (try simp only [h]) <;> (try simp only [hsB] at h) <;> try (exfalso; first | omega | contradiction)) | fail)); all_goals clear kxs)
    all_goals first | ((all_goals first | exact RetQ.fr 0 | exact RetQ.fn 0 | fail); done) | (exfalso; simp_all; done)
  obtain ⟨x, r, hd⟩ := next_at hil
  have hcd := oss_drop hd
  have hfx := hf x (next_mem hd)
  rw [hd, List.all_cons] at hr
  have hone := filt_one x hnd
  focus (have kxs : 987654321 = 987654320 + 1 := rfl; (repeat' (first | (refine ADr.nil ?_; try clear hgv) | refine GO ?_ | refine AW.ret ?_ | (refine GC ?_ ?_ <;> intro h <;> (try simp only [hsB] at h) <;> try (exfalso; first | omega | contradiction)) | (refine GD ?_ ?_ <;> intro h <;> (try intro hgv) <;> (try simp only [Bool.not_true, Bool.not_false] at h) <;> (try simp only [h]) <;> (try simp only [hsB] at h) <;> try (exfalso; first | omega | contradiction)) | (refine GL ?_ ?_ <;> intro h <;> (try simp only [Bool.not_true, Bool.not_false] at h) <;> (try simp only [h]) <;> (try simp only [hsB] at h) <;> try (exfalso; first | omega | contradiction)) | fail)); all_goals clear kxs)
  all_goals first | (exfalso; simp_all; done) | skip
  refine AW.rounds [2, 3, 4, 5, 6, 7] (fun k : Nat => [(2, .p 0 0), (3, .p 1 0), (4, bv false), (5, iv .i64 i), (6, iv .i64 ((q.sibs.take k).filter fun y => decide (x = y)).length), (7, iv .i64 k)]) (fun _ => [.box 35 [sv (bs o.key), .d (.l o.sibs.length (ossD o.sibs))], .box 35 [sv (bs q.key), .d (.l q.sibs.length (ossD q.sibs))]])
    (fun k => k ≤ q.sibs.length) (fun k => q.sibs.length - k) 0 (Nat.zero_le _) rfl rfl (fun _ _ => Nat.zero_le _) (fun _ _ => rfl) (fun _ _ => rfl) ?_
  intro k hk J' hJ'
  by_cases hkl : k < q.sibs.length
  case neg =>
    have hk2 : k = q.sibs.length := by omega
    rw [hk2, List.take_length, hone]
    cases hany : q.sibs.any fun y => decide (x = y) with
    | true =>
      rw [hany, Bool.true_and] at hr
      rw [if_pos rfl]
      focus (have kxs : 987654321 = 987654320 + 1 := rfl; (repeat' (first | (refine ADr.nil ?_; try clear hgv) | refine GO ?_ | refine AW.ret ?_ | (refine GC ?_ ?_ <;> intro h <;> (try simp only [hsB] at h) <;> try (exfalso; first | omega | contradiction)) | (refine GD ?_ ?_ <;> intro h <;> (try intro hgv) <;> (try simp only [Bool.not_true, Bool.not_false] at h) <;> (try simp only [h]) <;> (try simp only [hsB] at h) <;> try (exfalso; first | omega | contradiction)) | (refine GL ?_ ?_ <;> intro h <;> (try simp only [Bool.not_true, Bool.not_false] at h) <;> (try simp only [h]) <;> (try simp only [hsB] at h) <;> try (exfalso; first | omega | contradiction)) | fail)); all_goals clear kxs)
      all_goals first | (refine hJ (i + 1) _ _ (by omega) ⟨hil, by rw [next_drop hd]; exact hr⟩ rfl rfl) | (exfalso; simp_all; done)
    | false =>
      rw [hany, Bool.false_and] at hr
      rw [if_neg (by decide), ← hr]
      focus (have kxs : 987654321 = 987654320 + 1 := rfl; (repeat' (first | (refine ADr.nil ?_; try clear hgv) | refine GO ?_ | refine AW.ret ?_ | (refine GC ?_ ?_ <;> intro h <;> (try simp only [hsB] at h) <;> try (exfalso; first | omega | contradiction)) | (refine GD ?_ ?_ <;> intro h <;> (try intro hgv) <;> (try simp only [Bool.not_true, Bool.not_false] at h) <;> (try simp only [h]) <;> (try simp only [hsB] at h) <;> try (exfalso; first | omega | contradiction)) | (refine GL ?_ ?_ <;> intro h <;> (try simp only [Bool.not_true, Bool.not_false] at h) <;> (try simp only [h]) <;> (try simp only [hsB] at h) <;> try (exfalso; first | omega | contradiction)) | fail)); all_goals clear kxs)
      all_goals first | ((all_goals first | exact RetQ.fr 0 | exact RetQ.fn 0 | fail); done) | (exfalso; simp_all; done)
  obtain ⟨y, r', hd'⟩ := next_at hkl
  have hcd' := oss_drop hd'
  have hft := filt_take (x := x) hd'
  have hfl : ((q.sibs.take k).filter fun y => decide (x = y)).length ≤ k := Nat.le_trans (List.length_filter_le _ _) (List.length_take_le _ _)
  have hql := hq.2.1
  by_cases hxy : x = y
  · have hd1 : decide (x = y) = true := decide_eq_true hxy
    rw [if_pos hxy] at hft
    generalize hN : ((q.sibs.take k).filter fun y => decide (x = y)).length = n at *
    focus (have kxs := And.intro hcd (And.intro hcd' hd1); have kk1 := uN [] (ref17_One x y hfx.1.1); (repeat' (first | (refine ADr.nil ?_; try clear hgv) | refine GO ?_ | refine AW.ret ?_ | (refine GC ?_ ?_ <;> intro h <;> (try simp only [hsB] at h) <;> try (exfalso; first | omega | contradiction)) | (refine GD ?_ ?_ <;> intro h <;> (try intro hgv) <;> (try simp only [Bool.not_true, Bool.not_false] at h) <;> (try simp only [h]) <;> (try simp only [hsB] at h) <;> try (exfalso; first | omega | contradiction)) | (refine GL ?_ ?_ <;> intro h <;> (try simp only [Bool.not_true, Bool.not_false] at h) <;> (try simp only [h]) <;> (try simp only [hsB] at h) <;> try (exfalso; first | omega | contradiction)) | fail)); all_goals clear kxs kk1)
    all_goals first | (refine hJ' (k + 1) _ _ (by omega) hkl ?_ rfl; rw [hft]; rfl) | (exfalso; simp_all; done)
  · have hd1 : decide (x = y) = false := decide_eq_false hxy
    rw [if_neg hxy] at hft
    generalize hN : ((q.sibs.take k).filter fun y => decide (x = y)).length = n at *
    focus (have kxs := And.intro hcd (And.intro hcd' hd1); have kk1 := uN [] (ref17_One x y hfx.1.1); (repeat' (first | (refine ADr.nil ?_; try clear hgv) | refine GO ?_ | refine AW.ret ?_ | (refine GC ?_ ?_ <;> intro h <;> (try simp only [hsB] at h) <;> try (exfalso; first | omega | contradiction)) | (refine GD ?_ ?_ <;> intro h <;> (try intro hgv) <;> (try simp only [Bool.not_true, Bool.not_false] at h) <;> (try simp only [h]) <;> (try simp only [hsB] at h) <;> try (exfalso; first | omega | contradiction)) | (refine GL ?_ ?_ <;> intro h <;> (try simp only [Bool.not_true, Bool.not_false] at h) <;> (try simp only [h]) <;> (try simp only [hsB] at h) <;> try (exfalso; first | omega | contradiction)) | fail)); all_goals clear kxs kk1)
    all_goals first | (refine hJ' (k + 1) _ _ (by omega) hkl ?_ rfl; rw [hft]; rfl) | (exfalso; simp_all; done)
end Go.AW
