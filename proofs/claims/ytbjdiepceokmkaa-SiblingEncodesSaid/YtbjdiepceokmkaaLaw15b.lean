/-
  Row 15: SiblingEncodes.
-/
import Derived.Test.YtbjdiepceokmkaaLaw15
import Derived.Test.YtbjdiepceokmkaaSrt1
namespace Go.AW
open Go Go.Proofs Go.RowKit
set_option maxHeartbeats 2000000
set_option maxRecDepth 10000
set_option linter.unusedSimpArgs false
set_option linter.unusedVariables false
attribute [local irreducible] thenQ blockQ RetQ AL AW AC AOp

/-- A clone is an own row. -/
theorem clone_EnO (v : Vec) (hv : v.length ≤ 1000000) : AC Try.prog 71 [.d (.l v.length (vecD v))] [] fun x σ => x = .o 0 v.length ∧ σ = [.row 40 2 v.length (vecD v)] := by
  refine AC.walk Try.func71 rfl (by decide) (of_decide_eq_true rfl) ?_
  have hol : (vecD v).length = v.length * 2 := flat_len (f := enD) (sz := 2) (fun _ => rfl) v
  have hon : onesD (vecD v) = true := onesD_flat enD (fun _ => rfl) v
  focus (have kxs : 987654321 = 987654320 + 1 := rfl; (repeat' (first | refine G ?_ | refine AW.ret ?_ | (refine GC ?_ ?_ <;> intro h <;> (try simp only [hsB] at h) <;> try (exfalso; first | omega | contradiction)) | (refine GL ?_ ?_ <;> intro h <;> (try simp only [Bool.not_true, Bool.not_false] at h) <;> (try simp only [h]) <;> (try simp only [hsB] at h) <;> try (exfalso; first | omega | contradiction)) | fail)); all_goals clear kxs)
  refine AL.one (by decide) fun Kr hr => ?_
  (try simp only [ao, List.map_cons, List.map_nil]); simp (disch := omega) only [go_sem]
  intro b hb
  refine hr _ _ ?_
  clear hr Kr
  cases b with
  | true =>
    have h0 : v = [] := List.length_eq_zero_iff.1 (hb rfl)
    subst h0
    focus (have kxs : 987654321 = 987654320 + 1 := rfl; (repeat' (first | refine G ?_ | (refine GC ?_ ?_ <;> intro h <;> (try simp only [hsB] at h) <;> try (exfalso; first | omega | contradiction)) | (refine GL ?_ ?_ <;> intro h <;> (try simp only [Bool.not_true, Bool.not_false] at h) <;> (try simp only [h]) <;> (try simp only [hsB] at h) <;> try (exfalso; first | omega | contradiction)) | fail)); all_goals clear kxs)
    all_goals first | (exfalso; simp_all; done) | skip
    refine AW.birth 40 2 [2] [] ?_
    focus (have kxs : 987654321 = 987654320 + 1 := rfl; (repeat' (first | refine G ?_ | refine AW.ret ?_ | (refine GC ?_ ?_ <;> intro h <;> (try simp only [hsB] at h) <;> try (exfalso; first | omega | contradiction)) | (refine GL ?_ ?_ <;> intro h <;> (try simp only [Bool.not_true, Bool.not_false] at h) <;> (try simp only [h]) <;> (try simp only [hsB] at h) <;> try (exfalso; first | omega | contradiction)) | fail)); all_goals clear kxs)
    all_goals first | ((all_goals first | exact RetQ.fr 1 | exact RetQ.fn 1 | fail); done) | (exfalso; simp_all; done)
  | false =>
    focus (have kxs := hon; (repeat' (first | refine G ?_ | refine AW.ret ?_ | (refine GC ?_ ?_ <;> intro h <;> (try simp only [hsB] at h) <;> try (exfalso; first | omega | contradiction)) | (refine GL ?_ ?_ <;> intro h <;> (try simp only [Bool.not_true, Bool.not_false] at h) <;> (try simp only [h]) <;> (try simp only [hsB] at h) <;> try (exfalso; first | omega | contradiction)) | fail)); all_goals clear kxs)
    all_goals first | ((all_goals first | exact RetQ.fr 1 | exact RetQ.fn 1 | fail); done) | (exfalso; simp_all; done)
theorem clone_PrO (v : Prs) (hv : v.length ≤ 1000000) : AC Try.prog 72 [.d (.l v.length (prsD v))] [] fun x σ => x = .o 0 v.length ∧ σ = [.row 35 2 v.length (prsD v)] := by
  refine AC.walk Try.func72 rfl (by decide) (of_decide_eq_true rfl) ?_
  have hol : (prsD v).length = v.length * 2 := flat_len (f := prD) (sz := 2) (fun _ => rfl) v
  have hon : onesD (prsD v) = true := onesD_flat prD (fun _ => rfl) v
  focus (have kxs : 987654321 = 987654320 + 1 := rfl; (repeat' (first | refine G ?_ | refine AW.ret ?_ | (refine GC ?_ ?_ <;> intro h <;> (try simp only [hsB] at h) <;> try (exfalso; first | omega | contradiction)) | (refine GL ?_ ?_ <;> intro h <;> (try simp only [Bool.not_true, Bool.not_false] at h) <;> (try simp only [h]) <;> (try simp only [hsB] at h) <;> try (exfalso; first | omega | contradiction)) | fail)); all_goals clear kxs)
  refine AL.one (by decide) fun Kr hr => ?_
  (try simp only [ao, List.map_cons, List.map_nil]); simp (disch := omega) only [go_sem]
  intro b hb
  refine hr _ _ ?_
  clear hr Kr
  cases b with
  | true =>
    have h0 : v = [] := List.length_eq_zero_iff.1 (hb rfl)
    subst h0
    focus (have kxs : 987654321 = 987654320 + 1 := rfl; (repeat' (first | refine G ?_ | (refine GC ?_ ?_ <;> intro h <;> (try simp only [hsB] at h) <;> try (exfalso; first | omega | contradiction)) | (refine GL ?_ ?_ <;> intro h <;> (try simp only [Bool.not_true, Bool.not_false] at h) <;> (try simp only [h]) <;> (try simp only [hsB] at h) <;> try (exfalso; first | omega | contradiction)) | fail)); all_goals clear kxs)
    all_goals first | (exfalso; simp_all; done) | skip
    refine AW.birth 35 2 [2] [] ?_
    focus (have kxs : 987654321 = 987654320 + 1 := rfl; (repeat' (first | refine G ?_ | refine AW.ret ?_ | (refine GC ?_ ?_ <;> intro h <;> (try simp only [hsB] at h) <;> try (exfalso; first | omega | contradiction)) | (refine GL ?_ ?_ <;> intro h <;> (try simp only [Bool.not_true, Bool.not_false] at h) <;> (try simp only [h]) <;> (try simp only [hsB] at h) <;> try (exfalso; first | omega | contradiction)) | fail)); all_goals clear kxs)
    all_goals first | ((all_goals first | exact RetQ.fr 1 | exact RetQ.fn 1 | fail); done) | (exfalso; simp_all; done)
  | false =>
    focus (have kxs := hon; (repeat' (first | refine G ?_ | refine AW.ret ?_ | (refine GC ?_ ?_ <;> intro h <;> (try simp only [hsB] at h) <;> try (exfalso; first | omega | contradiction)) | (refine GL ?_ ?_ <;> intro h <;> (try simp only [Bool.not_true, Bool.not_false] at h) <;> (try simp only [h]) <;> (try simp only [hsB] at h) <;> try (exfalso; first | omega | contradiction)) | fail)); all_goals clear kxs)
    all_goals first | ((all_goals first | exact RetQ.fr 1 | exact RetQ.fn 1 | fail); done) | (exfalso; simp_all; done)
abbrev sbL (x : Sb) : List V := [.d (.l x.clk.ctx.length (vecD x.clk.ctx)), bv x.clk.dotted, sv (bs x.clk.dot.1), iv .u64 x.clk.dot.2, .d (.l x.meta_.length (prsD x.meta_)), bv x.dead, sv (bs x.val)]
/-- A copied sibling's cells: its rows are own ones. -/
abbrev cpO (x : Sb) (i : Nat) : List V := [.o i x.clk.ctx.length, bv x.clk.dotted, sv (bs x.clk.dot.1), iv .u64 x.clk.dot.2, .o (i + 1) x.meta_.length, bv x.dead, sv (bs x.val)]
theorem sibling_CopyO (x : Sb) (h1 : x.clk.ctx.length ≤ 1000000) (h2 : x.meta_.length ≤ 1000000) : AC Try.prog 23 [sbV x] []
    fun y σ => y = .a (cpO x 2) ∧ σ = [.box 44 (cpO x 2), .box 44 (cpO x 2), .row 40 2 x.clk.ctx.length (vecD x.clk.ctx), .row 35 2 x.meta_.length (prsD x.meta_)] := by
  refine AC.walk Try.func23 rfl (by decide) (of_decide_eq_true rfl) ?_
  focus (have kxs : 987654321 = 987654320 + 1 := rfl; have kk1 := uN [] (clone_EnO x.clk.ctx h1); have kk2 := uN [] (clone_PrO x.meta_ h2); (repeat' (first | refine G ?_ | refine AW.ret ?_ | (refine GC ?_ ?_ <;> intro h <;> (try simp only [hsB] at h) <;> try (exfalso; first | omega | contradiction)) | (refine GL ?_ ?_ <;> intro h <;> (try simp only [Bool.not_true, Bool.not_false] at h) <;> (try simp only [h]) <;> (try simp only [hsB] at h) <;> try (exfalso; first | omega | contradiction)) | fail)); all_goals clear kxs kk1 kk2)
  all_goals first | ((all_goals first | exact RetQ.fr 4 | exact RetQ.fn 4 | fail); done) | (exfalso; simp_all; done)

theorem prs_set {q r : Prs} {u : Pr} {i : Nat} (h : q.drop i = u :: r) (v : List UInt8) : setAt (prsD q) (i * 2 + 1) [D.s (.string ⟨v.toArray⟩)] = prsD (q.set i (u.1, v)) := by
  induction i generalizing q with
  | zero => simp only [List.drop_zero] at h; subst h; rfl
  | succ i ih =>
    cases q with
    | nil => simp at h
    | cons z q =>
      have := ih (q := q) (by simpa using h)
      rw [show (i + 1) * 2 + 1 = (i * 2 + 1) + 1 + 1 by omega]
      unfold setAt at this ⊢
      show _ :: _ :: (prsD q).set _ _ = _
      simpa [prsD, prD, setAt] using this
theorem vec_set {q r : Vec} {u : En} {i : Nat} (h : q.drop i = u :: r) (v : Nat) : setAt (vecD q) (i * 2 + 1) [D.s (.int .u64 v)] = vecD (q.set i (u.1, v)) := by
  induction i generalizing q with
  | zero => simp only [List.drop_zero] at h; subst h; rfl
  | succ i ih =>
    cases q with
    | nil => simp at h
    | cons z q =>
      have := ih (q := q) (by simpa using h)
      rw [show (i + 1) * 2 + 1 = (i * 2 + 1) + 1 + 1 by omega]
      unfold setAt at this ⊢
      show _ :: _ :: (vecD q).set _ _ = _
      simpa [vecD, enD, setAt] using this

theorem siblingEncodes (x y : Sb) (hx : x.fits) (hy : y.fits) : AC Try.prog 5 [sbV x, sbV y] [] fun x σ => x = bv true ∧ σ = [] := by
  refine AC.walk Try.func5 rfl (by decide) (of_decide_eq_true rfl) ?_
  have hgx' := ref15_Great x hx
  have hgy' := ref15_Great y hy
  by_cases hgx : x.great = true
  · focus (have kxs := hgx; have kk1 := uN [] (awake15); have kk2 := uN [] (hgx'); (repeat' (first | (refine ADr.nil ?_; try clear hgv) | refine GO ?_ | refine AW.ret ?_ | (refine GC ?_ ?_ <;> intro h <;> (try simp only [hsB] at h) <;> try (exfalso; first | omega | contradiction)) | (refine GD ?_ ?_ <;> intro h <;> (try intro hgv) <;> (try simp only [Bool.not_true, Bool.not_false] at h) <;> (try simp only [h]) <;> (try simp only [hsB] at h) <;> try (exfalso; first | omega | contradiction)) | (refine GL ?_ ?_ <;> intro h <;> (try simp only [Bool.not_true, Bool.not_false] at h) <;> (try simp only [h]) <;> (try simp only [hsB] at h) <;> try (exfalso; first | omega | contradiction)) | fail)); all_goals clear kxs kk1 kk2)
    all_goals first | ((all_goals first | exact RetQ.fr 0 | exact RetQ.fn 0 | fail); done) | (exfalso; simp_all; done)
  have hgx : x.great = false := by simpa using hgx
  by_cases hgy : y.great = true
  · focus (have kxs := And.intro hgx hgy; have kk1 := uN [] (awake15); have kk2 := uN [] (hgx'); have kk3 := uN [] (hgy'); (repeat' (first | (refine ADr.nil ?_; try clear hgv) | refine GO ?_ | refine AW.ret ?_ | (refine GC ?_ ?_ <;> intro h <;> (try simp only [hsB] at h) <;> try (exfalso; first | omega | contradiction)) | (refine GD ?_ ?_ <;> intro h <;> (try intro hgv) <;> (try simp only [Bool.not_true, Bool.not_false] at h) <;> (try simp only [h]) <;> (try simp only [hsB] at h) <;> try (exfalso; first | omega | contradiction)) | (refine GL ?_ ?_ <;> intro h <;> (try simp only [Bool.not_true, Bool.not_false] at h) <;> (try simp only [h]) <;> (try simp only [hsB] at h) <;> try (exfalso; first | omega | contradiction)) | fail)); all_goals clear kxs kk1 kk2 kk3)
    all_goals first | ((all_goals first | exact RetQ.fr 0 | exact RetQ.fn 0 | fail); done) | (exfalso; simp_all; done)
  have hgy : y.great = false := by simpa using hgy
  obtain ⟨p1, p2, p3⟩ := Sb.great_parts hgx
  have hl1 : x.clk.ctx.length ≤ 100 := by
    unfold Ck.great Vec.great at p1
    simp only [Bool.or_eq_false_iff, decide_eq_false_iff_not] at p1
    omega
  have hl2 : x.meta_.length ≤ 20 := by
    unfold Prs.great at p2
    simp only [Bool.or_eq_false_iff, decide_eq_false_iff_not] at p2
    omega
  have hpb : ∀ w ∈ x.meta_, w.2.length ≤ 100 + 0 := by
    unfold Prs.great at p2
    simp only [Bool.or_eq_false_iff, decide_eq_false_iff_not, List.any_eq_false, Bool.or_eq_true, decide_eq_true_eq, not_or] at p2
    intro w hw
    have := p2.2 w hw
    omega
  have hcp := sibling_CopyO x (by omega) (by omega)
  have hen := sibling_Encode x hx
  have hre := ref15_Encode x hx
  have hck := sibling_Check x hx
  have hrc := ref15_Check x hx
  have hsa := sibling_Same x y hx.1.1.1 hx.2.1.1
  have hsb := ref15_Same x y hx.1.1.1 hx.2.1.1
  have hsx := ref15_Same x x hx.1.1.1 hx.2.1.1
  have hxx : decide (x = x) = true := by simp
  rw [hxx] at hsx
  obtain ⟨s, f, he, hf, hw, hls⟩ : ∃ s f, sibe x = (s, f) ∧ x.check = f ∧ (f = 0 → sibw s = (x, 0)) ∧ s.length ≤ 16900 := by
    by_cases hc : x.check = 0
    · have hg : gsib x := ⟨hc, hx.1.1.2.2, hx.1.2.2⟩
      exact ⟨_, _, sibe_good hg hgx, hc, fun _ => rdw_fore trip_sib hg, Sb.great_len hgx hg.2.1 hg.2.2⟩
    · exact ⟨_, _, sibe_bad hc, rfl, fun h => absurd h hc, by simp⟩
  rw [he] at hen hre
  rw [hf] at hck hrc
  simp only at hen hre
  generalize decide (x = y) = r at *
  focus (have kxs := And.intro hgx hgy; have kk1 := uN [] (awake15); have kk2 := uN [] (hgx'); have kk3 := uN [] (hgy'); have kk4 := uN [] (hen); have kk5 := uN [] (hre); have kk6 := uN [] (hck); have kk7 := uN [] (hrc); have kk8 := uN [] (hsa); have kk9 := uL (hsx); have kk10 := uN [] (hsb); have kk11 := uN [] (hcp); (repeat' (first | (refine ADr.nil ?_; try clear hgv) | refine GO ?_ | refine AW.ret ?_ | (refine GC ?_ ?_ <;> intro h <;> (try simp only [hsB] at h) <;> try (exfalso; first | omega | contradiction)) | (refine GD ?_ ?_ <;> intro h <;> (try intro hgv) <;> (try simp only [Bool.not_true, Bool.not_false] at h) <;> (try simp only [h]) <;> (try simp only [hsB] at h) <;> try (exfalso; first | omega | contradiction)) | (refine GL ?_ ?_ <;> intro h <;> (try simp only [Bool.not_true, Bool.not_false] at h) <;> (try simp only [h]) <;> (try simp only [hsB] at h) <;> try (exfalso; first | omega | contradiction)) | fail)); all_goals clear kxs kk1 kk2 kk3 kk4 kk5 kk6 kk7 kk8 kk9 kk10 kk11)
  all_goals first | (exfalso; simp_all; done) | skip
  refine AW.rounds [2, 4, 5, 7, 8, 9, 10] (fun z : Nat × Prs => [(2, .p 0 0), (4, bv false), (5, sv (bs s)), (7, sv (bs s)), (8, iv .i64 f), (9, .p 6 0), (10, iv .i64 z.1)])
    (fun z => [.box 44 (sbL x), .box 44 (sbL y), .box 44 (cpO x 4), .box 44 (cpO x 4), .row 40 2 x.clk.ctx.length (vecD x.clk.ctx), .row 35 2 x.meta_.length (prsD z.2), .box 44 (cpO x 4)])
    (fun z => z.1 ≤ x.meta_.length ∧ z.2.length = x.meta_.length ∧ ∀ w ∈ z.2, w.2.length ≤ 100 + z.1) (fun z => x.meta_.length - z.1) (0, x.meta_) ⟨Nat.zero_le _, rfl, hpb⟩ rfl rfl (fun _ _ => Nat.zero_le _) (fun _ _ => rfl) (fun _ _ => rfl) ?_
  rintro ⟨i, q⟩ ⟨hi, hq, hqb⟩ J hJ
  simp only at hi hq hqb
  clear hgx' hgy' hen hck hrc hsa hsb
  have hqn : (prsD q).length = x.meta_.length * 2 := by rw [← hq]; exact flat_len (f := prD) (sz := 2) (fun _ => rfl) q
  by_cases hil : i < x.meta_.length
  · obtain ⟨u, r', hd⟩ := next_at (l := q) (i := i) (by omega)
    have hcd := congrArg (List.drop 1) (prs_drop hd)
    rw [List.drop_drop] at hcd
    simp only [List.drop_succ_cons, List.drop_zero] at hcd
    have hst : (prsD q).set (i * 2 + 1) (D.s (.string ⟨(u.2 ++ [33]).toArray⟩)) = prsD (q.set i (u.1, u.2 ++ [33])) := prs_set hd (u.2 ++ [33])
    have hub := hqb u (next_mem hd)
    focus (have kxs := And.intro hcd (And.intro hst hqn); (repeat' (first | (refine ADr.nil ?_; try clear hgv) | refine GO ?_ | refine AW.ret ?_ | (refine GC ?_ ?_ <;> intro h <;> (try simp only [hsB] at h) <;> try (exfalso; first | omega | contradiction)) | (refine GD ?_ ?_ <;> intro h <;> (try intro hgv) <;> (try simp only [Bool.not_true, Bool.not_false] at h) <;> (try simp only [h]) <;> (try simp only [hsB] at h) <;> try (exfalso; first | omega | contradiction)) | (refine GL ?_ ?_ <;> intro h <;> (try simp only [Bool.not_true, Bool.not_false] at h) <;> (try simp only [h]) <;> (try simp only [hsB] at h) <;> try (exfalso; first | omega | contradiction)) | fail)); all_goals clear kxs)
    all_goals first | (refine hJ (i + 1, q.set i (u.1, u.2 ++ [33])) _ _ (by simp only; omega) ⟨hil, by rw [List.length_set]; exact hq, fun w hw => by
      simp only at hw ⊢
      rcases List.mem_or_eq_of_mem_set hw with h | rfl
      · have := hqb w h; omega
      · simp only [List.length_append, List.length_cons, List.length_nil]; omega⟩ rfl rfl) | (exfalso; simp_all; done)
  · focus (have kxs : 987654321 = 987654320 + 1 := rfl; (repeat' (first | (refine ADr.nil ?_; try clear hgv) | refine GO ?_ | refine AW.ret ?_ | (refine GC ?_ ?_ <;> intro h <;> (try simp only [hsB] at h) <;> try (exfalso; first | omega | contradiction)) | (refine GD ?_ ?_ <;> intro h <;> (try intro hgv) <;> (try simp only [Bool.not_true, Bool.not_false] at h) <;> (try simp only [h]) <;> (try simp only [hsB] at h) <;> try (exfalso; first | omega | contradiction)) | (refine GL ?_ ?_ <;> intro h <;> (try simp only [Bool.not_true, Bool.not_false] at h) <;> (try simp only [h]) <;> (try simp only [hsB] at h) <;> try (exfalso; first | omega | contradiction)) | fail)); all_goals clear kxs)
    all_goals first | (exfalso; simp_all; done) | skip
    refine AW.rounds [2, 4, 5, 7, 8, 9, 11] (fun z : Nat × Vec => [(2, .p 0 0), (4, bv false), (5, sv (bs s)), (7, sv (bs s)), (8, iv .i64 f), (9, .p 6 0), (11, iv .i64 z.1)])
      (fun z => [.box 44 (sbL x), .box 44 (sbL y), .box 44 (cpO x 4), .box 44 (cpO x 4), .row 40 2 x.clk.ctx.length (vecD z.2), .row 35 2 x.meta_.length (prsD q), .box 44 (cpO x 4)])
      (fun z => z.1 ≤ x.clk.ctx.length ∧ z.2.length = x.clk.ctx.length) (fun z => x.clk.ctx.length - z.1) (0, x.clk.ctx) ⟨Nat.zero_le _, rfl⟩ rfl rfl (fun _ _ => Nat.zero_le _) (fun _ _ => rfl) (fun _ _ => rfl) ?_
    clear hJ J
    rintro ⟨j, v⟩ ⟨hj, hv⟩ J hJ
    simp only at hj hv
    have hvn : (vecD v).length = x.clk.ctx.length * 2 := by rw [← hv]; exact flat_len (f := enD) (sz := 2) (fun _ => rfl) v
    by_cases hjl : j < x.clk.ctx.length
    · obtain ⟨u, r', hd⟩ := next_at (l := v) (i := j) (by omega)
      have hcd := congrArg (List.drop 1) (vec_drop hd)
      rw [List.drop_drop] at hcd
      simp only [List.drop_succ_cons, List.drop_zero] at hcd
      have hst : (vecD v).set (j * 2 + 1) (D.s (.int .u64 (IntKind.u64.wrap ((u.2 : Nat) + 1 : Int)))) = vecD (v.set j (u.1, (u.2 + 1) % 18446744073709551616)) := by
        rw [show IntKind.u64.wrap ((u.2 : Nat) + 1 : Int) = (((u.2 + 1) % 18446744073709551616 : Nat) : Int) from by rw [IntKind.wrap_u64]; omega]
        exact vec_set hd _
      focus (have kxs := And.intro hcd (And.intro hst hvn); (repeat' (first | (refine ADr.nil ?_; try clear hgv) | refine GO ?_ | refine AW.ret ?_ | (refine GC ?_ ?_ <;> intro h <;> (try simp only [hsB] at h) <;> try (exfalso; first | omega | contradiction)) | (refine GD ?_ ?_ <;> intro h <;> (try intro hgv) <;> (try simp only [Bool.not_true, Bool.not_false] at h) <;> (try simp only [h]) <;> (try simp only [hsB] at h) <;> try (exfalso; first | omega | contradiction)) | (refine GL ?_ ?_ <;> intro h <;> (try simp only [Bool.not_true, Bool.not_false] at h) <;> (try simp only [h]) <;> (try simp only [hsB] at h) <;> try (exfalso; first | omega | contradiction)) | fail)); all_goals clear kxs)
      all_goals first | (refine hJ (j + 1, v.set j (u.1, (u.2 + 1) % 18446744073709551616)) _ _ (by simp only; omega) ⟨hjl, by rw [List.length_set]; exact hv⟩ rfl rfl) | (exfalso; simp_all; done)
    · by_cases hf0 : f = 0
      · have hde := sibling_Decode s (by omega)
        rw [hw hf0] at hde
        clear hcp hpb hw he hf
        focus (have kxs := hf0; have kk1 := uN [] (hre); have kk2 := uN [] (hde); have kk3 := uN [] (hsx); (repeat' (first | (refine ADr.nil ?_; try clear hgv) | refine GO ?_ | refine AW.ret ?_ | (refine GC ?_ ?_ <;> intro h <;> (try simp only [hsB] at h) <;> try (exfalso; first | omega | contradiction)) | (refine GD ?_ ?_ <;> intro h <;> (try intro hgv) <;> (try simp only [Bool.not_true, Bool.not_false] at h) <;> (try simp only [h]) <;> (try simp only [hsB] at h) <;> try (exfalso; first | omega | contradiction)) | (refine GL ?_ ?_ <;> intro h <;> (try simp only [Bool.not_true, Bool.not_false] at h) <;> (try simp only [h]) <;> (try simp only [hsB] at h) <;> try (exfalso; first | omega | contradiction)) | fail)); all_goals clear kxs kk1 kk2 kk3)
        all_goals first | ((all_goals first | exact RetQ.fr 0 | exact RetQ.fn 0 | fail); done) | (exfalso; simp_all; done)
      · focus (have kxs : 987654321 = 987654320 + 1 := rfl; (repeat' (first | (refine ADr.nil ?_; try clear hgv) | refine GO ?_ | refine AW.ret ?_ | (refine GC ?_ ?_ <;> intro h <;> (try simp only [hsB] at h) <;> try (exfalso; first | omega | contradiction)) | (refine GD ?_ ?_ <;> intro h <;> (try intro hgv) <;> (try simp only [Bool.not_true, Bool.not_false] at h) <;> (try simp only [h]) <;> (try simp only [hsB] at h) <;> try (exfalso; first | omega | contradiction)) | (refine GL ?_ ?_ <;> intro h <;> (try simp only [Bool.not_true, Bool.not_false] at h) <;> (try simp only [h]) <;> (try simp only [hsB] at h) <;> try (exfalso; first | omega | contradiction)) | fail)); all_goals clear kxs)
        all_goals first | ((all_goals first | exact RetQ.fr 0 | exact RetQ.fn 0 | fail); done) | (exfalso; simp_all; done)
end Go.AW
