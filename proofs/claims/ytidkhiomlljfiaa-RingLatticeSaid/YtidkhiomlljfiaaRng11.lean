/-
  rings that are joined: the program's.
-/
import Derived.Test.YtidkhiomlljfiaaRng8
import Derived.Test.YtidkhiomlljfiaaPJoin
import Derived.Test.YtidkhiomlljfiaaAwFrz
namespace Go.AW
open Go Go.Proofs
set_option maxHeartbeats 4000000
set_option maxRecDepth 10000
set_option linter.unusedSimpArgs false
set_option linter.unusedVariables false
attribute [local irreducible] thenQ blockQ RetQ AL AW AC AOp

theorem toks_ones (l : List Nat) : onesD (toksD l) = true := by
  induction l with
  | nil => rfl
  | cons t l ih =>
    show (D.one _ && onesD (toksD l)) = true
    rw [ih]; rfl
theorem clone_64 (v : List Nat) (hv : v.length ≤ 1000000) : AC Try.prog 60 [.d (.l v.length (toksD v))] [] fun x σ => x = .d (.l v.length (toksD v)) ∧ σ = [] := by
  refine AC.walk Try.func60 rfl (by decide) (of_decide_eq_true rfl) ?_
  have hol : (toksD v).length = v.length := List.length_map _
  have hon : onesD (toksD v) = true := toks_ones v
  focus (have kxs : 987654321 = 987654320 + 1 := rfl; (repeat' (first | refine G ?_ | refine AW.ret ?_ | (refine GC ?_ ?_ <;> intro h <;> (try simp only [hsB] at h) <;> try (exfalso; first | omega | contradiction)) | (refine GL ?_ ?_ <;> intro h <;> (try simp only [Bool.not_true, Bool.not_false] at h) <;> (try simp only [h]) <;> (try simp only [hsB] at h) <;> try (exfalso; first | omega | contradiction)) | fail)); all_goals clear kxs)
  refine AL.one (by decide) fun Kr hr => ?_
  (try simp only [ao, List.map_cons, List.map_nil]); simp (disch := omega) only [go_sem]
  intro b hb
  refine hr _ _ ?_
  clear hr Kr
  cases b with
  | true =>
    have h0 : v = [] := List.length_eq_zero_iff.1 (hb rfl)
    subst h0
    focus (have kxs : 987654321 = 987654320 + 1 := rfl; (repeat' (first | refine G ?_ | refine AW.ret ?_ | (refine GC ?_ ?_ <;> intro h <;> (try simp only [hsB] at h) <;> try (exfalso; first | omega | contradiction)) | (refine GL ?_ ?_ <;> intro h <;> (try simp only [Bool.not_true, Bool.not_false] at h) <;> (try simp only [h]) <;> (try simp only [hsB] at h) <;> try (exfalso; first | omega | contradiction)) | fail)); all_goals clear kxs)
    all_goals first | ((all_goals first | exact RetQ.fr 0 | exact RetQ.fn 0 | fail); done) | (exfalso; simp_all; done)
  | false =>
    focus (have kxs := hon; (repeat' (first | refine G ?_ | refine AW.ret ?_ | (refine GC ?_ ?_ <;> intro h <;> (try simp only [hsB] at h) <;> try (exfalso; first | omega | contradiction)) | (refine GL ?_ ?_ <;> intro h <;> (try simp only [Bool.not_true, Bool.not_false] at h) <;> (try simp only [h]) <;> (try simp only [hsB] at h) <;> try (exfalso; first | omega | contradiction)) | fail)); all_goals clear kxs)
    all_goals first | ((all_goals first | exact RetQ.fr 0 | exact RetQ.fn 0 | fail); done) | (exfalso; simp_all; done)
theorem ring_copied (x : Mb) (hx : x.toks.length ≤ 1000000) : AC Try.prog 31 [mbV x] [] fun y σ => y = mbV x ∧ σ = [] := by
  refine AC.walk Try.func31 rfl (by decide) (of_decide_eq_true rfl) ?_
  focus (have kxs : 987654321 = 987654320 + 1 := rfl; have kk1 := uN [] (clone_64 x.toks hx); (repeat' (first | refine G ?_ | refine AW.ret ?_ | (refine GC ?_ ?_ <;> intro h <;> (try simp only [hsB] at h) <;> try (exfalso; first | omega | contradiction)) | (refine GL ?_ ?_ <;> intro h <;> (try simp only [Bool.not_true, Bool.not_false] at h) <;> (try simp only [h]) <;> (try simp only [hsB] at h) <;> try (exfalso; first | omega | contradiction)) | fail)); all_goals clear kxs kk1)
  all_goals first | ((all_goals first | exact RetQ.fr 0 | exact RetQ.fn 0 | fail); done) | (exfalso; simp_all; done)
theorem counts_rest (x : Mb) (hst : x.st < 256) (ht : x.toks.length ≤ 16) (hf : ∀ t ∈ x.toks, t < 18446744073709551616) : AC Try.prog 61 [mbV x] [] fun y σ => y = sv (bs x.rest) ∧ σ = [] := by
  refine AC.walk Try.func61 rfl (by decide) (of_decide_eq_true rfl) ?_
  have hvl := vput_len10 (n := x.toks.length) (by omega)
  have hl : x.rest.length ≤ 65536 := by
    unfold Mb.rest estt etoks; simp only [List.length_append, enc8_flat, List.length_cons, List.length_nil]; omega
  have hnew := pen_New 65536 (by decide)
  rw [if_neg (by decide)] at hnew
  have hre := ring_rest [] x hst ht hf (by rw [List.length_nil]; show 0 + x.rest.length ≤ _; omega)
  rw [List.nil_append] at hre
  have e : estt x.st ++ etoks x.toks = x.rest := rfl
  rw [e] at hre
  generalize x.rest = q at *
  have hend := pen_End q 65536 0 (pe_ok hl)
  have hfin : Pe.fin ⟨q, 65536, 0⟩ = (q, 0) := by unfold Pe.fin; rw [if_neg (by simp)]
  rw [hfin] at hend
  simp only at hend
  focus (have kxs : 987654321 = 987654320 + 1 := rfl; have kk1 := uN [] (hnew); have kk2 := uN [1, 2] (hre); have kk3 := uN [1, 2] (hend); (repeat' (first | refine G ?_ | refine AW.ret ?_ | (refine GC ?_ ?_ <;> intro h <;> (try simp only [hsB] at h) <;> try (exfalso; first | omega | contradiction)) | (refine GL ?_ ?_ <;> intro h <;> (try simp only [Bool.not_true, Bool.not_false] at h) <;> (try simp only [h]) <;> (try simp only [hsB] at h) <;> try (exfalso; first | omega | contradiction)) | fail)); all_goals clear kxs kk1 kk2 kk3)
  all_goals first | ((all_goals first | exact RetQ.fr 0 | exact RetQ.fn 0 | fail); done) | (exfalso; simp_all; done)
theorem ring_counts (x y : Mb) (hx : x.fits ∧ x.toks.length ≤ 16) (hy : y.fits ∧ y.toks.length ≤ 16) : AC Try.prog 32 [mbV x, mbV y] [] fun z σ => z = mbV (counts x y) ∧ σ = [] := by
  refine AC.walk Try.func32 rfl (by decide) (of_decide_eq_true rfl) ?_
  have h1 := counts_rest x hx.1.2.1 hx.2 hx.1.2.2
  have h2 := counts_rest y hy.1.2.1 hy.2 hy.1.2.2
  unfold counts
  by_cases ha : y.ep < x.ep
  · rw [if_pos (by rw [mless_iff]; exact .inl ha)]
    have ha' : (y.ep : Int) < x.ep := by omega
    focus (have kxs : 987654321 = 987654320 + 1 := rfl; have kk1 := uN [] (h1); have kk2 := uN [] (h2); (repeat' (first | (refine ADr.nil ?_; try clear hgv) | refine GO ?_ | refine AW.ret ?_ | (refine GC ?_ ?_ <;> intro h <;> (try simp only [hsB] at h) <;> try (exfalso; first | omega | contradiction)) | (refine GD ?_ ?_ <;> intro h <;> (try intro hgv) <;> (try simp only [Bool.not_true, Bool.not_false] at h) <;> (try simp only [h]) <;> (try simp only [hsB] at h) <;> try (exfalso; first | omega | contradiction)) | (refine GL ?_ ?_ <;> intro h <;> (try simp only [Bool.not_true, Bool.not_false] at h) <;> (try simp only [h]) <;> (try simp only [hsB] at h) <;> try (exfalso; first | omega | contradiction)) | fail)); all_goals clear kxs kk1 kk2)
    all_goals first | ((all_goals first | exact RetQ.fr 0 | exact RetQ.fn 0 | fail); done) | (exfalso; omega) | (exfalso; simp_all; done)
  by_cases hb : y.ep = x.ep
  case neg =>
    rw [if_neg (by rw [mless_iff]; omega)]
    focus (have kxs : 987654321 = 987654320 + 1 := rfl; have kk1 := uN [] (h1); have kk2 := uN [] (h2); (repeat' (first | (refine ADr.nil ?_; try clear hgv) | refine GO ?_ | refine AW.ret ?_ | (refine GC ?_ ?_ <;> intro h <;> (try simp only [hsB] at h) <;> try (exfalso; first | omega | contradiction)) | (refine GD ?_ ?_ <;> intro h <;> (try intro hgv) <;> (try simp only [Bool.not_true, Bool.not_false] at h) <;> (try simp only [h]) <;> (try simp only [hsB] at h) <;> try (exfalso; first | omega | contradiction)) | (refine GL ?_ ?_ <;> intro h <;> (try simp only [Bool.not_true, Bool.not_false] at h) <;> (try simp only [h]) <;> (try simp only [hsB] at h) <;> try (exfalso; first | omega | contradiction)) | fail)); all_goals clear kxs kk1 kk2)
    all_goals first | ((all_goals first | exact RetQ.fr 0 | exact RetQ.fn 0 | fail); done) | (exfalso; omega) | (exfalso; simp_all; done)
  have hm : mless y x = lessB y.rest x.rest := by unfold mless; simp [hb]
  have htri := less_tri x.rest y.rest
  rw [hm]
  cases hc : lessB y.rest x.rest with
  | true =>
    rw [if_pos rfl]
    have hc' : Op.bytesLess y.rest x.rest = true := hc
    focus (have kxs := And.intro htri (And.intro hc' @Bool.not_not); have kk1 := uN [] (h1); have kk2 := uN [] (h2); (repeat' (first | (refine ADr.nil ?_; try clear hgv) | refine GO ?_ | refine AW.ret ?_ | (refine GC ?_ ?_ <;> intro h <;> (try simp only [hsB] at h) <;> try (exfalso; first | omega | contradiction)) | (refine GD ?_ ?_ <;> intro h <;> (try intro hgv) <;> (try simp only [Bool.not_true, Bool.not_false] at h) <;> (try simp only [h]) <;> (try simp only [hsB] at h) <;> try (exfalso; first | omega | contradiction)) | (refine GL ?_ ?_ <;> intro h <;> (try simp only [Bool.not_true, Bool.not_false] at h) <;> (try simp only [h]) <;> (try simp only [hsB] at h) <;> try (exfalso; first | omega | contradiction)) | fail)); all_goals clear kxs kk1 kk2)
    all_goals first | ((all_goals first | exact RetQ.fr 0 | exact RetQ.fn 0 | fail); done) | (exfalso; omega) | (exfalso; simp_all; done)
  | false =>
    rw [if_neg (by decide)]
    have hc' : Op.bytesLess y.rest x.rest = false := hc
    focus (have kxs := And.intro htri (And.intro hc' @Bool.not_not); have kk1 := uN [] (h1); have kk2 := uN [] (h2); (repeat' (first | (refine ADr.nil ?_; try clear hgv) | refine GO ?_ | refine AW.ret ?_ | (refine GC ?_ ?_ <;> intro h <;> (try simp only [hsB] at h) <;> try (exfalso; first | omega | contradiction)) | (refine GD ?_ ?_ <;> intro h <;> (try intro hgv) <;> (try simp only [Bool.not_true, Bool.not_false] at h) <;> (try simp only [h]) <;> (try simp only [hsB] at h) <;> try (exfalso; first | omega | contradiction)) | (refine GL ?_ ?_ <;> intro h <;> (try simp only [Bool.not_true, Bool.not_false] at h) <;> (try simp only [h]) <;> (try simp only [hsB] at h) <;> try (exfalso; first | omega | contradiction)) | fail)); all_goals clear kxs kk1 kk2)
    all_goals first | ((all_goals first | exact RetQ.fr 0 | exact RetQ.fn 0 | fail); done) | (exfalso; omega) | (exfalso; simp_all; done)
theorem ring_snoc' (l : Ring) (x : Mb) : ringD l ++ [D.s (.string ⟨x.name.toArray⟩), .s (.int .u64 (x.ep : Nat)), .s (.int .u8 (x.st : Nat)), .l x.toks.length (toksD x.toks)] = ringD (l ++ [x]) := by
  rw [ringD, ringD, List.map_append, List.flatten_append]; rfl
theorem ring_Join (a b : Ring) (ha : a.fits) (hb : b.fits) : AC Try.prog 12 [.d (.l a.length (ringD a)), .d (.l b.length (ringD b))] [] fun x σ => x = .t [.d (.l (ringj a b).1.length (ringD (ringj a b).1)), iv .i64 (ringj a b).2] ∧ σ = [] := by
  refine AC.walk Try.func12 rfl (by decide) (of_decide_eq_true rfl) ?_
  have hca := ring_Check a ha
  have hcb := ring_Check b hb
  by_cases h1 : Ring.check a = 0
  case neg =>
    have e : ringj a b = ([], 1) := by unfold ringj; rw [if_pos (.inl h1)]
    rw [e]
    generalize Ring.check a = f at *
    focus (have kxs : 987654321 = 987654320 + 1 := rfl; have kk1 := uN [] (hca); (repeat' (first | (refine ADr.nil ?_; try clear hgv) | refine GO ?_ | refine AW.ret ?_ | (refine GC ?_ ?_ <;> intro h <;> (try simp only [hsB] at h) <;> try (exfalso; first | omega | contradiction)) | (refine GD ?_ ?_ <;> intro h <;> (try intro hgv) <;> (try simp only [Bool.not_true, Bool.not_false] at h) <;> (try simp only [h]) <;> (try simp only [hsB] at h) <;> try (exfalso; first | omega | contradiction)) | (refine GL ?_ ?_ <;> intro h <;> (try simp only [Bool.not_true, Bool.not_false] at h) <;> (try simp only [h]) <;> (try simp only [hsB] at h) <;> try (exfalso; first | omega | contradiction)) | fail)); all_goals clear kxs kk1)
    all_goals first | ((all_goals first | exact RetQ.fr 0 | exact RetQ.fn 0 | fail); done) | (exfalso; omega) | (exfalso; simp_all; done)
  rw [h1] at hca
  by_cases h2 : Ring.check b = 0
  case neg =>
    have e : ringj a b = ([], 1) := by unfold ringj; rw [if_pos (.inr h2)]
    rw [e]
    generalize Ring.check b = f at *
    focus (have kxs : 987654321 = 987654320 + 1 := rfl; have kk1 := uN [] (hca); have kk2 := uN [] (hcb); (repeat' (first | (refine ADr.nil ?_; try clear hgv) | refine GO ?_ | refine AW.ret ?_ | (refine GC ?_ ?_ <;> intro h <;> (try simp only [hsB] at h) <;> try (exfalso; first | omega | contradiction)) | (refine GD ?_ ?_ <;> intro h <;> (try intro hgv) <;> (try simp only [Bool.not_true, Bool.not_false] at h) <;> (try simp only [h]) <;> (try simp only [hsB] at h) <;> try (exfalso; first | omega | contradiction)) | (refine GL ?_ ?_ <;> intro h <;> (try simp only [Bool.not_true, Bool.not_false] at h) <;> (try simp only [h]) <;> (try simp only [hsB] at h) <;> try (exfalso; first | omega | contradiction)) | fail)); all_goals clear kxs kk1 kk2)
    all_goals first | ((all_goals first | exact RetQ.fr 0 | exact RetQ.fn 0 | fail); done) | (exfalso; omega) | (exfalso; simp_all; done)
  rw [h2] at hcb
  have hga : gring a := ⟨h1, fun x hx => (ha.2 x hx).1⟩
  have hgb : gring b := ⟨h2, fun x hx => (hb.2 x hx).1⟩
  rw [ringj_good hga hgb]
  obtain ⟨a1, a2⟩ := Ring.check_parts h1
  obtain ⟨b1, b2⟩ := Ring.check_parts h2
  generalize hM : joinm a b = M
  focus (have kxs : 987654321 = 987654320 + 1 := rfl; have kk1 := uN [] (hca); have kk2 := uN [] (hcb); (repeat' (first | (refine ADr.nil ?_; try clear hgv) | refine GO ?_ | refine AW.ret ?_ | (refine GC ?_ ?_ <;> intro h <;> (try simp only [hsB] at h) <;> try (exfalso; first | omega | contradiction)) | (refine GD ?_ ?_ <;> intro h <;> (try intro hgv) <;> (try simp only [Bool.not_true, Bool.not_false] at h) <;> (try simp only [h]) <;> (try simp only [hsB] at h) <;> try (exfalso; first | omega | contradiction)) | (refine GL ?_ ?_ <;> intro h <;> (try simp only [Bool.not_true, Bool.not_false] at h) <;> (try simp only [h]) <;> (try simp only [hsB] at h) <;> try (exfalso; first | omega | contradiction)) | fail)); all_goals clear kxs kk1 kk2)
  all_goals first | (exfalso; omega) | (exfalso; simp_all; done) | skip
  clear hca hcb
  refine AW.birth 55 4 [6] [] ?_
  refine AW.rounds [0, 1, 4, 5, 6] (fun z : Ring × Ring × Ring => [(0, .d (.l z.1.length (ringD z.1))), (1, .d (.l z.2.1.length (ringD z.2.1))), (4, .d (.s (.slice none 0 0))), (5, iv .i64 0), (6, .o 0 z.2.2.length)]) (fun z => [.row 55 4 z.2.2.length (ringD z.2.2)])
    (fun z => M = z.2.2 ++ joinm z.1 z.2.1 ∧ (∀ x ∈ z.1, x.fits ∧ x.toks.length ≤ 16) ∧ (∀ x ∈ z.2.1, x.fits ∧ x.toks.length ≤ 16) ∧ z.1.length + z.2.1.length + z.2.2.length ≤ 64) (fun z => z.1.length + z.2.1.length) (a, b, [])
    ⟨by simp only [List.nil_append]; exact hM.symm, fun x hx => ⟨hga.2 x hx, (a2 x hx).2.2.2.2.1⟩, fun x hx => ⟨hgb.2 x hx, (b2 x hx).2.2.2.2.1⟩, by simp only [List.length_nil]; omega⟩ rfl rfl (fun _ _ => Nat.le_of_ble_eq_true rfl) (fun _ _ => rfl) (fun _ _ => rfl) ?_
  rintro ⟨u, v, out⟩ ⟨hj, hu, hv, hlen⟩ J hJ
  simp only at hj hu hv hlen ⊢
  clear hM ha hb hga hgb a2 b2
  have go : ∀ (u' v' : Ring) (z : Mb), joinm u v = z :: joinm u' v' → (∀ x ∈ u', x.fits ∧ x.toks.length ≤ 16) → (∀ x ∈ v', x.fits ∧ x.toks.length ≤ 16) → u'.length + v'.length + (out.length + 1) ≤ 64 → u'.length + v'.length < u.length + v.length →
      ∀ T' σ', keepT T' [0, 1, 4, 5, 6] = [(0, .d (.l u'.length (ringD u'))), (1, .d (.l v'.length (ringD v'))), (4, .d (.s (.slice none 0 0))), (5, iv .i64 0), (6, .o 0 (out.length + 1))] → σ'.take 1 = [.row 55 4 (out.length + 1) (ringD out ++ [D.s (.string ⟨z.name.toArray⟩), .s (.int .u64 (z.ep : Nat)), .s (.int .u8 (z.st : Nat)), .l z.toks.length (toksD z.toks)])] → J T' σ' := fun u' v' z e1 e2 e3 e4 e5 T' σ' g1 g2 => by
    have hl : (out ++ [z]).length = out.length + 1 := by simp
    refine hJ (u', v', out ++ [z]) T' σ' (by simp only; omega) ⟨by rw [hj, e1]; simp, e2, e3, by simp only [hl]; exact e4⟩ (by simp only [hl]; exact g1) (by simp only [hl]; rw [← ring_snoc']; exact g2)
  cases u with
  | nil =>
    cases v with
    | nil =>
      rw [joinm_left, List.append_nil] at hj
      rw [hj]
      by_cases ho : 32 < out.length
      · rw [if_pos ho]
        focus (have kxs : 987654321 = 987654320 + 1 := rfl; (repeat' (first | (refine ADr.nil ?_; try clear hgv) | refine GO ?_ | refine AW.ret ?_ | (refine GC ?_ ?_ <;> intro h <;> (try simp only [hsB] at h) <;> try (exfalso; first | omega | contradiction)) | (refine GD ?_ ?_ <;> intro h <;> (try intro hgv) <;> (try simp only [Bool.not_true, Bool.not_false] at h) <;> (try simp only [h]) <;> (try simp only [hsB] at h) <;> try (exfalso; first | omega | contradiction)) | (refine GL ?_ ?_ <;> intro h <;> (try simp only [Bool.not_true, Bool.not_false] at h) <;> (try simp only [h]) <;> (try simp only [hsB] at h) <;> try (exfalso; first | omega | contradiction)) | fail)); all_goals clear kxs)
        all_goals first | ((all_goals first | exact RetQ.fr 0 | exact RetQ.fn 0 | fail); done) | (exfalso; omega) | (exfalso; simp_all; done)
      · rw [if_neg ho]
        focus (have kxs : 987654321 = 987654320 + 1 := rfl; (repeat' (first | (refine ADr.nil ?_; try clear hgv) | refine GO ?_ | refine AW.ret ?_ | (refine GC ?_ ?_ <;> intro h <;> (try simp only [hsB] at h) <;> try (exfalso; first | omega | contradiction)) | (refine GD ?_ ?_ <;> intro h <;> (try intro hgv) <;> (try simp only [Bool.not_true, Bool.not_false] at h) <;> (try simp only [h]) <;> (try simp only [hsB] at h) <;> try (exfalso; first | omega | contradiction)) | (refine GL ?_ ?_ <;> intro h <;> (try simp only [Bool.not_true, Bool.not_false] at h) <;> (try simp only [h]) <;> (try simp only [hsB] at h) <;> try (exfalso; first | omega | contradiction)) | fail)); all_goals clear kxs)
        all_goals first | ((all_goals first | exact RetQ.fr 0 | exact RetQ.fn 0 | fail); done) | (exfalso; omega) | (exfalso; simp_all; done)
    | cons y v =>
      have hy := hv y List.mem_cons_self
      have hvl : (ringD v).length = v.length * 4 := flat_len (f := mbD) (sz := 4) (fun _ => rfl) v
      have hcp := ring_copied y (by omega)
      have go := go [] v y (by rw [joinm_left, joinm_left]) (fun x hx => (List.not_mem_nil hx).elim) (fun x hx => hv x (List.mem_cons_of_mem _ hx)) (by simp only [List.length_cons, List.length_nil] at hlen ⊢; omega) (by simp only [List.length_cons, List.length_nil]; omega)
      have hcy : ringD (y :: v) = D.s (.string ⟨y.name.toArray⟩) :: .s (.int .u64 (y.ep : Nat)) :: .s (.int .u8 (y.st : Nat)) :: .l y.toks.length (toksD y.toks) :: ringD v := rfl
      have hly : (y :: v).length = v.length + 1 := rfl
      rw [hcy, hly]
      clear hJ hv hu hj
      focus (have kxs : 987654321 = 987654320 + 1 := rfl; have kk1 := uN [] (hcp); (repeat' (first | (refine ADr.nil ?_; try clear hgv) | refine GW ?_ | refine AW.ret ?_ | (refine GC ?_ ?_ <;> intro h <;> (try simp only [hsB] at h) <;> try (exfalso; first | omega | contradiction)) | (refine GD ?_ ?_ <;> intro h <;> (try intro hgv) <;> (try simp only [Bool.not_true, Bool.not_false] at h) <;> (try simp only [h]) <;> (try simp only [hsB] at h) <;> try (exfalso; first | omega | contradiction)) | (refine GL ?_ ?_ <;> intro h <;> (try simp only [Bool.not_true, Bool.not_false] at h) <;> (try simp only [h]) <;> (try simp only [hsB] at h) <;> try (exfalso; first | omega | contradiction)) | fail)); all_goals clear kxs kk1)
      all_goals first | exact go _ _ rfl rfl | (exfalso; omega) | (exfalso; simp_all; done)
  | cons x u =>
    have hx := hu x List.mem_cons_self
    have hul : (ringD u).length = u.length * 4 := flat_len (f := mbD) (sz := 4) (fun _ => rfl) u
    have hcp := ring_copied x (by omega)
    have hcx : ringD (x :: u) = D.s (.string ⟨x.name.toArray⟩) :: .s (.int .u64 (x.ep : Nat)) :: .s (.int .u8 (x.st : Nat)) :: .l x.toks.length (toksD x.toks) :: ringD u := rfl
    have hlx : (x :: u).length = u.length + 1 := rfl
    cases v with
    | nil =>
      have go := go u [] x (by rw [joinm_right, joinm_right]) (fun x hx => hu x (List.mem_cons_of_mem _ hx)) (fun x hx => (List.not_mem_nil hx).elim) (by simp only [List.length_cons, List.length_nil] at hlen ⊢; omega) (by simp only [List.length_cons, List.length_nil]; omega)
      rw [hcx, hlx]
      clear hJ hv hu hj
      focus (have kxs : 987654321 = 987654320 + 1 := rfl; have kk1 := uN [] (hcp); (repeat' (first | (refine ADr.nil ?_; try clear hgv) | refine GW ?_ | refine AW.ret ?_ | (refine GC ?_ ?_ <;> intro h <;> (try simp only [hsB] at h) <;> try (exfalso; first | omega | contradiction)) | (refine GD ?_ ?_ <;> intro h <;> (try intro hgv) <;> (try simp only [Bool.not_true, Bool.not_false] at h) <;> (try simp only [h]) <;> (try simp only [hsB] at h) <;> try (exfalso; first | omega | contradiction)) | (refine GL ?_ ?_ <;> intro h <;> (try simp only [Bool.not_true, Bool.not_false] at h) <;> (try simp only [h]) <;> (try simp only [hsB] at h) <;> try (exfalso; first | omega | contradiction)) | fail)); all_goals clear kxs kk1)
      all_goals first | exact go _ _ rfl rfl | (exfalso; omega) | (exfalso; simp_all; done)
    | cons y v =>
      have hy := hv y List.mem_cons_self
      have hvl : (ringD v).length = v.length * 4 := flat_len (f := mbD) (sz := 4) (fun _ => rfl) v
      have hcq := ring_copied y (by omega)
      have hcy : ringD (y :: v) = D.s (.string ⟨y.name.toArray⟩) :: .s (.int .u64 (y.ep : Nat)) :: .s (.int .u8 (y.st : Nat)) :: .l y.toks.length (toksD y.toks) :: ringD v := rfl
      have hly : (y :: v).length = v.length + 1 := rfl
      cases h1 : lessB x.name y.name with
      | true =>
        have go := go u (y :: v) x (by rw [joinm_cons, if_pos h1]) (fun x hx => hu x (List.mem_cons_of_mem _ hx)) hv (by simp only [List.length_cons] at hlen ⊢; omega) (by simp only [List.length_cons]; omega)
        have h1' : Op.bytesLess x.name y.name = true := h1
        rw [hcx, hlx, hcy, hly]
        rw [hcy, hly] at go
        clear hJ hv hu hj hcq
        focus (have kxs := h1'; have kk1 := uN [] (hcp); (repeat' (first | (refine ADr.nil ?_; try clear hgv) | refine GW ?_ | refine AW.ret ?_ | (refine GC ?_ ?_ <;> intro h <;> (try simp only [hsB] at h) <;> try (exfalso; first | omega | contradiction)) | (refine GD ?_ ?_ <;> intro h <;> (try intro hgv) <;> (try simp only [Bool.not_true, Bool.not_false] at h) <;> (try simp only [h]) <;> (try simp only [hsB] at h) <;> try (exfalso; first | omega | contradiction)) | (refine GL ?_ ?_ <;> intro h <;> (try simp only [Bool.not_true, Bool.not_false] at h) <;> (try simp only [h]) <;> (try simp only [hsB] at h) <;> try (exfalso; first | omega | contradiction)) | fail)); all_goals clear kxs kk1)
        all_goals first | exact go _ _ rfl rfl | (exfalso; omega) | (exfalso; simp_all; done)
      | false =>
        have h1' : Op.bytesLess x.name y.name = false := h1
        cases h2 : lessB y.name x.name with
        | true =>
          have go := go (x :: u) v y (by rw [joinm_cons, if_neg (by rw [h1]; decide), if_pos h2]) hu (fun x hx => hv x (List.mem_cons_of_mem _ hx)) (by simp only [List.length_cons] at hlen ⊢; omega) (by simp only [List.length_cons]; omega)
          have h2' : Op.bytesLess y.name x.name = true := h2
          rw [hcx, hlx, hcy, hly]
          rw [hcx, hlx] at go
          clear hJ hv hu hj hcp
          focus (have kxs := And.intro h1' h2'; have kk1 := uN [] (hcq); (repeat' (first | (refine ADr.nil ?_; try clear hgv) | refine GW ?_ | refine AW.ret ?_ | (refine GC ?_ ?_ <;> intro h <;> (try simp only [hsB] at h) <;> try (exfalso; first | omega | contradiction)) | (refine GD ?_ ?_ <;> intro h <;> (try intro hgv) <;> (try simp only [Bool.not_true, Bool.not_false] at h) <;> (try simp only [h]) <;> (try simp only [hsB] at h) <;> try (exfalso; first | omega | contradiction)) | (refine GL ?_ ?_ <;> intro h <;> (try simp only [Bool.not_true, Bool.not_false] at h) <;> (try simp only [h]) <;> (try simp only [hsB] at h) <;> try (exfalso; first | omega | contradiction)) | fail)); all_goals clear kxs kk1)
          all_goals first | exact go _ _ rfl rfl | (exfalso; omega) | (exfalso; simp_all; done)
        | false =>
          have go := go u v (counts x y) (by rw [joinm_cons, if_neg (by rw [h1]; decide), if_neg (by rw [h2]; decide)]) (fun x hx => hu x (List.mem_cons_of_mem _ hx)) (fun x hx => hv x (List.mem_cons_of_mem _ hx)) (by simp only [List.length_cons] at hlen ⊢; omega) (by simp only [List.length_cons]; omega)
          have h2' : Op.bytesLess y.name x.name = false := h2
          have hco := ring_counts x y hx hy
          have hcz : (counts x y).toks.length ≤ 16 := by rcases counts_or x y with e | e <;> rw [e]; exact hx.2; exact hy.2
          have hcr := ring_copied (counts x y) (by omega)
          rw [hcx, hlx, hcy, hly]
          clear hcp hcq hJ hv hu hj
          generalize counts x y = z at *
          focus (have kxs := And.intro h1' h2'; have kk1 := uN [] (hco); have kk2 := uN [] (hcr); (repeat' (first | (refine ADr.nil ?_; try clear hgv) | refine GW ?_ | refine AW.ret ?_ | (refine GC ?_ ?_ <;> intro h <;> (try simp only [hsB] at h) <;> try (exfalso; first | omega | contradiction)) | (refine GD ?_ ?_ <;> intro h <;> (try intro hgv) <;> (try simp only [Bool.not_true, Bool.not_false] at h) <;> (try simp only [h]) <;> (try simp only [hsB] at h) <;> try (exfalso; first | omega | contradiction)) | (refine GL ?_ ?_ <;> intro h <;> (try simp only [Bool.not_true, Bool.not_false] at h) <;> (try simp only [h]) <;> (try simp only [hsB] at h) <;> try (exfalso; first | omega | contradiction)) | fail)); all_goals clear kxs kk1 kk2)
          all_goals first | exact go _ _ rfl rfl | (exfalso; omega) | (exfalso; simp_all; done)
end Go.AW
