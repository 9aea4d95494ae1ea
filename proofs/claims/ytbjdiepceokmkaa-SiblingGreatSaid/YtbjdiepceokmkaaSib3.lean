/-
  metadata that is written: the program's and the document's.
-/
import Derived.Test.YtbjdiepceokmkaaSib2
namespace Go.AW
open Go Go.Proofs
set_option maxHeartbeats 2000000
set_option maxRecDepth 10000
set_option linter.unusedSimpArgs false
set_option linter.unusedVariables false
attribute [local irreducible] thenQ blockQ RetQ AL AW AC AOp

theorem Pe.pairs_snoc (p : Pe) (v : Prs) (x : Pr) : p.pairs (v ++ [x]) = (p.pairs v).pair x := by simp [Pe.pairs, List.foldl_append]
theorem pens_pairs : Pens Pe.pairs (fun v => (v.map epair).flatten) (fun v => ∀ x ∈ v, x.1.length ≤ 32 ∧ x.2.length ≤ 32768) := pens_pair.fold
theorem Pe.count_ok8 {p : Pe} {n : Nat} (hn : n ≤ 8) : p.count 8 n = p.text (vput n) := by
  unfold Pe.count
  rw [if_neg (by omega), if_neg (by omega)]
  rfl
/-- What is known on the way: a pair that is next. -/
theorem Pe.pairs_way {b : List UInt8} {m : Int} {v : Prs} {p : Pe} (hpo : p.Ok) (hpm : p.m = m) (h8 : v.length ≤ 8) (h32 : ∀ x ∈ v, x.1.length ≤ 32 ∧ x.2.length ≤ 32768) (hpl : p.b.length ≤ b.length + (vput v.length).length) (hl : m ≤ 140737488355328 ∨ b.length + (eprs v).length + 40 ≤ 140737488355328)
    {j : Nat} (hj : j ≤ v.length) : (Pe.pairs p (v.take j)).Ok ∧ (Pe.pairs p (v.take j)).m = m ∧ (∀ x r, v.drop j = x :: r →
      (m ≤ 140737488355328 ∨ (Pe.pairs p (v.take j)).b.length + 10 + x.1.length ≤ 140737488355328) ∧ ((Pe.pairs p (v.take j)).blob 32 x.1).Ok ∧ ((Pe.pairs p (v.take j)).blob 32 x.1).m = m ∧ (m ≤ 140737488355328 ∨ ((Pe.pairs p (v.take j)).blob 32 x.1).b.length + 10 + x.2.length ≤ 140737488355328)) := by
  have h1 := take_flat epair v j
  have hel : (eprs v).length = (vput v.length).length + (v.map epair).flatten.length := by unfold eprs; rw [List.length_append]
  have ho := pens_pairs.keep (x := v.take j) hpo (by omega)
  have hm := pens_pairs.m p (v.take j)
  have hq := pens_pairs.len p (v.take j)
  generalize Pe.pairs p (v.take j) = q at *
  refine ⟨ho, hm.trans hpm, fun x r hd => ?_⟩
  rw [hd] at h1
  simp only [List.map_cons, List.flatten_cons, List.length_append] at h1
  have hxl := h32 x (next_mem hd)
  have hel2 : (epair x).length = (vput x.1.length).length + x.1.length + ((vput x.2.length).length + x.2.length) := by unfold epair eblob; simp only [List.length_append]
  have hbm := Pe.blob_m q 32 x.1
  have hbo := Pe.blob_ok (p := q) (max := 32) (s := x.1) ho (by omega) (by omega)
  have hbl := (pens_blob 32).len q x.1
  have hebl : (eblob x.1).length = (vput x.1.length).length + x.1.length := by unfold eblob; rw [List.length_append]
  exact ⟨by omega, hbo, by omega, by omega⟩

section
variable (b : List UInt8) (m e : Int)
theorem pairs_Put (ok : Pe.Ok ⟨b, m, e⟩) (v : Prs) (hfv : v.fits) (hl : m ≤ 140737488355328 ∨ b.length + (eprs v).length + 40 ≤ 140737488355328) :
    AC Try.prog 96 [.p 0 0, .d (.l v.length (prsD v))] (Pe.obs ⟨b, m, e⟩) fun x σ => x = .t [] ∧ σ = Pe.obs (Pe.prs ⟨b, m, e⟩ v) := by
  refine AC.walk Try.func96 rfl (by decide) (of_decide_eq_true rfl) ?_
  by_cases hc : v.check = 0
  case neg =>
    have hv : Pe.prs ⟨b, m, e⟩ v = Pe.fail ⟨b, m, e⟩ v.check := by unfold Pe.prs; rw [if_pos hc]
    rw [hv]
    focus (have kxs : 987654321 = 987654320 + 1 := rfl; have kk1 := uN [] (pairs_Check v hfv); have kua1 := fun za => uN [0, 1] (pen_Fail b m e za); (repeat' (first | refine G ?_ | refine AW.ret ?_ | (refine GC ?_ ?_ <;> intro h <;> (try simp only [hsB] at h) <;> try (exfalso; first | omega | contradiction)) | (refine GL ?_ ?_ <;> intro h <;> (try simp only [Bool.not_true, Bool.not_false] at h) <;> (try simp only [h]) <;> (try simp only [hsB] at h) <;> try (exfalso; first | omega | contradiction)) | fail)); all_goals clear kxs kk1 kua1)
    all_goals first | ((all_goals first | exact RetQ.fr 2 | exact RetQ.fn 2 | fail); done) | (exfalso; simp_all; done)
  have hvec : Pe.prs ⟨b, m, e⟩ v = (Pe.text ⟨b, m, e⟩ (vput v.length)).pairs v := by unfold Pe.prs; rw [if_neg (by simpa using hc)]
  obtain ⟨hv8, hv32⟩ := Prs.check_len hc
  have hcnt : Pe.count ⟨b, m, e⟩ 8 (v.length : Nat) = Pe.text ⟨b, m, e⟩ (vput v.length) := Pe.count_ok8 hv8
  have hvl := vput_len10 (n := v.length) (by omega)
  have hpl := Pe.text_len ⟨b, m, e⟩ (vput v.length)
  have hpm := Pe.text_m ⟨b, m, e⟩ (vput v.length)
  have hevl : (eprs v).length = (vput v.length).length + (v.map epair).flatten.length := by unfold eprs; rw [List.length_append]
  have hpo := Pe.text_ok (s := vput v.length) ok (by simp only; omega)
  simp only at hpl hpm
  generalize hp : Pe.text ⟨b, m, e⟩ (vput v.length) = p at *
  focus (have kxs := And.intro hc hcnt; have kk1 := uN [] (pairs_Check v hfv); have kk2 := uN [0, 1] (blob_PutCount b m e 8 ok (v.length : Nat) (by omega) (by omega)); (repeat' (first | refine G ?_ | refine AW.ret ?_ | (refine GC ?_ ?_ <;> intro h <;> (try simp only [hsB] at h) <;> try (exfalso; first | omega | contradiction)) | (refine GL ?_ ?_ <;> intro h <;> (try simp only [Bool.not_true, Bool.not_false] at h) <;> (try simp only [h]) <;> (try simp only [hsB] at h) <;> try (exfalso; first | omega | contradiction)) | fail)); all_goals clear kxs kk1 kk2)
  all_goals first | (exfalso; simp_all; done) | skip
  refine AW.rounds [0, 18, 19, 20] (fun j : Nat => [(0, .p 0 0), (18, .d (.l v.length (prsD v))), (19, iv .i64 v.length), (20, iv .i64 j)]) (fun j => Pe.obs (Pe.pairs p (v.take j)))
    (fun j => j ≤ v.length) (fun j => v.length - j) 0 (Nat.zero_le _) rfl rfl (fun _ _ => Nat.le_of_ble_eq_true rfl) (fun _ _ => rfl) (fun _ _ => rfl) ?_
  intro j hj J2 hJ2
  obtain ⟨hok2, hqm2, way⟩ := Pe.pairs_way hpo hpm hv8 hv32 hpl hl hj
  generalize hq2 : Pe.pairs p (v.take j) = p2 at *
  by_cases hjl : j < v.length
  case neg =>
    have hj2 : j = v.length := by omega
    rw [hj2, List.take_length] at hq2
    rw [hvec, hq2]
    focus (have kxs : 987654321 = 987654320 + 1 := rfl; (repeat' (first | refine G ?_ | refine AW.ret ?_ | (refine GC ?_ ?_ <;> intro h <;> (try simp only [hsB] at h) <;> try (exfalso; first | omega | contradiction)) | (refine GL ?_ ?_ <;> intro h <;> (try simp only [Bool.not_true, Bool.not_false] at h) <;> (try simp only [h]) <;> (try simp only [hsB] at h) <;> try (exfalso; first | omega | contradiction)) | fail)); all_goals clear kxs)
    all_goals first | ((all_goals first | exact RetQ.fr 2 | exact RetQ.fn 2 | fail); done) | (exfalso; simp_all; done)
  obtain ⟨x, r2, hd2⟩ := next_at hjl
  have hcd2 := prs_drop hd2
  have hn3 : Pe.pairs p (v.take (j + 1)) = p2.pair x := by rw [next_take hd2, Pe.pairs_snoc, hq2]
  obtain ⟨w1, hbo, hbm, w2⟩ := way x r2 hd2
  have hx := hv32 x (next_mem hd2)
  generalize hp3 : p2.blob 32 x.1 = p3 at *
  have hp3' : Pe.blob ⟨p2.b, p2.m, p2.e⟩ 32 x.1 = p3 := hp3
  have hent : p2.pair x = p3.blob 32768 x.2 := by unfold Pe.pair; rw [hp3]
  focus (have kxs := And.intro hcd2 hp3'; have kk1 := uN [0, 1] (blob_Put1 p2.b x.1 p2.m p2.e 32 hok2 (by omega) (by omega)); have kk2 := uN [0, 1] (blob_Put1 p3.b x.2 p3.m p3.e 32768 hbo (by omega) (by omega)); (repeat' (first | refine G ?_ | refine AW.ret ?_ | (refine GC ?_ ?_ <;> intro h <;> (try simp only [hsB] at h) <;> try (exfalso; first | omega | contradiction)) | (refine GL ?_ ?_ <;> intro h <;> (try simp only [Bool.not_true, Bool.not_false] at h) <;> (try simp only [h]) <;> (try simp only [hsB] at h) <;> try (exfalso; first | omega | contradiction)) | fail)); all_goals clear kxs kk1 kk2)
  all_goals first
    | (refine hJ2 (j + 1) _ _ (by omega) hjl rfl ?_; rw [hn3, hent]; rfl)
    | (exfalso; simp_all; done)

theorem ref14_Put (ok : Pe.Ok ⟨b, m, e⟩) (v : Prs) (hfv : v.fits) (hl : m ≤ 140737488355328 ∨ b.length + (eprs v).length + 40 ≤ 140737488355328) :
    AC Try.prog 106 [.p 0 0, .d (.l v.length (prsD v))] [Pe.ro ⟨b, m, e⟩] fun x σ => x = .t [] ∧ σ = [Pe.ro (Pe.prs ⟨b, m, e⟩ v)] := by
  refine AC.walk Try.func106 rfl (by decide) (of_decide_eq_true rfl) ?_
  by_cases hc : v.check = 0
  case neg =>
    have hv : Pe.prs ⟨b, m, e⟩ v = Pe.fail ⟨b, m, e⟩ v.check := by unfold Pe.prs; rw [if_pos hc]
    rw [hv]
    focus (have kxs : 987654321 = 987654320 + 1 := rfl; have kk1 := uN [] (ref14_Check v hfv); have kua1 := fun za => uN [0] (ref02_Fail b m e za); (repeat' (first | refine G ?_ | refine AW.ret ?_ | (refine GC ?_ ?_ <;> intro h <;> (try simp only [hsB] at h) <;> try (exfalso; first | omega | contradiction)) | (refine GL ?_ ?_ <;> intro h <;> (try simp only [Bool.not_true, Bool.not_false] at h) <;> (try simp only [h]) <;> (try simp only [hsB] at h) <;> try (exfalso; first | omega | contradiction)) | fail)); all_goals clear kxs kk1 kua1)
    all_goals first | ((all_goals first | exact RetQ.fr 1 | exact RetQ.fn 1 | fail); done) | (exfalso; simp_all; done)
  have hvec : Pe.prs ⟨b, m, e⟩ v = (Pe.text ⟨b, m, e⟩ (vput v.length)).pairs v := by unfold Pe.prs; rw [if_neg (by simpa using hc)]
  obtain ⟨hv8, hv32⟩ := Prs.check_len hc
  have hcnt : Pe.count ⟨b, m, e⟩ 8 (v.length : Nat) = Pe.text ⟨b, m, e⟩ (vput v.length) := Pe.count_ok8 hv8
  have hvl := vput_len10 (n := v.length) (by omega)
  have hpl := Pe.text_len ⟨b, m, e⟩ (vput v.length)
  have hpm := Pe.text_m ⟨b, m, e⟩ (vput v.length)
  have hevl : (eprs v).length = (vput v.length).length + (v.map epair).flatten.length := by unfold eprs; rw [List.length_append]
  have hpo := Pe.text_ok (s := vput v.length) ok (by simp only; omega)
  simp only at hpl hpm
  generalize hp : Pe.text ⟨b, m, e⟩ (vput v.length) = p at *
  focus (have kxs := And.intro hc hcnt; have kk1 := uN [] (ref14_Check v hfv); have kk2 := uN [0] (ref06_PutCount b m e 8 ok (v.length : Nat) (by omega) (by omega)); (repeat' (first | refine G ?_ | refine AW.ret ?_ | (refine GC ?_ ?_ <;> intro h <;> (try simp only [hsB] at h) <;> try (exfalso; first | omega | contradiction)) | (refine GL ?_ ?_ <;> intro h <;> (try simp only [Bool.not_true, Bool.not_false] at h) <;> (try simp only [h]) <;> (try simp only [hsB] at h) <;> try (exfalso; first | omega | contradiction)) | fail)); all_goals clear kxs kk1 kk2)
  all_goals first | (exfalso; simp_all; done) | skip
  refine AW.rounds [0, 1, 5] (fun j : Nat => [(0, .p 0 0), (1, .d (.l v.length (prsD v))), (5, iv .i64 j)]) (fun j => [Pe.ro (Pe.pairs p (v.take j))])
    (fun j => j ≤ v.length) (fun j => v.length - j) 0 (Nat.zero_le _) rfl rfl (fun _ _ => Nat.le_of_ble_eq_true rfl) (fun _ _ => rfl) (fun _ _ => rfl) ?_
  intro j hj J2 hJ2
  obtain ⟨hok2, hqm2, way⟩ := Pe.pairs_way hpo hpm hv8 hv32 hpl hl hj
  generalize hq2 : Pe.pairs p (v.take j) = p2 at *
  by_cases hjl : j < v.length
  case neg =>
    have hj2 : j = v.length := by omega
    rw [hj2, List.take_length] at hq2
    rw [hvec, hq2]
    focus (have kxs : 987654321 = 987654320 + 1 := rfl; (repeat' (first | refine G ?_ | refine AW.ret ?_ | (refine GC ?_ ?_ <;> intro h <;> (try simp only [hsB] at h) <;> try (exfalso; first | omega | contradiction)) | (refine GL ?_ ?_ <;> intro h <;> (try simp only [Bool.not_true, Bool.not_false] at h) <;> (try simp only [h]) <;> (try simp only [hsB] at h) <;> try (exfalso; first | omega | contradiction)) | fail)); all_goals clear kxs)
    all_goals first | ((all_goals first | exact RetQ.fr 1 | exact RetQ.fn 1 | fail); done) | (exfalso; simp_all; done)
  obtain ⟨x, r2, hd2⟩ := next_at hjl
  have hcd2 := prs_drop hd2
  have hn3 : Pe.pairs p (v.take (j + 1)) = p2.pair x := by rw [next_take hd2, Pe.pairs_snoc, hq2]
  obtain ⟨w1, hbo, hbm, w2⟩ := way x r2 hd2
  have hx := hv32 x (next_mem hd2)
  generalize hp3 : p2.blob 32 x.1 = p3 at *
  have hp3' : Pe.blob ⟨p2.b, p2.m, p2.e⟩ 32 x.1 = p3 := hp3
  have hent : p2.pair x = p3.blob 32768 x.2 := by unfold Pe.pair; rw [hp3]
  focus (have kxs := And.intro hcd2 hp3'; have kk1 := uN [0] (ref06_Put p2.b x.1 p2.m p2.e 32 hok2 (by omega) (by omega)); have kk2 := uN [0] (ref06_Put p3.b x.2 p3.m p3.e 32768 hbo (by omega) (by omega)); (repeat' (first | refine G ?_ | refine AW.ret ?_ | (refine GC ?_ ?_ <;> intro h <;> (try simp only [hsB] at h) <;> try (exfalso; first | omega | contradiction)) | (refine GL ?_ ?_ <;> intro h <;> (try simp only [Bool.not_true, Bool.not_false] at h) <;> (try simp only [h]) <;> (try simp only [hsB] at h) <;> try (exfalso; first | omega | contradiction)) | fail)); all_goals clear kxs kk1 kk2)
  all_goals first
    | (refine hJ2 (j + 1) _ _ (by omega) hjl rfl ?_; rw [hn3, hent]; rfl)
    | (exfalso; simp_all; done)
end
end Go.AW
