/-
  parts: how a list of them is read.
-/
import Derived.Test.YtdjeilbhdleopaaGreatP15
set_option linter.unusedVariables false
set_option linter.unusedSimpArgs false
set_option maxHeartbeats 4000000
set_option maxRecDepth 10000
namespace Go.AW
open Go Go.Proofs
attribute [local irreducible] thenQ blockQ RetQ AL AW AC AOp
theorem spansr_cons (x : Prd) (l : List Prd) (c : Cu) : spansr (x :: l) c = if (x.2 c).e ≠ 0 then ([], x.2 c) else ((x.1, (c.a, (x.2 c).a)) :: (spansr l (x.2 c)).1, (spansr l (x.2 c)).2) := rfl
theorem spansr_ok : ∀ (l : List Prd) (c : Cu), (∀ x ∈ l, ∀ c : Cu, c.Ok → (x.2 c).Ok) → c.Ok → (spansr l c).2.Ok
  | [], c, _, h => h
  | x :: l, c, hl, h => by
    have h1 := hl x (List.mem_cons_self ..) c h
    rw [spansr_cons]
    split
    · exact h1
    · exact spansr_ok l _ (fun y hy => hl y (List.mem_cons_of_mem _ hy)) h1
theorem read_1 (c0 : Cu) (hok0 : c0.Ok) : AC Tryz.prog 101 [.p 0 0, .g 1 2] [Cu.ob c0, .box 186 [sv (bs nId), .f (.func 99) [] [], sv (bs nKey), .f (.func 289) [] []]] fun y σ => y = .d (.l (spansr [(nId, fun c => (Cu.vtake c).2), (nKey, fun c => (Cu.okey c).2)] c0).1.length (spnsD (spansr [(nId, fun c => (Cu.vtake c).2), (nKey, fun c => (Cu.okey c).2)] c0).1)) ∧ σ = [Cu.ob (spansr [(nId, fun c => (Cu.vtake c).2), (nKey, fun c => (Cu.okey c).2)] c0).2, .box 186 [sv (bs nId), .f (.func 99) [] [], sv (bs nKey), .f (.func 289) [] []]] := by
  refine AC.wk Tryz.func101 ?_
  obtain ⟨R, hR⟩ : ∃ R, spansr [(nId, fun c => (Cu.vtake c).2), (nKey, fun c => (Cu.okey c).2)] c0 = R := ⟨_, rfl⟩
  rw [hR]
  focus ((repeat' (first | (refine ADr.nil ?_; try clear hgv) | refine GO ?_ | refine AW.ret ?_ | (refine GC ?_ ?_ <;> intro h <;> (try simp only [hsB] at h) <;> try exact xf) | (refine GD ?_ ?_ <;> intro h <;> (try intro hgv) <;> (try simp only [hsN] at h) <;> (try simp only [h]) <;> (try simp only [hsB] at h) <;> try exact xf) | (refine GL ?_ ?_ <;> intro h <;> (try simp only [hsN] at h) <;> (try simp only [h]) <;> (try simp only [hsB] at h) <;> try exact xf) | fail)))
  refine AW.birth 103 3 [5] [] ?_
  refine AW.rounds [0, 4, 5, 9, 10, 11] (fun x : Nat × List Spn × Cu => [(0, .p 0 0), (4, .d (.s (.slice none 0 0))), (5, .o 2 x.2.1.length), (9, .g 1 2), (10, iv .i64 2), (11, iv .i64 (x.1 : Nat))]) (fun x => [Cu.ob x.2.2, .box 186 [sv (bs nId), .f (.func 99) [] [], sv (bs nKey), .f (.func 289) [] []], .row 103 3 x.2.1.length (spnsD x.2.1)])
    (fun x => x.1 ≤ 2 ∧ x.2.1.length = x.1 ∧ x.2.2.Ok ∧ (x.2.1 ++ (spansr (([(nId, fun c => (Cu.vtake c).2), (nKey, fun c => (Cu.okey c).2)] : List Prd).drop x.1) x.2.2).1, (spansr (([(nId, fun c => (Cu.vtake c).2), (nKey, fun c => (Cu.okey c).2)] : List Prd).drop x.1) x.2.2).2) = R) (fun x => 2 - x.1) (0, [], c0)
    ⟨Nat.zero_le _, rfl, hok0, hR⟩ rfl rfl (fun _ _ => Nat.le_of_ble_eq_true rfl) (fun _ _ => rfl) (fun _ _ => rfl) ?_
  rintro ⟨i, out, c⟩ ⟨hi, hol, hok, hr⟩ J hJ
  simp only at hi hol hok hr ⊢
  have hat := cursor_At c.s c.a c.e
  have hc : i = 0 ∨ i = 1 ∨ i = 2 := by omega
  rcases hc with rfl | rfl | rfl
  · have hcl := pt_id c hok
    have hok2 : (Cu.vtake c).2.Ok := Cu.vtake_ok hok
    rw [show ([(nId, fun c => (Cu.vtake c).2), (nKey, fun c => (Cu.okey c).2)] : List Prd).drop 0 = (nId, fun c => (Cu.vtake c).2) :: [(nKey, fun c => (Cu.okey c).2)] from rfl, spansr_cons] at hr
    simp only at hr
    generalize (Cu.vtake c).2 = c1 at *
    have herr := cursor_Err c1.s c1.a c1.e
    have hat2 := cursor_At c1.s c1.a c1.e
    by_cases he : c1.e = 0
    · rw [if_neg (by simpa using he)] at hr
      have go : ∀ T' σ', keepT T' [0, 4, 5, 9, 10, 11] = [(0, .p 0 0), (4, .d (.s (.slice none 0 0))), (5, .o 2 (out.length + 1)), (9, .g 1 2), (10, iv .i64 2), (11, iv .i64 1)] → σ'.take 3 = [Cu.ob c1, .box 186 [sv (bs nId), .f (.func 99) [] [], sv (bs nKey), .f (.func 289) [] []], .row 103 3 (out.length + 1) (spnsD out ++ [D.s (.string ⟨(nId).toArray⟩), .s (.int .i64 (c.a : Nat)), .s (.int .i64 (c1.a : Nat))])] → J T' σ' := fun T' σ' g1 g2 => by
        have hl : (out ++ [((nId : List UInt8), (c.a, c1.a))]).length = out.length + 1 := by simp
        refine hJ (1, out ++ [(nId, (c.a, c1.a))], c1) T' σ' (by simp) ⟨by simp, by simp only [hl, hol], hok2, by rw [← hr]; simp [List.append_assoc]⟩ (by simp only [hl]; exact g1) (by simp only [hl]; rw [spns_snoc]; exact g2)
      clear hJ hr
      (have kk1 := uN [0] hat; have kk2 := uN [0] hcl; have kk3 := uN [0] herr; have kk4 := uN [0] hat2; exact Weg)
    · rw [if_pos he] at hr
      simp only [List.append_nil] at hr
      subst hr
      clear hJ
      (have kk1 := uN [0] hat; have kk2 := uN [0] hcl; have kk3 := uN [0] herr; exact Wd2)
  · have hcl := pt_key c hok
    have hok2 : (Cu.okey c).2.Ok := gd_ok (Cu.blob_ok hok)
    rw [show ([(nId, fun c => (Cu.vtake c).2), (nKey, fun c => (Cu.okey c).2)] : List Prd).drop 1 = (nKey, fun c => (Cu.okey c).2) :: [] from rfl, spansr_cons] at hr
    simp only at hr
    generalize (Cu.okey c).2 = c1 at *
    have herr := cursor_Err c1.s c1.a c1.e
    have hat2 := cursor_At c1.s c1.a c1.e
    by_cases he : c1.e = 0
    · rw [if_neg (by simpa using he)] at hr
      have go : ∀ T' σ', keepT T' [0, 4, 5, 9, 10, 11] = [(0, .p 0 0), (4, .d (.s (.slice none 0 0))), (5, .o 2 (out.length + 1)), (9, .g 1 2), (10, iv .i64 2), (11, iv .i64 2)] → σ'.take 3 = [Cu.ob c1, .box 186 [sv (bs nId), .f (.func 99) [] [], sv (bs nKey), .f (.func 289) [] []], .row 103 3 (out.length + 1) (spnsD out ++ [D.s (.string ⟨(nKey).toArray⟩), .s (.int .i64 (c.a : Nat)), .s (.int .i64 (c1.a : Nat))])] → J T' σ' := fun T' σ' g1 g2 => by
        have hl : (out ++ [((nKey : List UInt8), (c.a, c1.a))]).length = out.length + 1 := by simp
        refine hJ (2, out ++ [(nKey, (c.a, c1.a))], c1) T' σ' (by simp) ⟨by simp, by simp only [hl, hol], hok2, by rw [← hr]; simp [List.append_assoc]⟩ (by simp only [hl]; exact g1) (by simp only [hl]; rw [spns_snoc]; exact g2)
      clear hJ hr
      (have kk1 := uN [0] hat; have kk2 := uN [0] hcl; have kk3 := uN [0] herr; have kk4 := uN [0] hat2; exact Weg)
    · rw [if_pos he] at hr
      simp only [List.append_nil] at hr
      subst hr
      clear hJ
      (have kk1 := uN [0] hat; have kk2 := uN [0] hcl; have kk3 := uN [0] herr; exact Wd2)
  · rw [show ([(nId, fun c => (Cu.vtake c).2), (nKey, fun c => (Cu.okey c).2)] : List Prd).drop 2 = [] from rfl] at hr
    simp only [spansr, List.append_nil] at hr
    subst hr
    clear hJ
    exact Wd2
theorem read_2n (c0 : Cu) (hok0 : c0.Ok) : AC Tryz.prog 101 [.p 0 0, .g 1 2] [Cu.ob c0, .box 186 [sv (bs nId), .f (.func 99) [] [], sv (bs nFound), .f (.func 290) [] []]] fun y σ => y = .d (.l (spansr [(nId, fun c => (Cu.vtake c).2), (nFound, fun c => (Cu.flag c).2)] c0).1.length (spnsD (spansr [(nId, fun c => (Cu.vtake c).2), (nFound, fun c => (Cu.flag c).2)] c0).1)) ∧ σ = [Cu.ob (spansr [(nId, fun c => (Cu.vtake c).2), (nFound, fun c => (Cu.flag c).2)] c0).2, .box 186 [sv (bs nId), .f (.func 99) [] [], sv (bs nFound), .f (.func 290) [] []]] := by
  refine AC.wk Tryz.func101 ?_
  obtain ⟨R, hR⟩ : ∃ R, spansr [(nId, fun c => (Cu.vtake c).2), (nFound, fun c => (Cu.flag c).2)] c0 = R := ⟨_, rfl⟩
  rw [hR]
  focus ((repeat' (first | (refine ADr.nil ?_; try clear hgv) | refine GO ?_ | refine AW.ret ?_ | (refine GC ?_ ?_ <;> intro h <;> (try simp only [hsB] at h) <;> try exact xf) | (refine GD ?_ ?_ <;> intro h <;> (try intro hgv) <;> (try simp only [hsN] at h) <;> (try simp only [h]) <;> (try simp only [hsB] at h) <;> try exact xf) | (refine GL ?_ ?_ <;> intro h <;> (try simp only [hsN] at h) <;> (try simp only [h]) <;> (try simp only [hsB] at h) <;> try exact xf) | fail)))
  refine AW.birth 103 3 [5] [] ?_
  refine AW.rounds [0, 4, 5, 9, 10, 11] (fun x : Nat × List Spn × Cu => [(0, .p 0 0), (4, .d (.s (.slice none 0 0))), (5, .o 2 x.2.1.length), (9, .g 1 2), (10, iv .i64 2), (11, iv .i64 (x.1 : Nat))]) (fun x => [Cu.ob x.2.2, .box 186 [sv (bs nId), .f (.func 99) [] [], sv (bs nFound), .f (.func 290) [] []], .row 103 3 x.2.1.length (spnsD x.2.1)])
    (fun x => x.1 ≤ 2 ∧ x.2.1.length = x.1 ∧ x.2.2.Ok ∧ (x.2.1 ++ (spansr (([(nId, fun c => (Cu.vtake c).2), (nFound, fun c => (Cu.flag c).2)] : List Prd).drop x.1) x.2.2).1, (spansr (([(nId, fun c => (Cu.vtake c).2), (nFound, fun c => (Cu.flag c).2)] : List Prd).drop x.1) x.2.2).2) = R) (fun x => 2 - x.1) (0, [], c0)
    ⟨Nat.zero_le _, rfl, hok0, hR⟩ rfl rfl (fun _ _ => Nat.le_of_ble_eq_true rfl) (fun _ _ => rfl) (fun _ _ => rfl) ?_
  rintro ⟨i, out, c⟩ ⟨hi, hol, hok, hr⟩ J hJ
  simp only at hi hol hok hr ⊢
  have hat := cursor_At c.s c.a c.e
  have hc : i = 0 ∨ i = 1 ∨ i = 2 := by omega
  rcases hc with rfl | rfl | rfl
  · have hcl := pt_id c hok
    have hok2 : (Cu.vtake c).2.Ok := Cu.vtake_ok hok
    rw [show ([(nId, fun c => (Cu.vtake c).2), (nFound, fun c => (Cu.flag c).2)] : List Prd).drop 0 = (nId, fun c => (Cu.vtake c).2) :: [(nFound, fun c => (Cu.flag c).2)] from rfl, spansr_cons] at hr
    simp only at hr
    generalize (Cu.vtake c).2 = c1 at *
    have herr := cursor_Err c1.s c1.a c1.e
    have hat2 := cursor_At c1.s c1.a c1.e
    by_cases he : c1.e = 0
    · rw [if_neg (by simpa using he)] at hr
      have go : ∀ T' σ', keepT T' [0, 4, 5, 9, 10, 11] = [(0, .p 0 0), (4, .d (.s (.slice none 0 0))), (5, .o 2 (out.length + 1)), (9, .g 1 2), (10, iv .i64 2), (11, iv .i64 1)] → σ'.take 3 = [Cu.ob c1, .box 186 [sv (bs nId), .f (.func 99) [] [], sv (bs nFound), .f (.func 290) [] []], .row 103 3 (out.length + 1) (spnsD out ++ [D.s (.string ⟨(nId).toArray⟩), .s (.int .i64 (c.a : Nat)), .s (.int .i64 (c1.a : Nat))])] → J T' σ' := fun T' σ' g1 g2 => by
        have hl : (out ++ [((nId : List UInt8), (c.a, c1.a))]).length = out.length + 1 := by simp
        refine hJ (1, out ++ [(nId, (c.a, c1.a))], c1) T' σ' (by simp) ⟨by simp, by simp only [hl, hol], hok2, by rw [← hr]; simp [List.append_assoc]⟩ (by simp only [hl]; exact g1) (by simp only [hl]; rw [spns_snoc]; exact g2)
      clear hJ hr
      (have kk1 := uN [0] hat; have kk2 := uN [0] hcl; have kk3 := uN [0] herr; have kk4 := uN [0] hat2; exact Weg)
    · rw [if_pos he] at hr
      simp only [List.append_nil] at hr
      subst hr
      clear hJ
      (have kk1 := uN [0] hat; have kk2 := uN [0] hcl; have kk3 := uN [0] herr; exact Wd2)
  · have hcl := pt_flag c hok
    have hok2 : (Cu.flag c).2.Ok := Cu.flag_ok hok
    rw [show ([(nId, fun c => (Cu.vtake c).2), (nFound, fun c => (Cu.flag c).2)] : List Prd).drop 1 = (nFound, fun c => (Cu.flag c).2) :: [] from rfl, spansr_cons] at hr
    simp only at hr
    generalize (Cu.flag c).2 = c1 at *
    have herr := cursor_Err c1.s c1.a c1.e
    have hat2 := cursor_At c1.s c1.a c1.e
    by_cases he : c1.e = 0
    · rw [if_neg (by simpa using he)] at hr
      have go : ∀ T' σ', keepT T' [0, 4, 5, 9, 10, 11] = [(0, .p 0 0), (4, .d (.s (.slice none 0 0))), (5, .o 2 (out.length + 1)), (9, .g 1 2), (10, iv .i64 2), (11, iv .i64 2)] → σ'.take 3 = [Cu.ob c1, .box 186 [sv (bs nId), .f (.func 99) [] [], sv (bs nFound), .f (.func 290) [] []], .row 103 3 (out.length + 1) (spnsD out ++ [D.s (.string ⟨(nFound).toArray⟩), .s (.int .i64 (c.a : Nat)), .s (.int .i64 (c1.a : Nat))])] → J T' σ' := fun T' σ' g1 g2 => by
        have hl : (out ++ [((nFound : List UInt8), (c.a, c1.a))]).length = out.length + 1 := by simp
        refine hJ (2, out ++ [(nFound, (c.a, c1.a))], c1) T' σ' (by simp) ⟨by simp, by simp only [hl, hol], hok2, by rw [← hr]; simp [List.append_assoc]⟩ (by simp only [hl]; exact g1) (by simp only [hl]; rw [spns_snoc]; exact g2)
      clear hJ hr
      (have kk1 := uN [0] hat; have kk2 := uN [0] hcl; have kk3 := uN [0] herr; have kk4 := uN [0] hat2; exact Weg)
    · rw [if_pos he] at hr
      simp only [List.append_nil] at hr
      subst hr
      clear hJ
      (have kk1 := uN [0] hat; have kk2 := uN [0] hcl; have kk3 := uN [0] herr; exact Wd2)
  · rw [show ([(nId, fun c => (Cu.vtake c).2), (nFound, fun c => (Cu.flag c).2)] : List Prd).drop 2 = [] from rfl] at hr
    simp only [spansr, List.append_nil] at hr
    subst hr
    clear hJ
    exact Wd2
theorem read_2f (c0 : Cu) (hok0 : c0.Ok) (nm : List UInt8) : AC Tryz.prog 101 [.p 0 0, .g 2 3] [Cu.ob c0, .box 3 [iv .i64 65536], .box 186 [sv (bs nId), .f (.func 99) [] [], sv (bs nFound), .f (.func 290) [] [], sv (bs nm), .f (.func 288) [] [.p 1 0]]] fun y σ => y = .d (.l (spansr [(nId, fun c => (Cu.vtake c).2), (nFound, fun c => (Cu.flag c).2), (nm, fun c => (Cu.blob c 65536).2)] c0).1.length (spnsD (spansr [(nId, fun c => (Cu.vtake c).2), (nFound, fun c => (Cu.flag c).2), (nm, fun c => (Cu.blob c 65536).2)] c0).1)) ∧ σ = [Cu.ob (spansr [(nId, fun c => (Cu.vtake c).2), (nFound, fun c => (Cu.flag c).2), (nm, fun c => (Cu.blob c 65536).2)] c0).2, .box 3 [iv .i64 65536], .box 186 [sv (bs nId), .f (.func 99) [] [], sv (bs nFound), .f (.func 290) [] [], sv (bs nm), .f (.func 288) [] [.p 1 0]]] := by
  refine AC.wk Tryz.func101 ?_
  obtain ⟨R, hR⟩ : ∃ R, spansr [(nId, fun c => (Cu.vtake c).2), (nFound, fun c => (Cu.flag c).2), (nm, fun c => (Cu.blob c 65536).2)] c0 = R := ⟨_, rfl⟩
  rw [hR]
  focus ((repeat' (first | (refine ADr.nil ?_; try clear hgv) | refine GO ?_ | refine AW.ret ?_ | (refine GC ?_ ?_ <;> intro h <;> (try simp only [hsB] at h) <;> try exact xf) | (refine GD ?_ ?_ <;> intro h <;> (try intro hgv) <;> (try simp only [hsN] at h) <;> (try simp only [h]) <;> (try simp only [hsB] at h) <;> try exact xf) | (refine GL ?_ ?_ <;> intro h <;> (try simp only [hsN] at h) <;> (try simp only [h]) <;> (try simp only [hsB] at h) <;> try exact xf) | fail)))
  refine AW.birth 103 3 [5] [] ?_
  refine AW.rounds [0, 4, 5, 9, 10, 11] (fun x : Nat × List Spn × Cu => [(0, .p 0 0), (4, .d (.s (.slice none 0 0))), (5, .o 3 x.2.1.length), (9, .g 2 3), (10, iv .i64 3), (11, iv .i64 (x.1 : Nat))]) (fun x => [Cu.ob x.2.2, .box 3 [iv .i64 65536], .box 186 [sv (bs nId), .f (.func 99) [] [], sv (bs nFound), .f (.func 290) [] [], sv (bs nm), .f (.func 288) [] [.p 1 0]], .row 103 3 x.2.1.length (spnsD x.2.1)])
    (fun x => x.1 ≤ 3 ∧ x.2.1.length = x.1 ∧ x.2.2.Ok ∧ (x.2.1 ++ (spansr (([(nId, fun c => (Cu.vtake c).2), (nFound, fun c => (Cu.flag c).2), (nm, fun c => (Cu.blob c 65536).2)] : List Prd).drop x.1) x.2.2).1, (spansr (([(nId, fun c => (Cu.vtake c).2), (nFound, fun c => (Cu.flag c).2), (nm, fun c => (Cu.blob c 65536).2)] : List Prd).drop x.1) x.2.2).2) = R) (fun x => 3 - x.1) (0, [], c0)
    ⟨Nat.zero_le _, rfl, hok0, hR⟩ rfl rfl (fun _ _ => Nat.le_of_ble_eq_true rfl) (fun _ _ => rfl) (fun _ _ => rfl) ?_
  rintro ⟨i, out, c⟩ ⟨hi, hol, hok, hr⟩ J hJ
  simp only at hi hol hok hr ⊢
  have hat := cursor_At c.s c.a c.e
  have hc : i = 0 ∨ i = 1 ∨ i = 2 ∨ i = 3 := by omega
  rcases hc with rfl | rfl | rfl | rfl
  · have hcl := pt_id c hok
    have hok2 : (Cu.vtake c).2.Ok := Cu.vtake_ok hok
    rw [show ([(nId, fun c => (Cu.vtake c).2), (nFound, fun c => (Cu.flag c).2), (nm, fun c => (Cu.blob c 65536).2)] : List Prd).drop 0 = (nId, fun c => (Cu.vtake c).2) :: [(nFound, fun c => (Cu.flag c).2), (nm, fun c => (Cu.blob c 65536).2)] from rfl, spansr_cons] at hr
    simp only at hr
    generalize (Cu.vtake c).2 = c1 at *
    have herr := cursor_Err c1.s c1.a c1.e
    have hat2 := cursor_At c1.s c1.a c1.e
    by_cases he : c1.e = 0
    · rw [if_neg (by simpa using he)] at hr
      have go : ∀ T' σ', keepT T' [0, 4, 5, 9, 10, 11] = [(0, .p 0 0), (4, .d (.s (.slice none 0 0))), (5, .o 3 (out.length + 1)), (9, .g 2 3), (10, iv .i64 3), (11, iv .i64 1)] → σ'.take 4 = [Cu.ob c1, .box 3 [iv .i64 65536], .box 186 [sv (bs nId), .f (.func 99) [] [], sv (bs nFound), .f (.func 290) [] [], sv (bs nm), .f (.func 288) [] [.p 1 0]], .row 103 3 (out.length + 1) (spnsD out ++ [D.s (.string ⟨(nId).toArray⟩), .s (.int .i64 (c.a : Nat)), .s (.int .i64 (c1.a : Nat))])] → J T' σ' := fun T' σ' g1 g2 => by
        have hl : (out ++ [((nId : List UInt8), (c.a, c1.a))]).length = out.length + 1 := by simp
        refine hJ (1, out ++ [(nId, (c.a, c1.a))], c1) T' σ' (by simp) ⟨by simp, by simp only [hl, hol], hok2, by rw [← hr]; simp [List.append_assoc]⟩ (by simp only [hl]; exact g1) (by simp only [hl]; rw [spns_snoc]; exact g2)
      clear hJ hr
      (have kk1 := uN [0] hat; have kk2 := uN [0] hcl; have kk3 := uN [0] herr; have kk4 := uN [0] hat2; exact Weg)
    · rw [if_pos he] at hr
      simp only [List.append_nil] at hr
      subst hr
      clear hJ
      (have kk1 := uN [0] hat; have kk2 := uN [0] hcl; have kk3 := uN [0] herr; exact Wd3)
  · have hcl := pt_flag c hok
    have hok2 : (Cu.flag c).2.Ok := Cu.flag_ok hok
    rw [show ([(nId, fun c => (Cu.vtake c).2), (nFound, fun c => (Cu.flag c).2), (nm, fun c => (Cu.blob c 65536).2)] : List Prd).drop 1 = (nFound, fun c => (Cu.flag c).2) :: [(nm, fun c => (Cu.blob c 65536).2)] from rfl, spansr_cons] at hr
    simp only at hr
    generalize (Cu.flag c).2 = c1 at *
    have herr := cursor_Err c1.s c1.a c1.e
    have hat2 := cursor_At c1.s c1.a c1.e
    by_cases he : c1.e = 0
    · rw [if_neg (by simpa using he)] at hr
      have go : ∀ T' σ', keepT T' [0, 4, 5, 9, 10, 11] = [(0, .p 0 0), (4, .d (.s (.slice none 0 0))), (5, .o 3 (out.length + 1)), (9, .g 2 3), (10, iv .i64 3), (11, iv .i64 2)] → σ'.take 4 = [Cu.ob c1, .box 3 [iv .i64 65536], .box 186 [sv (bs nId), .f (.func 99) [] [], sv (bs nFound), .f (.func 290) [] [], sv (bs nm), .f (.func 288) [] [.p 1 0]], .row 103 3 (out.length + 1) (spnsD out ++ [D.s (.string ⟨(nFound).toArray⟩), .s (.int .i64 (c.a : Nat)), .s (.int .i64 (c1.a : Nat))])] → J T' σ' := fun T' σ' g1 g2 => by
        have hl : (out ++ [((nFound : List UInt8), (c.a, c1.a))]).length = out.length + 1 := by simp
        refine hJ (2, out ++ [(nFound, (c.a, c1.a))], c1) T' σ' (by simp) ⟨by simp, by simp only [hl, hol], hok2, by rw [← hr]; simp [List.append_assoc]⟩ (by simp only [hl]; exact g1) (by simp only [hl]; rw [spns_snoc]; exact g2)
      clear hJ hr
      (have kk1 := uN [0] hat; have kk2 := uN [0] hcl; have kk3 := uN [0] herr; have kk4 := uN [0] hat2; exact Weg)
    · rw [if_pos he] at hr
      simp only [List.append_nil] at hr
      subst hr
      clear hJ
      (have kk1 := uN [0] hat; have kk2 := uN [0] hcl; have kk3 := uN [0] herr; exact Wd3)
  · have hcl := pt_text c hok 65536 (by decide)
    have hok2 : (Cu.blob c 65536).2.Ok := Cu.blob_ok hok
    rw [show ([(nId, fun c => (Cu.vtake c).2), (nFound, fun c => (Cu.flag c).2), (nm, fun c => (Cu.blob c 65536).2)] : List Prd).drop 2 = (nm, fun c => (Cu.blob c 65536).2) :: [] from rfl, spansr_cons] at hr
    simp only at hr
    generalize (Cu.blob c 65536).2 = c1 at *
    have herr := cursor_Err c1.s c1.a c1.e
    have hat2 := cursor_At c1.s c1.a c1.e
    by_cases he : c1.e = 0
    · rw [if_neg (by simpa using he)] at hr
      have go : ∀ T' σ', keepT T' [0, 4, 5, 9, 10, 11] = [(0, .p 0 0), (4, .d (.s (.slice none 0 0))), (5, .o 3 (out.length + 1)), (9, .g 2 3), (10, iv .i64 3), (11, iv .i64 3)] → σ'.take 4 = [Cu.ob c1, .box 3 [iv .i64 65536], .box 186 [sv (bs nId), .f (.func 99) [] [], sv (bs nFound), .f (.func 290) [] [], sv (bs nm), .f (.func 288) [] [.p 1 0]], .row 103 3 (out.length + 1) (spnsD out ++ [D.s (.string ⟨(nm).toArray⟩), .s (.int .i64 (c.a : Nat)), .s (.int .i64 (c1.a : Nat))])] → J T' σ' := fun T' σ' g1 g2 => by
        have hl : (out ++ [((nm : List UInt8), (c.a, c1.a))]).length = out.length + 1 := by simp
        refine hJ (3, out ++ [(nm, (c.a, c1.a))], c1) T' σ' (by simp) ⟨by simp, by simp only [hl, hol], hok2, by rw [← hr]; simp [List.append_assoc]⟩ (by simp only [hl]; exact g1) (by simp only [hl]; rw [spns_snoc]; exact g2)
      clear hJ hr
      (have kk1 := uN [0] hat; have kk2 := uN [0, 1] hcl; have kk3 := uN [0] herr; have kk4 := uN [0] hat2; exact Weg)
    · rw [if_pos he] at hr
      simp only [List.append_nil] at hr
      subst hr
      clear hJ
      (have kk1 := uN [0] hat; have kk2 := uN [0, 1] hcl; have kk3 := uN [0] herr; exact Wd3)
  · rw [show ([(nId, fun c => (Cu.vtake c).2), (nFound, fun c => (Cu.flag c).2), (nm, fun c => (Cu.blob c 65536).2)] : List Prd).drop 3 = [] from rfl] at hr
    simp only [spansr, List.append_nil] at hr
    subst hr
    clear hJ
    exact Wd3
theorem read_3 (c0 : Cu) (hok0 : c0.Ok) : AC Tryz.prog 101 [.p 0 0, .g 2 6] [Cu.ob c0, .box 3 [iv .i64 32768], .box 186 [sv (bs nId), .f (.func 99) [] [], sv (bs nKey), .f (.func 289) [] [], sv (bs nCtx), .f (.func 199) [] [], sv (bs nMeta), .f (.func 204) [] [], sv (bs nDead), .f (.func 290) [] [], sv (bs nValue), .f (.func 288) [] [.p 1 0]]] fun y σ => y = .d (.l (spansr [(nId, fun c => (Cu.vtake c).2), (nKey, fun c => (Cu.okey c).2), (nCtx, fun c => (Cu.vec c).2), (nMeta, fun c => (Cu.prs c).2), (nDead, fun c => (Cu.flag c).2), (nValue, fun c => (Cu.blob c 32768).2)] c0).1.length (spnsD (spansr [(nId, fun c => (Cu.vtake c).2), (nKey, fun c => (Cu.okey c).2), (nCtx, fun c => (Cu.vec c).2), (nMeta, fun c => (Cu.prs c).2), (nDead, fun c => (Cu.flag c).2), (nValue, fun c => (Cu.blob c 32768).2)] c0).1)) ∧ σ = [Cu.ob (spansr [(nId, fun c => (Cu.vtake c).2), (nKey, fun c => (Cu.okey c).2), (nCtx, fun c => (Cu.vec c).2), (nMeta, fun c => (Cu.prs c).2), (nDead, fun c => (Cu.flag c).2), (nValue, fun c => (Cu.blob c 32768).2)] c0).2, .box 3 [iv .i64 32768], .box 186 [sv (bs nId), .f (.func 99) [] [], sv (bs nKey), .f (.func 289) [] [], sv (bs nCtx), .f (.func 199) [] [], sv (bs nMeta), .f (.func 204) [] [], sv (bs nDead), .f (.func 290) [] [], sv (bs nValue), .f (.func 288) [] [.p 1 0]]] := by
  refine AC.wk Tryz.func101 ?_
  obtain ⟨R, hR⟩ : ∃ R, spansr [(nId, fun c => (Cu.vtake c).2), (nKey, fun c => (Cu.okey c).2), (nCtx, fun c => (Cu.vec c).2), (nMeta, fun c => (Cu.prs c).2), (nDead, fun c => (Cu.flag c).2), (nValue, fun c => (Cu.blob c 32768).2)] c0 = R := ⟨_, rfl⟩
  rw [hR]
  focus ((repeat' (first | (refine ADr.nil ?_; try clear hgv) | refine GO ?_ | refine AW.ret ?_ | (refine GC ?_ ?_ <;> intro h <;> (try simp only [hsB] at h) <;> try exact xf) | (refine GD ?_ ?_ <;> intro h <;> (try intro hgv) <;> (try simp only [hsN] at h) <;> (try simp only [h]) <;> (try simp only [hsB] at h) <;> try exact xf) | (refine GL ?_ ?_ <;> intro h <;> (try simp only [hsN] at h) <;> (try simp only [h]) <;> (try simp only [hsB] at h) <;> try exact xf) | fail)))
  refine AW.birth 103 3 [5] [] ?_
  refine AW.rounds [0, 4, 5, 9, 10, 11] (fun x : Nat × List Spn × Cu => [(0, .p 0 0), (4, .d (.s (.slice none 0 0))), (5, .o 3 x.2.1.length), (9, .g 2 6), (10, iv .i64 6), (11, iv .i64 (x.1 : Nat))]) (fun x => [Cu.ob x.2.2, .box 3 [iv .i64 32768], .box 186 [sv (bs nId), .f (.func 99) [] [], sv (bs nKey), .f (.func 289) [] [], sv (bs nCtx), .f (.func 199) [] [], sv (bs nMeta), .f (.func 204) [] [], sv (bs nDead), .f (.func 290) [] [], sv (bs nValue), .f (.func 288) [] [.p 1 0]], .row 103 3 x.2.1.length (spnsD x.2.1)])
    (fun x => x.1 ≤ 6 ∧ x.2.1.length = x.1 ∧ x.2.2.Ok ∧ (x.2.1 ++ (spansr (([(nId, fun c => (Cu.vtake c).2), (nKey, fun c => (Cu.okey c).2), (nCtx, fun c => (Cu.vec c).2), (nMeta, fun c => (Cu.prs c).2), (nDead, fun c => (Cu.flag c).2), (nValue, fun c => (Cu.blob c 32768).2)] : List Prd).drop x.1) x.2.2).1, (spansr (([(nId, fun c => (Cu.vtake c).2), (nKey, fun c => (Cu.okey c).2), (nCtx, fun c => (Cu.vec c).2), (nMeta, fun c => (Cu.prs c).2), (nDead, fun c => (Cu.flag c).2), (nValue, fun c => (Cu.blob c 32768).2)] : List Prd).drop x.1) x.2.2).2) = R) (fun x => 6 - x.1) (0, [], c0)
    ⟨Nat.zero_le _, rfl, hok0, hR⟩ rfl rfl (fun _ _ => Nat.le_of_ble_eq_true rfl) (fun _ _ => rfl) (fun _ _ => rfl) ?_
  rintro ⟨i, out, c⟩ ⟨hi, hol, hok, hr⟩ J hJ
  simp only at hi hol hok hr ⊢
  have hat := cursor_At c.s c.a c.e
  have hc : i = 0 ∨ i = 1 ∨ i = 2 ∨ i = 3 ∨ i = 4 ∨ i = 5 ∨ i = 6 := by omega
  rcases hc with rfl | rfl | rfl | rfl | rfl | rfl | rfl
  · have hcl := pt_id c hok
    have hok2 : (Cu.vtake c).2.Ok := Cu.vtake_ok hok
    rw [show ([(nId, fun c => (Cu.vtake c).2), (nKey, fun c => (Cu.okey c).2), (nCtx, fun c => (Cu.vec c).2), (nMeta, fun c => (Cu.prs c).2), (nDead, fun c => (Cu.flag c).2), (nValue, fun c => (Cu.blob c 32768).2)] : List Prd).drop 0 = (nId, fun c => (Cu.vtake c).2) :: [(nKey, fun c => (Cu.okey c).2), (nCtx, fun c => (Cu.vec c).2), (nMeta, fun c => (Cu.prs c).2), (nDead, fun c => (Cu.flag c).2), (nValue, fun c => (Cu.blob c 32768).2)] from rfl, spansr_cons] at hr
    simp only at hr
    generalize (Cu.vtake c).2 = c1 at *
    have herr := cursor_Err c1.s c1.a c1.e
    have hat2 := cursor_At c1.s c1.a c1.e
    by_cases he : c1.e = 0
    · rw [if_neg (by simpa using he)] at hr
      have go : ∀ T' σ', keepT T' [0, 4, 5, 9, 10, 11] = [(0, .p 0 0), (4, .d (.s (.slice none 0 0))), (5, .o 3 (out.length + 1)), (9, .g 2 6), (10, iv .i64 6), (11, iv .i64 1)] → σ'.take 4 = [Cu.ob c1, .box 3 [iv .i64 32768], .box 186 [sv (bs nId), .f (.func 99) [] [], sv (bs nKey), .f (.func 289) [] [], sv (bs nCtx), .f (.func 199) [] [], sv (bs nMeta), .f (.func 204) [] [], sv (bs nDead), .f (.func 290) [] [], sv (bs nValue), .f (.func 288) [] [.p 1 0]], .row 103 3 (out.length + 1) (spnsD out ++ [D.s (.string ⟨(nId).toArray⟩), .s (.int .i64 (c.a : Nat)), .s (.int .i64 (c1.a : Nat))])] → J T' σ' := fun T' σ' g1 g2 => by
        have hl : (out ++ [((nId : List UInt8), (c.a, c1.a))]).length = out.length + 1 := by simp
        refine hJ (1, out ++ [(nId, (c.a, c1.a))], c1) T' σ' (by simp) ⟨by simp, by simp only [hl, hol], hok2, by rw [← hr]; simp [List.append_assoc]⟩ (by simp only [hl]; exact g1) (by simp only [hl]; rw [spns_snoc]; exact g2)
      clear hJ hr
      (have kk1 := uN [0] hat; have kk2 := uN [0] hcl; have kk3 := uN [0] herr; have kk4 := uN [0] hat2; exact Weg)
    · rw [if_pos he] at hr
      simp only [List.append_nil] at hr
      subst hr
      clear hJ
      (have kk1 := uN [0] hat; have kk2 := uN [0] hcl; have kk3 := uN [0] herr; exact Wd3)
  · have hcl := pt_key c hok
    have hok2 : (Cu.okey c).2.Ok := gd_ok (Cu.blob_ok hok)
    rw [show ([(nId, fun c => (Cu.vtake c).2), (nKey, fun c => (Cu.okey c).2), (nCtx, fun c => (Cu.vec c).2), (nMeta, fun c => (Cu.prs c).2), (nDead, fun c => (Cu.flag c).2), (nValue, fun c => (Cu.blob c 32768).2)] : List Prd).drop 1 = (nKey, fun c => (Cu.okey c).2) :: [(nCtx, fun c => (Cu.vec c).2), (nMeta, fun c => (Cu.prs c).2), (nDead, fun c => (Cu.flag c).2), (nValue, fun c => (Cu.blob c 32768).2)] from rfl, spansr_cons] at hr
    simp only at hr
    generalize (Cu.okey c).2 = c1 at *
    have herr := cursor_Err c1.s c1.a c1.e
    have hat2 := cursor_At c1.s c1.a c1.e
    by_cases he : c1.e = 0
    · rw [if_neg (by simpa using he)] at hr
      have go : ∀ T' σ', keepT T' [0, 4, 5, 9, 10, 11] = [(0, .p 0 0), (4, .d (.s (.slice none 0 0))), (5, .o 3 (out.length + 1)), (9, .g 2 6), (10, iv .i64 6), (11, iv .i64 2)] → σ'.take 4 = [Cu.ob c1, .box 3 [iv .i64 32768], .box 186 [sv (bs nId), .f (.func 99) [] [], sv (bs nKey), .f (.func 289) [] [], sv (bs nCtx), .f (.func 199) [] [], sv (bs nMeta), .f (.func 204) [] [], sv (bs nDead), .f (.func 290) [] [], sv (bs nValue), .f (.func 288) [] [.p 1 0]], .row 103 3 (out.length + 1) (spnsD out ++ [D.s (.string ⟨(nKey).toArray⟩), .s (.int .i64 (c.a : Nat)), .s (.int .i64 (c1.a : Nat))])] → J T' σ' := fun T' σ' g1 g2 => by
        have hl : (out ++ [((nKey : List UInt8), (c.a, c1.a))]).length = out.length + 1 := by simp
        refine hJ (2, out ++ [(nKey, (c.a, c1.a))], c1) T' σ' (by simp) ⟨by simp, by simp only [hl, hol], hok2, by rw [← hr]; simp [List.append_assoc]⟩ (by simp only [hl]; exact g1) (by simp only [hl]; rw [spns_snoc]; exact g2)
      clear hJ hr
      (have kk1 := uN [0] hat; have kk2 := uN [0] hcl; have kk3 := uN [0] herr; have kk4 := uN [0] hat2; exact Weg)
    · rw [if_pos he] at hr
      simp only [List.append_nil] at hr
      subst hr
      clear hJ
      (have kk1 := uN [0] hat; have kk2 := uN [0] hcl; have kk3 := uN [0] herr; exact Wd3)
  · have hcl := pt_ctx c hok
    have hok2 : (Cu.vec c).2.Ok := Cu.vec_ok hok
    rw [show ([(nId, fun c => (Cu.vtake c).2), (nKey, fun c => (Cu.okey c).2), (nCtx, fun c => (Cu.vec c).2), (nMeta, fun c => (Cu.prs c).2), (nDead, fun c => (Cu.flag c).2), (nValue, fun c => (Cu.blob c 32768).2)] : List Prd).drop 2 = (nCtx, fun c => (Cu.vec c).2) :: [(nMeta, fun c => (Cu.prs c).2), (nDead, fun c => (Cu.flag c).2), (nValue, fun c => (Cu.blob c 32768).2)] from rfl, spansr_cons] at hr
    simp only at hr
    generalize (Cu.vec c).2 = c1 at *
    have herr := cursor_Err c1.s c1.a c1.e
    have hat2 := cursor_At c1.s c1.a c1.e
    by_cases he : c1.e = 0
    · rw [if_neg (by simpa using he)] at hr
      have go : ∀ T' σ', keepT T' [0, 4, 5, 9, 10, 11] = [(0, .p 0 0), (4, .d (.s (.slice none 0 0))), (5, .o 3 (out.length + 1)), (9, .g 2 6), (10, iv .i64 6), (11, iv .i64 3)] → σ'.take 4 = [Cu.ob c1, .box 3 [iv .i64 32768], .box 186 [sv (bs nId), .f (.func 99) [] [], sv (bs nKey), .f (.func 289) [] [], sv (bs nCtx), .f (.func 199) [] [], sv (bs nMeta), .f (.func 204) [] [], sv (bs nDead), .f (.func 290) [] [], sv (bs nValue), .f (.func 288) [] [.p 1 0]], .row 103 3 (out.length + 1) (spnsD out ++ [D.s (.string ⟨(nCtx).toArray⟩), .s (.int .i64 (c.a : Nat)), .s (.int .i64 (c1.a : Nat))])] → J T' σ' := fun T' σ' g1 g2 => by
        have hl : (out ++ [((nCtx : List UInt8), (c.a, c1.a))]).length = out.length + 1 := by simp
        refine hJ (3, out ++ [(nCtx, (c.a, c1.a))], c1) T' σ' (by simp) ⟨by simp, by simp only [hl, hol], hok2, by rw [← hr]; simp [List.append_assoc]⟩ (by simp only [hl]; exact g1) (by simp only [hl]; rw [spns_snoc]; exact g2)
      clear hJ hr
      (have kk1 := uN [0] hat; have kk2 := uN [0] hcl; have kk3 := uN [0] herr; have kk4 := uN [0] hat2; exact Weg)
    · rw [if_pos he] at hr
      simp only [List.append_nil] at hr
      subst hr
      clear hJ
      (have kk1 := uN [0] hat; have kk2 := uN [0] hcl; have kk3 := uN [0] herr; exact Wd3)
  · have hcl := pt_meta c hok
    have hok2 : (Cu.prs c).2.Ok := Cu.prs_ok hok
    rw [show ([(nId, fun c => (Cu.vtake c).2), (nKey, fun c => (Cu.okey c).2), (nCtx, fun c => (Cu.vec c).2), (nMeta, fun c => (Cu.prs c).2), (nDead, fun c => (Cu.flag c).2), (nValue, fun c => (Cu.blob c 32768).2)] : List Prd).drop 3 = (nMeta, fun c => (Cu.prs c).2) :: [(nDead, fun c => (Cu.flag c).2), (nValue, fun c => (Cu.blob c 32768).2)] from rfl, spansr_cons] at hr
    simp only at hr
    generalize (Cu.prs c).2 = c1 at *
    have herr := cursor_Err c1.s c1.a c1.e
    have hat2 := cursor_At c1.s c1.a c1.e
    by_cases he : c1.e = 0
    · rw [if_neg (by simpa using he)] at hr
      have go : ∀ T' σ', keepT T' [0, 4, 5, 9, 10, 11] = [(0, .p 0 0), (4, .d (.s (.slice none 0 0))), (5, .o 3 (out.length + 1)), (9, .g 2 6), (10, iv .i64 6), (11, iv .i64 4)] → σ'.take 4 = [Cu.ob c1, .box 3 [iv .i64 32768], .box 186 [sv (bs nId), .f (.func 99) [] [], sv (bs nKey), .f (.func 289) [] [], sv (bs nCtx), .f (.func 199) [] [], sv (bs nMeta), .f (.func 204) [] [], sv (bs nDead), .f (.func 290) [] [], sv (bs nValue), .f (.func 288) [] [.p 1 0]], .row 103 3 (out.length + 1) (spnsD out ++ [D.s (.string ⟨(nMeta).toArray⟩), .s (.int .i64 (c.a : Nat)), .s (.int .i64 (c1.a : Nat))])] → J T' σ' := fun T' σ' g1 g2 => by
        have hl : (out ++ [((nMeta : List UInt8), (c.a, c1.a))]).length = out.length + 1 := by simp
        refine hJ (4, out ++ [(nMeta, (c.a, c1.a))], c1) T' σ' (by simp) ⟨by simp, by simp only [hl, hol], hok2, by rw [← hr]; simp [List.append_assoc]⟩ (by simp only [hl]; exact g1) (by simp only [hl]; rw [spns_snoc]; exact g2)
      clear hJ hr
      (have kk1 := uN [0] hat; have kk2 := uN [0] hcl; have kk3 := uN [0] herr; have kk4 := uN [0] hat2; exact Weg)
    · rw [if_pos he] at hr
      simp only [List.append_nil] at hr
      subst hr
      clear hJ
      (have kk1 := uN [0] hat; have kk2 := uN [0] hcl; have kk3 := uN [0] herr; exact Wd3)
  · have hcl := pt_flag c hok
    have hok2 : (Cu.flag c).2.Ok := Cu.flag_ok hok
    rw [show ([(nId, fun c => (Cu.vtake c).2), (nKey, fun c => (Cu.okey c).2), (nCtx, fun c => (Cu.vec c).2), (nMeta, fun c => (Cu.prs c).2), (nDead, fun c => (Cu.flag c).2), (nValue, fun c => (Cu.blob c 32768).2)] : List Prd).drop 4 = (nDead, fun c => (Cu.flag c).2) :: [(nValue, fun c => (Cu.blob c 32768).2)] from rfl, spansr_cons] at hr
    simp only at hr
    generalize (Cu.flag c).2 = c1 at *
    have herr := cursor_Err c1.s c1.a c1.e
    have hat2 := cursor_At c1.s c1.a c1.e
    by_cases he : c1.e = 0
    · rw [if_neg (by simpa using he)] at hr
      have go : ∀ T' σ', keepT T' [0, 4, 5, 9, 10, 11] = [(0, .p 0 0), (4, .d (.s (.slice none 0 0))), (5, .o 3 (out.length + 1)), (9, .g 2 6), (10, iv .i64 6), (11, iv .i64 5)] → σ'.take 4 = [Cu.ob c1, .box 3 [iv .i64 32768], .box 186 [sv (bs nId), .f (.func 99) [] [], sv (bs nKey), .f (.func 289) [] [], sv (bs nCtx), .f (.func 199) [] [], sv (bs nMeta), .f (.func 204) [] [], sv (bs nDead), .f (.func 290) [] [], sv (bs nValue), .f (.func 288) [] [.p 1 0]], .row 103 3 (out.length + 1) (spnsD out ++ [D.s (.string ⟨(nDead).toArray⟩), .s (.int .i64 (c.a : Nat)), .s (.int .i64 (c1.a : Nat))])] → J T' σ' := fun T' σ' g1 g2 => by
        have hl : (out ++ [((nDead : List UInt8), (c.a, c1.a))]).length = out.length + 1 := by simp
        refine hJ (5, out ++ [(nDead, (c.a, c1.a))], c1) T' σ' (by simp) ⟨by simp, by simp only [hl, hol], hok2, by rw [← hr]; simp [List.append_assoc]⟩ (by simp only [hl]; exact g1) (by simp only [hl]; rw [spns_snoc]; exact g2)
      clear hJ hr
      (have kk1 := uN [0] hat; have kk2 := uN [0] hcl; have kk3 := uN [0] herr; have kk4 := uN [0] hat2; exact Weg)
    · rw [if_pos he] at hr
      simp only [List.append_nil] at hr
      subst hr
      clear hJ
      (have kk1 := uN [0] hat; have kk2 := uN [0] hcl; have kk3 := uN [0] herr; exact Wd3)
  · have hcl := pt_text c hok 32768 (by decide)
    have hok2 : (Cu.blob c 32768).2.Ok := Cu.blob_ok hok
    rw [show ([(nId, fun c => (Cu.vtake c).2), (nKey, fun c => (Cu.okey c).2), (nCtx, fun c => (Cu.vec c).2), (nMeta, fun c => (Cu.prs c).2), (nDead, fun c => (Cu.flag c).2), (nValue, fun c => (Cu.blob c 32768).2)] : List Prd).drop 5 = (nValue, fun c => (Cu.blob c 32768).2) :: [] from rfl, spansr_cons] at hr
    simp only at hr
    generalize (Cu.blob c 32768).2 = c1 at *
    have herr := cursor_Err c1.s c1.a c1.e
    have hat2 := cursor_At c1.s c1.a c1.e
    by_cases he : c1.e = 0
    · rw [if_neg (by simpa using he)] at hr
      have go : ∀ T' σ', keepT T' [0, 4, 5, 9, 10, 11] = [(0, .p 0 0), (4, .d (.s (.slice none 0 0))), (5, .o 3 (out.length + 1)), (9, .g 2 6), (10, iv .i64 6), (11, iv .i64 6)] → σ'.take 4 = [Cu.ob c1, .box 3 [iv .i64 32768], .box 186 [sv (bs nId), .f (.func 99) [] [], sv (bs nKey), .f (.func 289) [] [], sv (bs nCtx), .f (.func 199) [] [], sv (bs nMeta), .f (.func 204) [] [], sv (bs nDead), .f (.func 290) [] [], sv (bs nValue), .f (.func 288) [] [.p 1 0]], .row 103 3 (out.length + 1) (spnsD out ++ [D.s (.string ⟨(nValue).toArray⟩), .s (.int .i64 (c.a : Nat)), .s (.int .i64 (c1.a : Nat))])] → J T' σ' := fun T' σ' g1 g2 => by
        have hl : (out ++ [((nValue : List UInt8), (c.a, c1.a))]).length = out.length + 1 := by simp
        refine hJ (6, out ++ [(nValue, (c.a, c1.a))], c1) T' σ' (by simp) ⟨by simp, by simp only [hl, hol], hok2, by rw [← hr]; simp [List.append_assoc]⟩ (by simp only [hl]; exact g1) (by simp only [hl]; rw [spns_snoc]; exact g2)
      clear hJ hr
      (have kk1 := uN [0] hat; have kk2 := uN [0, 1] hcl; have kk3 := uN [0] herr; have kk4 := uN [0] hat2; exact Weg)
    · rw [if_pos he] at hr
      simp only [List.append_nil] at hr
      subst hr
      clear hJ
      (have kk1 := uN [0] hat; have kk2 := uN [0, 1] hcl; have kk3 := uN [0] herr; exact Wd3)
  · rw [show ([(nId, fun c => (Cu.vtake c).2), (nKey, fun c => (Cu.okey c).2), (nCtx, fun c => (Cu.vec c).2), (nMeta, fun c => (Cu.prs c).2), (nDead, fun c => (Cu.flag c).2), (nValue, fun c => (Cu.blob c 32768).2)] : List Prd).drop 6 = [] from rfl] at hr
    simp only [spansr, List.append_nil] at hr
    subst hr
    clear hJ
    exact Wd3
theorem read_4 (c0 : Cu) (hok0 : c0.Ok) : AC Tryz.prog 101 [.p 0 0, .g 1 2] [Cu.ob c0, .box 186 [sv (bs nId), .f (.func 99) [] [], sv (bs nCtx), .f (.func 199) [] []]] fun y σ => y = .d (.l (spansr [(nId, fun c => (Cu.vtake c).2), (nCtx, fun c => (Cu.vec c).2)] c0).1.length (spnsD (spansr [(nId, fun c => (Cu.vtake c).2), (nCtx, fun c => (Cu.vec c).2)] c0).1)) ∧ σ = [Cu.ob (spansr [(nId, fun c => (Cu.vtake c).2), (nCtx, fun c => (Cu.vec c).2)] c0).2, .box 186 [sv (bs nId), .f (.func 99) [] [], sv (bs nCtx), .f (.func 199) [] []]] := by
  refine AC.wk Tryz.func101 ?_
  obtain ⟨R, hR⟩ : ∃ R, spansr [(nId, fun c => (Cu.vtake c).2), (nCtx, fun c => (Cu.vec c).2)] c0 = R := ⟨_, rfl⟩
  rw [hR]
  focus ((repeat' (first | (refine ADr.nil ?_; try clear hgv) | refine GO ?_ | refine AW.ret ?_ | (refine GC ?_ ?_ <;> intro h <;> (try simp only [hsB] at h) <;> try exact xf) | (refine GD ?_ ?_ <;> intro h <;> (try intro hgv) <;> (try simp only [hsN] at h) <;> (try simp only [h]) <;> (try simp only [hsB] at h) <;> try exact xf) | (refine GL ?_ ?_ <;> intro h <;> (try simp only [hsN] at h) <;> (try simp only [h]) <;> (try simp only [hsB] at h) <;> try exact xf) | fail)))
  refine AW.birth 103 3 [5] [] ?_
  refine AW.rounds [0, 4, 5, 9, 10, 11] (fun x : Nat × List Spn × Cu => [(0, .p 0 0), (4, .d (.s (.slice none 0 0))), (5, .o 2 x.2.1.length), (9, .g 1 2), (10, iv .i64 2), (11, iv .i64 (x.1 : Nat))]) (fun x => [Cu.ob x.2.2, .box 186 [sv (bs nId), .f (.func 99) [] [], sv (bs nCtx), .f (.func 199) [] []], .row 103 3 x.2.1.length (spnsD x.2.1)])
    (fun x => x.1 ≤ 2 ∧ x.2.1.length = x.1 ∧ x.2.2.Ok ∧ (x.2.1 ++ (spansr (([(nId, fun c => (Cu.vtake c).2), (nCtx, fun c => (Cu.vec c).2)] : List Prd).drop x.1) x.2.2).1, (spansr (([(nId, fun c => (Cu.vtake c).2), (nCtx, fun c => (Cu.vec c).2)] : List Prd).drop x.1) x.2.2).2) = R) (fun x => 2 - x.1) (0, [], c0)
    ⟨Nat.zero_le _, rfl, hok0, hR⟩ rfl rfl (fun _ _ => Nat.le_of_ble_eq_true rfl) (fun _ _ => rfl) (fun _ _ => rfl) ?_
  rintro ⟨i, out, c⟩ ⟨hi, hol, hok, hr⟩ J hJ
  simp only at hi hol hok hr ⊢
  have hat := cursor_At c.s c.a c.e
  have hc : i = 0 ∨ i = 1 ∨ i = 2 := by omega
  rcases hc with rfl | rfl | rfl
  · have hcl := pt_id c hok
    have hok2 : (Cu.vtake c).2.Ok := Cu.vtake_ok hok
    rw [show ([(nId, fun c => (Cu.vtake c).2), (nCtx, fun c => (Cu.vec c).2)] : List Prd).drop 0 = (nId, fun c => (Cu.vtake c).2) :: [(nCtx, fun c => (Cu.vec c).2)] from rfl, spansr_cons] at hr
    simp only at hr
    generalize (Cu.vtake c).2 = c1 at *
    have herr := cursor_Err c1.s c1.a c1.e
    have hat2 := cursor_At c1.s c1.a c1.e
    by_cases he : c1.e = 0
    · rw [if_neg (by simpa using he)] at hr
      have go : ∀ T' σ', keepT T' [0, 4, 5, 9, 10, 11] = [(0, .p 0 0), (4, .d (.s (.slice none 0 0))), (5, .o 2 (out.length + 1)), (9, .g 1 2), (10, iv .i64 2), (11, iv .i64 1)] → σ'.take 3 = [Cu.ob c1, .box 186 [sv (bs nId), .f (.func 99) [] [], sv (bs nCtx), .f (.func 199) [] []], .row 103 3 (out.length + 1) (spnsD out ++ [D.s (.string ⟨(nId).toArray⟩), .s (.int .i64 (c.a : Nat)), .s (.int .i64 (c1.a : Nat))])] → J T' σ' := fun T' σ' g1 g2 => by
        have hl : (out ++ [((nId : List UInt8), (c.a, c1.a))]).length = out.length + 1 := by simp
        refine hJ (1, out ++ [(nId, (c.a, c1.a))], c1) T' σ' (by simp) ⟨by simp, by simp only [hl, hol], hok2, by rw [← hr]; simp [List.append_assoc]⟩ (by simp only [hl]; exact g1) (by simp only [hl]; rw [spns_snoc]; exact g2)
      clear hJ hr
      (have kk1 := uN [0] hat; have kk2 := uN [0] hcl; have kk3 := uN [0] herr; have kk4 := uN [0] hat2; exact Weg)
    · rw [if_pos he] at hr
      simp only [List.append_nil] at hr
      subst hr
      clear hJ
      (have kk1 := uN [0] hat; have kk2 := uN [0] hcl; have kk3 := uN [0] herr; exact Wd2)
  · have hcl := pt_ctx c hok
    have hok2 : (Cu.vec c).2.Ok := Cu.vec_ok hok
    rw [show ([(nId, fun c => (Cu.vtake c).2), (nCtx, fun c => (Cu.vec c).2)] : List Prd).drop 1 = (nCtx, fun c => (Cu.vec c).2) :: [] from rfl, spansr_cons] at hr
    simp only at hr
    generalize (Cu.vec c).2 = c1 at *
    have herr := cursor_Err c1.s c1.a c1.e
    have hat2 := cursor_At c1.s c1.a c1.e
    by_cases he : c1.e = 0
    · rw [if_neg (by simpa using he)] at hr
      have go : ∀ T' σ', keepT T' [0, 4, 5, 9, 10, 11] = [(0, .p 0 0), (4, .d (.s (.slice none 0 0))), (5, .o 2 (out.length + 1)), (9, .g 1 2), (10, iv .i64 2), (11, iv .i64 2)] → σ'.take 3 = [Cu.ob c1, .box 186 [sv (bs nId), .f (.func 99) [] [], sv (bs nCtx), .f (.func 199) [] []], .row 103 3 (out.length + 1) (spnsD out ++ [D.s (.string ⟨(nCtx).toArray⟩), .s (.int .i64 (c.a : Nat)), .s (.int .i64 (c1.a : Nat))])] → J T' σ' := fun T' σ' g1 g2 => by
        have hl : (out ++ [((nCtx : List UInt8), (c.a, c1.a))]).length = out.length + 1 := by simp
        refine hJ (2, out ++ [(nCtx, (c.a, c1.a))], c1) T' σ' (by simp) ⟨by simp, by simp only [hl, hol], hok2, by rw [← hr]; simp [List.append_assoc]⟩ (by simp only [hl]; exact g1) (by simp only [hl]; rw [spns_snoc]; exact g2)
      clear hJ hr
      (have kk1 := uN [0] hat; have kk2 := uN [0] hcl; have kk3 := uN [0] herr; have kk4 := uN [0] hat2; exact Weg)
    · rw [if_pos he] at hr
      simp only [List.append_nil] at hr
      subst hr
      clear hJ
      (have kk1 := uN [0] hat; have kk2 := uN [0] hcl; have kk3 := uN [0] herr; exact Wd2)
  · rw [show ([(nId, fun c => (Cu.vtake c).2), (nCtx, fun c => (Cu.vec c).2)] : List Prd).drop 2 = [] from rfl] at hr
    simp only [spansr, List.append_nil] at hr
    subst hr
    clear hJ
    exact Wd2
theorem read_5 (c0 : Cu) (hok0 : c0.Ok) : AC Tryz.prog 101 [.p 0 0, .g 2 2] [Cu.ob c0, .box 3 [iv .i64 31], .box 186 [sv (bs nId), .f (.func 99) [] [], sv (bs nPrefix), .f (.func 288) [] [.p 1 0]]] fun y σ => y = .d (.l (spansr [(nId, fun c => (Cu.vtake c).2), (nPrefix, fun c => (Cu.blob c 31).2)] c0).1.length (spnsD (spansr [(nId, fun c => (Cu.vtake c).2), (nPrefix, fun c => (Cu.blob c 31).2)] c0).1)) ∧ σ = [Cu.ob (spansr [(nId, fun c => (Cu.vtake c).2), (nPrefix, fun c => (Cu.blob c 31).2)] c0).2, .box 3 [iv .i64 31], .box 186 [sv (bs nId), .f (.func 99) [] [], sv (bs nPrefix), .f (.func 288) [] [.p 1 0]]] := by
  refine AC.wk Tryz.func101 ?_
  obtain ⟨R, hR⟩ : ∃ R, spansr [(nId, fun c => (Cu.vtake c).2), (nPrefix, fun c => (Cu.blob c 31).2)] c0 = R := ⟨_, rfl⟩
  rw [hR]
  focus ((repeat' (first | (refine ADr.nil ?_; try clear hgv) | refine GO ?_ | refine AW.ret ?_ | (refine GC ?_ ?_ <;> intro h <;> (try simp only [hsB] at h) <;> try exact xf) | (refine GD ?_ ?_ <;> intro h <;> (try intro hgv) <;> (try simp only [hsN] at h) <;> (try simp only [h]) <;> (try simp only [hsB] at h) <;> try exact xf) | (refine GL ?_ ?_ <;> intro h <;> (try simp only [hsN] at h) <;> (try simp only [h]) <;> (try simp only [hsB] at h) <;> try exact xf) | fail)))
  refine AW.birth 103 3 [5] [] ?_
  refine AW.rounds [0, 4, 5, 9, 10, 11] (fun x : Nat × List Spn × Cu => [(0, .p 0 0), (4, .d (.s (.slice none 0 0))), (5, .o 3 x.2.1.length), (9, .g 2 2), (10, iv .i64 2), (11, iv .i64 (x.1 : Nat))]) (fun x => [Cu.ob x.2.2, .box 3 [iv .i64 31], .box 186 [sv (bs nId), .f (.func 99) [] [], sv (bs nPrefix), .f (.func 288) [] [.p 1 0]], .row 103 3 x.2.1.length (spnsD x.2.1)])
    (fun x => x.1 ≤ 2 ∧ x.2.1.length = x.1 ∧ x.2.2.Ok ∧ (x.2.1 ++ (spansr (([(nId, fun c => (Cu.vtake c).2), (nPrefix, fun c => (Cu.blob c 31).2)] : List Prd).drop x.1) x.2.2).1, (spansr (([(nId, fun c => (Cu.vtake c).2), (nPrefix, fun c => (Cu.blob c 31).2)] : List Prd).drop x.1) x.2.2).2) = R) (fun x => 2 - x.1) (0, [], c0)
    ⟨Nat.zero_le _, rfl, hok0, hR⟩ rfl rfl (fun _ _ => Nat.le_of_ble_eq_true rfl) (fun _ _ => rfl) (fun _ _ => rfl) ?_
  rintro ⟨i, out, c⟩ ⟨hi, hol, hok, hr⟩ J hJ
  simp only at hi hol hok hr ⊢
  have hat := cursor_At c.s c.a c.e
  have hc : i = 0 ∨ i = 1 ∨ i = 2 := by omega
  rcases hc with rfl | rfl | rfl
  · have hcl := pt_id c hok
    have hok2 : (Cu.vtake c).2.Ok := Cu.vtake_ok hok
    rw [show ([(nId, fun c => (Cu.vtake c).2), (nPrefix, fun c => (Cu.blob c 31).2)] : List Prd).drop 0 = (nId, fun c => (Cu.vtake c).2) :: [(nPrefix, fun c => (Cu.blob c 31).2)] from rfl, spansr_cons] at hr
    simp only at hr
    generalize (Cu.vtake c).2 = c1 at *
    have herr := cursor_Err c1.s c1.a c1.e
    have hat2 := cursor_At c1.s c1.a c1.e
    by_cases he : c1.e = 0
    · rw [if_neg (by simpa using he)] at hr
      have go : ∀ T' σ', keepT T' [0, 4, 5, 9, 10, 11] = [(0, .p 0 0), (4, .d (.s (.slice none 0 0))), (5, .o 3 (out.length + 1)), (9, .g 2 2), (10, iv .i64 2), (11, iv .i64 1)] → σ'.take 4 = [Cu.ob c1, .box 3 [iv .i64 31], .box 186 [sv (bs nId), .f (.func 99) [] [], sv (bs nPrefix), .f (.func 288) [] [.p 1 0]], .row 103 3 (out.length + 1) (spnsD out ++ [D.s (.string ⟨(nId).toArray⟩), .s (.int .i64 (c.a : Nat)), .s (.int .i64 (c1.a : Nat))])] → J T' σ' := fun T' σ' g1 g2 => by
        have hl : (out ++ [((nId : List UInt8), (c.a, c1.a))]).length = out.length + 1 := by simp
        refine hJ (1, out ++ [(nId, (c.a, c1.a))], c1) T' σ' (by simp) ⟨by simp, by simp only [hl, hol], hok2, by rw [← hr]; simp [List.append_assoc]⟩ (by simp only [hl]; exact g1) (by simp only [hl]; rw [spns_snoc]; exact g2)
      clear hJ hr
      (have kk1 := uN [0] hat; have kk2 := uN [0] hcl; have kk3 := uN [0] herr; have kk4 := uN [0] hat2; exact Weg)
    · rw [if_pos he] at hr
      simp only [List.append_nil] at hr
      subst hr
      clear hJ
      (have kk1 := uN [0] hat; have kk2 := uN [0] hcl; have kk3 := uN [0] herr; exact Wd3)
  · have hcl := pt_text c hok 31 (by decide)
    have hok2 : (Cu.blob c 31).2.Ok := Cu.blob_ok hok
    rw [show ([(nId, fun c => (Cu.vtake c).2), (nPrefix, fun c => (Cu.blob c 31).2)] : List Prd).drop 1 = (nPrefix, fun c => (Cu.blob c 31).2) :: [] from rfl, spansr_cons] at hr
    simp only at hr
    generalize (Cu.blob c 31).2 = c1 at *
    have herr := cursor_Err c1.s c1.a c1.e
    have hat2 := cursor_At c1.s c1.a c1.e
    by_cases he : c1.e = 0
    · rw [if_neg (by simpa using he)] at hr
      have go : ∀ T' σ', keepT T' [0, 4, 5, 9, 10, 11] = [(0, .p 0 0), (4, .d (.s (.slice none 0 0))), (5, .o 3 (out.length + 1)), (9, .g 2 2), (10, iv .i64 2), (11, iv .i64 2)] → σ'.take 4 = [Cu.ob c1, .box 3 [iv .i64 31], .box 186 [sv (bs nId), .f (.func 99) [] [], sv (bs nPrefix), .f (.func 288) [] [.p 1 0]], .row 103 3 (out.length + 1) (spnsD out ++ [D.s (.string ⟨(nPrefix).toArray⟩), .s (.int .i64 (c.a : Nat)), .s (.int .i64 (c1.a : Nat))])] → J T' σ' := fun T' σ' g1 g2 => by
        have hl : (out ++ [((nPrefix : List UInt8), (c.a, c1.a))]).length = out.length + 1 := by simp
        refine hJ (2, out ++ [(nPrefix, (c.a, c1.a))], c1) T' σ' (by simp) ⟨by simp, by simp only [hl, hol], hok2, by rw [← hr]; simp [List.append_assoc]⟩ (by simp only [hl]; exact g1) (by simp only [hl]; rw [spns_snoc]; exact g2)
      clear hJ hr
      (have kk1 := uN [0] hat; have kk2 := uN [0, 1] hcl; have kk3 := uN [0] herr; have kk4 := uN [0] hat2; exact Weg)
    · rw [if_pos he] at hr
      simp only [List.append_nil] at hr
      subst hr
      clear hJ
      (have kk1 := uN [0] hat; have kk2 := uN [0, 1] hcl; have kk3 := uN [0] herr; exact Wd3)
  · rw [show ([(nId, fun c => (Cu.vtake c).2), (nPrefix, fun c => (Cu.blob c 31).2)] : List Prd).drop 2 = [] from rfl] at hr
    simp only [spansr, List.append_nil] at hr
    subst hr
    clear hJ
    exact Wd3
theorem read_6 (c0 : Cu) (hok0 : c0.Ok) : AC Tryz.prog 101 [.p 0 0, .g 1 2] [Cu.ob c0, .box 186 [sv (bs nId), .f (.func 99) [] [], sv (bs nPage), .f (.func 206) [] []]] fun y σ => y = .d (.l (spansr [(nId, fun c => (Cu.vtake c).2), (nPage, fun c => (Cu.page c).2)] c0).1.length (spnsD (spansr [(nId, fun c => (Cu.vtake c).2), (nPage, fun c => (Cu.page c).2)] c0).1)) ∧ σ = [Cu.ob (spansr [(nId, fun c => (Cu.vtake c).2), (nPage, fun c => (Cu.page c).2)] c0).2, .box 186 [sv (bs nId), .f (.func 99) [] [], sv (bs nPage), .f (.func 206) [] []]] := by
  refine AC.wk Tryz.func101 ?_
  obtain ⟨R, hR⟩ : ∃ R, spansr [(nId, fun c => (Cu.vtake c).2), (nPage, fun c => (Cu.page c).2)] c0 = R := ⟨_, rfl⟩
  rw [hR]
  focus ((repeat' (first | (refine ADr.nil ?_; try clear hgv) | refine GO ?_ | refine AW.ret ?_ | (refine GC ?_ ?_ <;> intro h <;> (try simp only [hsB] at h) <;> try exact xf) | (refine GD ?_ ?_ <;> intro h <;> (try intro hgv) <;> (try simp only [hsN] at h) <;> (try simp only [h]) <;> (try simp only [hsB] at h) <;> try exact xf) | (refine GL ?_ ?_ <;> intro h <;> (try simp only [hsN] at h) <;> (try simp only [h]) <;> (try simp only [hsB] at h) <;> try exact xf) | fail)))
  refine AW.birth 103 3 [5] [] ?_
  refine AW.rounds [0, 4, 5, 9, 10, 11] (fun x : Nat × List Spn × Cu => [(0, .p 0 0), (4, .d (.s (.slice none 0 0))), (5, .o 2 x.2.1.length), (9, .g 1 2), (10, iv .i64 2), (11, iv .i64 (x.1 : Nat))]) (fun x => [Cu.ob x.2.2, .box 186 [sv (bs nId), .f (.func 99) [] [], sv (bs nPage), .f (.func 206) [] []], .row 103 3 x.2.1.length (spnsD x.2.1)])
    (fun x => x.1 ≤ 2 ∧ x.2.1.length = x.1 ∧ x.2.2.Ok ∧ (x.2.1 ++ (spansr (([(nId, fun c => (Cu.vtake c).2), (nPage, fun c => (Cu.page c).2)] : List Prd).drop x.1) x.2.2).1, (spansr (([(nId, fun c => (Cu.vtake c).2), (nPage, fun c => (Cu.page c).2)] : List Prd).drop x.1) x.2.2).2) = R) (fun x => 2 - x.1) (0, [], c0)
    ⟨Nat.zero_le _, rfl, hok0, hR⟩ rfl rfl (fun _ _ => Nat.le_of_ble_eq_true rfl) (fun _ _ => rfl) (fun _ _ => rfl) ?_
  rintro ⟨i, out, c⟩ ⟨hi, hol, hok, hr⟩ J hJ
  simp only at hi hol hok hr ⊢
  have hat := cursor_At c.s c.a c.e
  have hc : i = 0 ∨ i = 1 ∨ i = 2 := by omega
  rcases hc with rfl | rfl | rfl
  · have hcl := pt_id c hok
    have hok2 : (Cu.vtake c).2.Ok := Cu.vtake_ok hok
    rw [show ([(nId, fun c => (Cu.vtake c).2), (nPage, fun c => (Cu.page c).2)] : List Prd).drop 0 = (nId, fun c => (Cu.vtake c).2) :: [(nPage, fun c => (Cu.page c).2)] from rfl, spansr_cons] at hr
    simp only at hr
    generalize (Cu.vtake c).2 = c1 at *
    have herr := cursor_Err c1.s c1.a c1.e
    have hat2 := cursor_At c1.s c1.a c1.e
    by_cases he : c1.e = 0
    · rw [if_neg (by simpa using he)] at hr
      have go : ∀ T' σ', keepT T' [0, 4, 5, 9, 10, 11] = [(0, .p 0 0), (4, .d (.s (.slice none 0 0))), (5, .o 2 (out.length + 1)), (9, .g 1 2), (10, iv .i64 2), (11, iv .i64 1)] → σ'.take 3 = [Cu.ob c1, .box 186 [sv (bs nId), .f (.func 99) [] [], sv (bs nPage), .f (.func 206) [] []], .row 103 3 (out.length + 1) (spnsD out ++ [D.s (.string ⟨(nId).toArray⟩), .s (.int .i64 (c.a : Nat)), .s (.int .i64 (c1.a : Nat))])] → J T' σ' := fun T' σ' g1 g2 => by
        have hl : (out ++ [((nId : List UInt8), (c.a, c1.a))]).length = out.length + 1 := by simp
        refine hJ (1, out ++ [(nId, (c.a, c1.a))], c1) T' σ' (by simp) ⟨by simp, by simp only [hl, hol], hok2, by rw [← hr]; simp [List.append_assoc]⟩ (by simp only [hl]; exact g1) (by simp only [hl]; rw [spns_snoc]; exact g2)
      clear hJ hr
      (have kk1 := uN [0] hat; have kk2 := uN [0] hcl; have kk3 := uN [0] herr; have kk4 := uN [0] hat2; exact Weg)
    · rw [if_pos he] at hr
      simp only [List.append_nil] at hr
      subst hr
      clear hJ
      (have kk1 := uN [0] hat; have kk2 := uN [0] hcl; have kk3 := uN [0] herr; exact Wd2)
  · have hcl := pt_page c hok
    have hok2 : (Cu.page c).2.Ok := Cu.page_ok hok
    rw [show ([(nId, fun c => (Cu.vtake c).2), (nPage, fun c => (Cu.page c).2)] : List Prd).drop 1 = (nPage, fun c => (Cu.page c).2) :: [] from rfl, spansr_cons] at hr
    simp only at hr
    generalize (Cu.page c).2 = c1 at *
    have herr := cursor_Err c1.s c1.a c1.e
    have hat2 := cursor_At c1.s c1.a c1.e
    by_cases he : c1.e = 0
    · rw [if_neg (by simpa using he)] at hr
      have go : ∀ T' σ', keepT T' [0, 4, 5, 9, 10, 11] = [(0, .p 0 0), (4, .d (.s (.slice none 0 0))), (5, .o 2 (out.length + 1)), (9, .g 1 2), (10, iv .i64 2), (11, iv .i64 2)] → σ'.take 3 = [Cu.ob c1, .box 186 [sv (bs nId), .f (.func 99) [] [], sv (bs nPage), .f (.func 206) [] []], .row 103 3 (out.length + 1) (spnsD out ++ [D.s (.string ⟨(nPage).toArray⟩), .s (.int .i64 (c.a : Nat)), .s (.int .i64 (c1.a : Nat))])] → J T' σ' := fun T' σ' g1 g2 => by
        have hl : (out ++ [((nPage : List UInt8), (c.a, c1.a))]).length = out.length + 1 := by simp
        refine hJ (2, out ++ [(nPage, (c.a, c1.a))], c1) T' σ' (by simp) ⟨by simp, by simp only [hl, hol], hok2, by rw [← hr]; simp [List.append_assoc]⟩ (by simp only [hl]; exact g1) (by simp only [hl]; rw [spns_snoc]; exact g2)
      clear hJ hr
      (have kk1 := uN [0] hat; have kk2 := uN [0] hcl; have kk3 := uN [0] herr; have kk4 := uN [0] hat2; exact Weg)
    · rw [if_pos he] at hr
      simp only [List.append_nil] at hr
      subst hr
      clear hJ
      (have kk1 := uN [0] hat; have kk2 := uN [0] hcl; have kk3 := uN [0] herr; exact Wd2)
  · rw [show ([(nId, fun c => (Cu.vtake c).2), (nPage, fun c => (Cu.page c).2)] : List Prd).drop 2 = [] from rfl] at hr
    simp only [spansr, List.append_nil] at hr
    subst hr
    clear hJ
    exact Wd2
theorem read_7 (c0 : Cu) (hok0 : c0.Ok) : AC Tryz.prog 101 [.p 0 0, .g 1 2] [Cu.ob c0, .box 186 [sv (bs nId), .f (.func 99) [] [], sv (bs nRing), .f (.func 208) [] []]] fun y σ => y = .d (.l (spansr [(nId, fun c => (Cu.vtake c).2), (nRing, fun c => (Cu.ring c).2)] c0).1.length (spnsD (spansr [(nId, fun c => (Cu.vtake c).2), (nRing, fun c => (Cu.ring c).2)] c0).1)) ∧ σ = [Cu.ob (spansr [(nId, fun c => (Cu.vtake c).2), (nRing, fun c => (Cu.ring c).2)] c0).2, .box 186 [sv (bs nId), .f (.func 99) [] [], sv (bs nRing), .f (.func 208) [] []]] := by
  refine AC.wk Tryz.func101 ?_
  obtain ⟨R, hR⟩ : ∃ R, spansr [(nId, fun c => (Cu.vtake c).2), (nRing, fun c => (Cu.ring c).2)] c0 = R := ⟨_, rfl⟩
  rw [hR]
  focus ((repeat' (first | (refine ADr.nil ?_; try clear hgv) | refine GO ?_ | refine AW.ret ?_ | (refine GC ?_ ?_ <;> intro h <;> (try simp only [hsB] at h) <;> try exact xf) | (refine GD ?_ ?_ <;> intro h <;> (try intro hgv) <;> (try simp only [hsN] at h) <;> (try simp only [h]) <;> (try simp only [hsB] at h) <;> try exact xf) | (refine GL ?_ ?_ <;> intro h <;> (try simp only [hsN] at h) <;> (try simp only [h]) <;> (try simp only [hsB] at h) <;> try exact xf) | fail)))
  refine AW.birth 103 3 [5] [] ?_
  refine AW.rounds [0, 4, 5, 9, 10, 11] (fun x : Nat × List Spn × Cu => [(0, .p 0 0), (4, .d (.s (.slice none 0 0))), (5, .o 2 x.2.1.length), (9, .g 1 2), (10, iv .i64 2), (11, iv .i64 (x.1 : Nat))]) (fun x => [Cu.ob x.2.2, .box 186 [sv (bs nId), .f (.func 99) [] [], sv (bs nRing), .f (.func 208) [] []], .row 103 3 x.2.1.length (spnsD x.2.1)])
    (fun x => x.1 ≤ 2 ∧ x.2.1.length = x.1 ∧ x.2.2.Ok ∧ (x.2.1 ++ (spansr (([(nId, fun c => (Cu.vtake c).2), (nRing, fun c => (Cu.ring c).2)] : List Prd).drop x.1) x.2.2).1, (spansr (([(nId, fun c => (Cu.vtake c).2), (nRing, fun c => (Cu.ring c).2)] : List Prd).drop x.1) x.2.2).2) = R) (fun x => 2 - x.1) (0, [], c0)
    ⟨Nat.zero_le _, rfl, hok0, hR⟩ rfl rfl (fun _ _ => Nat.le_of_ble_eq_true rfl) (fun _ _ => rfl) (fun _ _ => rfl) ?_
  rintro ⟨i, out, c⟩ ⟨hi, hol, hok, hr⟩ J hJ
  simp only at hi hol hok hr ⊢
  have hat := cursor_At c.s c.a c.e
  have hc : i = 0 ∨ i = 1 ∨ i = 2 := by omega
  rcases hc with rfl | rfl | rfl
  · have hcl := pt_id c hok
    have hok2 : (Cu.vtake c).2.Ok := Cu.vtake_ok hok
    rw [show ([(nId, fun c => (Cu.vtake c).2), (nRing, fun c => (Cu.ring c).2)] : List Prd).drop 0 = (nId, fun c => (Cu.vtake c).2) :: [(nRing, fun c => (Cu.ring c).2)] from rfl, spansr_cons] at hr
    simp only at hr
    generalize (Cu.vtake c).2 = c1 at *
    have herr := cursor_Err c1.s c1.a c1.e
    have hat2 := cursor_At c1.s c1.a c1.e
    by_cases he : c1.e = 0
    · rw [if_neg (by simpa using he)] at hr
      have go : ∀ T' σ', keepT T' [0, 4, 5, 9, 10, 11] = [(0, .p 0 0), (4, .d (.s (.slice none 0 0))), (5, .o 2 (out.length + 1)), (9, .g 1 2), (10, iv .i64 2), (11, iv .i64 1)] → σ'.take 3 = [Cu.ob c1, .box 186 [sv (bs nId), .f (.func 99) [] [], sv (bs nRing), .f (.func 208) [] []], .row 103 3 (out.length + 1) (spnsD out ++ [D.s (.string ⟨(nId).toArray⟩), .s (.int .i64 (c.a : Nat)), .s (.int .i64 (c1.a : Nat))])] → J T' σ' := fun T' σ' g1 g2 => by
        have hl : (out ++ [((nId : List UInt8), (c.a, c1.a))]).length = out.length + 1 := by simp
        refine hJ (1, out ++ [(nId, (c.a, c1.a))], c1) T' σ' (by simp) ⟨by simp, by simp only [hl, hol], hok2, by rw [← hr]; simp [List.append_assoc]⟩ (by simp only [hl]; exact g1) (by simp only [hl]; rw [spns_snoc]; exact g2)
      clear hJ hr
      (have kk1 := uN [0] hat; have kk2 := uN [0] hcl; have kk3 := uN [0] herr; have kk4 := uN [0] hat2; exact Weg)
    · rw [if_pos he] at hr
      simp only [List.append_nil] at hr
      subst hr
      clear hJ
      (have kk1 := uN [0] hat; have kk2 := uN [0] hcl; have kk3 := uN [0] herr; exact Wd2)
  · have hcl := pt_ring c hok
    have hok2 : (Cu.ring c).2.Ok := Cu.ring_ok hok
    rw [show ([(nId, fun c => (Cu.vtake c).2), (nRing, fun c => (Cu.ring c).2)] : List Prd).drop 1 = (nRing, fun c => (Cu.ring c).2) :: [] from rfl, spansr_cons] at hr
    simp only at hr
    generalize (Cu.ring c).2 = c1 at *
    have herr := cursor_Err c1.s c1.a c1.e
    have hat2 := cursor_At c1.s c1.a c1.e
    by_cases he : c1.e = 0
    · rw [if_neg (by simpa using he)] at hr
      have go : ∀ T' σ', keepT T' [0, 4, 5, 9, 10, 11] = [(0, .p 0 0), (4, .d (.s (.slice none 0 0))), (5, .o 2 (out.length + 1)), (9, .g 1 2), (10, iv .i64 2), (11, iv .i64 2)] → σ'.take 3 = [Cu.ob c1, .box 186 [sv (bs nId), .f (.func 99) [] [], sv (bs nRing), .f (.func 208) [] []], .row 103 3 (out.length + 1) (spnsD out ++ [D.s (.string ⟨(nRing).toArray⟩), .s (.int .i64 (c.a : Nat)), .s (.int .i64 (c1.a : Nat))])] → J T' σ' := fun T' σ' g1 g2 => by
        have hl : (out ++ [((nRing : List UInt8), (c.a, c1.a))]).length = out.length + 1 := by simp
        refine hJ (2, out ++ [(nRing, (c.a, c1.a))], c1) T' σ' (by simp) ⟨by simp, by simp only [hl, hol], hok2, by rw [← hr]; simp [List.append_assoc]⟩ (by simp only [hl]; exact g1) (by simp only [hl]; rw [spns_snoc]; exact g2)
      clear hJ hr
      (have kk1 := uN [0] hat; have kk2 := uN [0] hcl; have kk3 := uN [0] herr; have kk4 := uN [0] hat2; exact Weg)
    · rw [if_pos he] at hr
      simp only [List.append_nil] at hr
      subst hr
      clear hJ
      (have kk1 := uN [0] hat; have kk2 := uN [0] hcl; have kk3 := uN [0] herr; exact Wd2)
  · rw [show ([(nId, fun c => (Cu.vtake c).2), (nRing, fun c => (Cu.ring c).2)] : List Prd).drop 2 = [] from rfl] at hr
    simp only [spansr, List.append_nil] at hr
    subst hr
    clear hJ
    exact Wd2
theorem read_8 (c0 : Cu) (hok0 : c0.Ok) : AC Tryz.prog 101 [.p 0 0, .g 2 3] [Cu.ob c0, .box 3 [iv .i64 64], .box 186 [sv (bs nId), .f (.func 99) [] [], sv (bs nCode), .f (.func 210) [] [], sv (bs nText), .f (.func 288) [] [.p 1 0]]] fun y σ => y = .d (.l (spansr [(nId, fun c => (Cu.vtake c).2), (nCode, fun c => (Cu.count c 255).2), (nText, fun c => (Cu.blob c 64).2)] c0).1.length (spnsD (spansr [(nId, fun c => (Cu.vtake c).2), (nCode, fun c => (Cu.count c 255).2), (nText, fun c => (Cu.blob c 64).2)] c0).1)) ∧ σ = [Cu.ob (spansr [(nId, fun c => (Cu.vtake c).2), (nCode, fun c => (Cu.count c 255).2), (nText, fun c => (Cu.blob c 64).2)] c0).2, .box 3 [iv .i64 64], .box 186 [sv (bs nId), .f (.func 99) [] [], sv (bs nCode), .f (.func 210) [] [], sv (bs nText), .f (.func 288) [] [.p 1 0]]] := by
  refine AC.wk Tryz.func101 ?_
  obtain ⟨R, hR⟩ : ∃ R, spansr [(nId, fun c => (Cu.vtake c).2), (nCode, fun c => (Cu.count c 255).2), (nText, fun c => (Cu.blob c 64).2)] c0 = R := ⟨_, rfl⟩
  rw [hR]
  focus ((repeat' (first | (refine ADr.nil ?_; try clear hgv) | refine GO ?_ | refine AW.ret ?_ | (refine GC ?_ ?_ <;> intro h <;> (try simp only [hsB] at h) <;> try exact xf) | (refine GD ?_ ?_ <;> intro h <;> (try intro hgv) <;> (try simp only [hsN] at h) <;> (try simp only [h]) <;> (try simp only [hsB] at h) <;> try exact xf) | (refine GL ?_ ?_ <;> intro h <;> (try simp only [hsN] at h) <;> (try simp only [h]) <;> (try simp only [hsB] at h) <;> try exact xf) | fail)))
  refine AW.birth 103 3 [5] [] ?_
  refine AW.rounds [0, 4, 5, 9, 10, 11] (fun x : Nat × List Spn × Cu => [(0, .p 0 0), (4, .d (.s (.slice none 0 0))), (5, .o 3 x.2.1.length), (9, .g 2 3), (10, iv .i64 3), (11, iv .i64 (x.1 : Nat))]) (fun x => [Cu.ob x.2.2, .box 3 [iv .i64 64], .box 186 [sv (bs nId), .f (.func 99) [] [], sv (bs nCode), .f (.func 210) [] [], sv (bs nText), .f (.func 288) [] [.p 1 0]], .row 103 3 x.2.1.length (spnsD x.2.1)])
    (fun x => x.1 ≤ 3 ∧ x.2.1.length = x.1 ∧ x.2.2.Ok ∧ (x.2.1 ++ (spansr (([(nId, fun c => (Cu.vtake c).2), (nCode, fun c => (Cu.count c 255).2), (nText, fun c => (Cu.blob c 64).2)] : List Prd).drop x.1) x.2.2).1, (spansr (([(nId, fun c => (Cu.vtake c).2), (nCode, fun c => (Cu.count c 255).2), (nText, fun c => (Cu.blob c 64).2)] : List Prd).drop x.1) x.2.2).2) = R) (fun x => 3 - x.1) (0, [], c0)
    ⟨Nat.zero_le _, rfl, hok0, hR⟩ rfl rfl (fun _ _ => Nat.le_of_ble_eq_true rfl) (fun _ _ => rfl) (fun _ _ => rfl) ?_
  rintro ⟨i, out, c⟩ ⟨hi, hol, hok, hr⟩ J hJ
  simp only at hi hol hok hr ⊢
  have hat := cursor_At c.s c.a c.e
  have hc : i = 0 ∨ i = 1 ∨ i = 2 ∨ i = 3 := by omega
  rcases hc with rfl | rfl | rfl | rfl
  · have hcl := pt_id c hok
    have hok2 : (Cu.vtake c).2.Ok := Cu.vtake_ok hok
    rw [show ([(nId, fun c => (Cu.vtake c).2), (nCode, fun c => (Cu.count c 255).2), (nText, fun c => (Cu.blob c 64).2)] : List Prd).drop 0 = (nId, fun c => (Cu.vtake c).2) :: [(nCode, fun c => (Cu.count c 255).2), (nText, fun c => (Cu.blob c 64).2)] from rfl, spansr_cons] at hr
    simp only at hr
    generalize (Cu.vtake c).2 = c1 at *
    have herr := cursor_Err c1.s c1.a c1.e
    have hat2 := cursor_At c1.s c1.a c1.e
    by_cases he : c1.e = 0
    · rw [if_neg (by simpa using he)] at hr
      have go : ∀ T' σ', keepT T' [0, 4, 5, 9, 10, 11] = [(0, .p 0 0), (4, .d (.s (.slice none 0 0))), (5, .o 3 (out.length + 1)), (9, .g 2 3), (10, iv .i64 3), (11, iv .i64 1)] → σ'.take 4 = [Cu.ob c1, .box 3 [iv .i64 64], .box 186 [sv (bs nId), .f (.func 99) [] [], sv (bs nCode), .f (.func 210) [] [], sv (bs nText), .f (.func 288) [] [.p 1 0]], .row 103 3 (out.length + 1) (spnsD out ++ [D.s (.string ⟨(nId).toArray⟩), .s (.int .i64 (c.a : Nat)), .s (.int .i64 (c1.a : Nat))])] → J T' σ' := fun T' σ' g1 g2 => by
        have hl : (out ++ [((nId : List UInt8), (c.a, c1.a))]).length = out.length + 1 := by simp
        refine hJ (1, out ++ [(nId, (c.a, c1.a))], c1) T' σ' (by simp) ⟨by simp, by simp only [hl, hol], hok2, by rw [← hr]; simp [List.append_assoc]⟩ (by simp only [hl]; exact g1) (by simp only [hl]; rw [spns_snoc]; exact g2)
      clear hJ hr
      (have kk1 := uN [0] hat; have kk2 := uN [0] hcl; have kk3 := uN [0] herr; have kk4 := uN [0] hat2; exact Weg)
    · rw [if_pos he] at hr
      simp only [List.append_nil] at hr
      subst hr
      clear hJ
      (have kk1 := uN [0] hat; have kk2 := uN [0] hcl; have kk3 := uN [0] herr; exact Wd3)
  · have hcl := pt_code c hok
    have hok2 : (Cu.count c 255).2.Ok := Cu.count_ok hok
    rw [show ([(nId, fun c => (Cu.vtake c).2), (nCode, fun c => (Cu.count c 255).2), (nText, fun c => (Cu.blob c 64).2)] : List Prd).drop 1 = (nCode, fun c => (Cu.count c 255).2) :: [(nText, fun c => (Cu.blob c 64).2)] from rfl, spansr_cons] at hr
    simp only at hr
    generalize (Cu.count c 255).2 = c1 at *
    have herr := cursor_Err c1.s c1.a c1.e
    have hat2 := cursor_At c1.s c1.a c1.e
    by_cases he : c1.e = 0
    · rw [if_neg (by simpa using he)] at hr
      have go : ∀ T' σ', keepT T' [0, 4, 5, 9, 10, 11] = [(0, .p 0 0), (4, .d (.s (.slice none 0 0))), (5, .o 3 (out.length + 1)), (9, .g 2 3), (10, iv .i64 3), (11, iv .i64 2)] → σ'.take 4 = [Cu.ob c1, .box 3 [iv .i64 64], .box 186 [sv (bs nId), .f (.func 99) [] [], sv (bs nCode), .f (.func 210) [] [], sv (bs nText), .f (.func 288) [] [.p 1 0]], .row 103 3 (out.length + 1) (spnsD out ++ [D.s (.string ⟨(nCode).toArray⟩), .s (.int .i64 (c.a : Nat)), .s (.int .i64 (c1.a : Nat))])] → J T' σ' := fun T' σ' g1 g2 => by
        have hl : (out ++ [((nCode : List UInt8), (c.a, c1.a))]).length = out.length + 1 := by simp
        refine hJ (2, out ++ [(nCode, (c.a, c1.a))], c1) T' σ' (by simp) ⟨by simp, by simp only [hl, hol], hok2, by rw [← hr]; simp [List.append_assoc]⟩ (by simp only [hl]; exact g1) (by simp only [hl]; rw [spns_snoc]; exact g2)
      clear hJ hr
      (have kk1 := uN [0] hat; have kk2 := uN [0] hcl; have kk3 := uN [0] herr; have kk4 := uN [0] hat2; exact Weg)
    · rw [if_pos he] at hr
      simp only [List.append_nil] at hr
      subst hr
      clear hJ
      (have kk1 := uN [0] hat; have kk2 := uN [0] hcl; have kk3 := uN [0] herr; exact Wd3)
  · have hcl := pt_text c hok 64 (by decide)
    have hok2 : (Cu.blob c 64).2.Ok := Cu.blob_ok hok
    rw [show ([(nId, fun c => (Cu.vtake c).2), (nCode, fun c => (Cu.count c 255).2), (nText, fun c => (Cu.blob c 64).2)] : List Prd).drop 2 = (nText, fun c => (Cu.blob c 64).2) :: [] from rfl, spansr_cons] at hr
    simp only at hr
    generalize (Cu.blob c 64).2 = c1 at *
    have herr := cursor_Err c1.s c1.a c1.e
    have hat2 := cursor_At c1.s c1.a c1.e
    by_cases he : c1.e = 0
    · rw [if_neg (by simpa using he)] at hr
      have go : ∀ T' σ', keepT T' [0, 4, 5, 9, 10, 11] = [(0, .p 0 0), (4, .d (.s (.slice none 0 0))), (5, .o 3 (out.length + 1)), (9, .g 2 3), (10, iv .i64 3), (11, iv .i64 3)] → σ'.take 4 = [Cu.ob c1, .box 3 [iv .i64 64], .box 186 [sv (bs nId), .f (.func 99) [] [], sv (bs nCode), .f (.func 210) [] [], sv (bs nText), .f (.func 288) [] [.p 1 0]], .row 103 3 (out.length + 1) (spnsD out ++ [D.s (.string ⟨(nText).toArray⟩), .s (.int .i64 (c.a : Nat)), .s (.int .i64 (c1.a : Nat))])] → J T' σ' := fun T' σ' g1 g2 => by
        have hl : (out ++ [((nText : List UInt8), (c.a, c1.a))]).length = out.length + 1 := by simp
        refine hJ (3, out ++ [(nText, (c.a, c1.a))], c1) T' σ' (by simp) ⟨by simp, by simp only [hl, hol], hok2, by rw [← hr]; simp [List.append_assoc]⟩ (by simp only [hl]; exact g1) (by simp only [hl]; rw [spns_snoc]; exact g2)
      clear hJ hr
      (have kk1 := uN [0] hat; have kk2 := uN [0, 1] hcl; have kk3 := uN [0] herr; have kk4 := uN [0] hat2; exact Weg)
    · rw [if_pos he] at hr
      simp only [List.append_nil] at hr
      subst hr
      clear hJ
      (have kk1 := uN [0] hat; have kk2 := uN [0, 1] hcl; have kk3 := uN [0] herr; exact Wd3)
  · rw [show ([(nId, fun c => (Cu.vtake c).2), (nCode, fun c => (Cu.count c 255).2), (nText, fun c => (Cu.blob c 64).2)] : List Prd).drop 3 = [] from rfl] at hr
    simp only [spansr, List.append_nil] at hr
    subst hr
    clear hJ
    exact Wd3
theorem read_9 (c0 : Cu) (hok0 : c0.Ok) : AC Tryz.prog 101 [.p 0 0, .g 2 2] [Cu.ob c0, .box 3 [iv .i64 65536], .box 186 [sv (bs nId), .f (.func 99) [] [], sv (bs nObject), .f (.func 288) [] [.p 1 0]]] fun y σ => y = .d (.l (spansr [(nId, fun c => (Cu.vtake c).2), (nObject, fun c => (Cu.blob c 65536).2)] c0).1.length (spnsD (spansr [(nId, fun c => (Cu.vtake c).2), (nObject, fun c => (Cu.blob c 65536).2)] c0).1)) ∧ σ = [Cu.ob (spansr [(nId, fun c => (Cu.vtake c).2), (nObject, fun c => (Cu.blob c 65536).2)] c0).2, .box 3 [iv .i64 65536], .box 186 [sv (bs nId), .f (.func 99) [] [], sv (bs nObject), .f (.func 288) [] [.p 1 0]]] := by
  refine AC.wk Tryz.func101 ?_
  obtain ⟨R, hR⟩ : ∃ R, spansr [(nId, fun c => (Cu.vtake c).2), (nObject, fun c => (Cu.blob c 65536).2)] c0 = R := ⟨_, rfl⟩
  rw [hR]
  focus ((repeat' (first | (refine ADr.nil ?_; try clear hgv) | refine GO ?_ | refine AW.ret ?_ | (refine GC ?_ ?_ <;> intro h <;> (try simp only [hsB] at h) <;> try exact xf) | (refine GD ?_ ?_ <;> intro h <;> (try intro hgv) <;> (try simp only [hsN] at h) <;> (try simp only [h]) <;> (try simp only [hsB] at h) <;> try exact xf) | (refine GL ?_ ?_ <;> intro h <;> (try simp only [hsN] at h) <;> (try simp only [h]) <;> (try simp only [hsB] at h) <;> try exact xf) | fail)))
  refine AW.birth 103 3 [5] [] ?_
  refine AW.rounds [0, 4, 5, 9, 10, 11] (fun x : Nat × List Spn × Cu => [(0, .p 0 0), (4, .d (.s (.slice none 0 0))), (5, .o 3 x.2.1.length), (9, .g 2 2), (10, iv .i64 2), (11, iv .i64 (x.1 : Nat))]) (fun x => [Cu.ob x.2.2, .box 3 [iv .i64 65536], .box 186 [sv (bs nId), .f (.func 99) [] [], sv (bs nObject), .f (.func 288) [] [.p 1 0]], .row 103 3 x.2.1.length (spnsD x.2.1)])
    (fun x => x.1 ≤ 2 ∧ x.2.1.length = x.1 ∧ x.2.2.Ok ∧ (x.2.1 ++ (spansr (([(nId, fun c => (Cu.vtake c).2), (nObject, fun c => (Cu.blob c 65536).2)] : List Prd).drop x.1) x.2.2).1, (spansr (([(nId, fun c => (Cu.vtake c).2), (nObject, fun c => (Cu.blob c 65536).2)] : List Prd).drop x.1) x.2.2).2) = R) (fun x => 2 - x.1) (0, [], c0)
    ⟨Nat.zero_le _, rfl, hok0, hR⟩ rfl rfl (fun _ _ => Nat.le_of_ble_eq_true rfl) (fun _ _ => rfl) (fun _ _ => rfl) ?_
  rintro ⟨i, out, c⟩ ⟨hi, hol, hok, hr⟩ J hJ
  simp only at hi hol hok hr ⊢
  have hat := cursor_At c.s c.a c.e
  have hc : i = 0 ∨ i = 1 ∨ i = 2 := by omega
  rcases hc with rfl | rfl | rfl
  · have hcl := pt_id c hok
    have hok2 : (Cu.vtake c).2.Ok := Cu.vtake_ok hok
    rw [show ([(nId, fun c => (Cu.vtake c).2), (nObject, fun c => (Cu.blob c 65536).2)] : List Prd).drop 0 = (nId, fun c => (Cu.vtake c).2) :: [(nObject, fun c => (Cu.blob c 65536).2)] from rfl, spansr_cons] at hr
    simp only at hr
    generalize (Cu.vtake c).2 = c1 at *
    have herr := cursor_Err c1.s c1.a c1.e
    have hat2 := cursor_At c1.s c1.a c1.e
    by_cases he : c1.e = 0
    · rw [if_neg (by simpa using he)] at hr
      have go : ∀ T' σ', keepT T' [0, 4, 5, 9, 10, 11] = [(0, .p 0 0), (4, .d (.s (.slice none 0 0))), (5, .o 3 (out.length + 1)), (9, .g 2 2), (10, iv .i64 2), (11, iv .i64 1)] → σ'.take 4 = [Cu.ob c1, .box 3 [iv .i64 65536], .box 186 [sv (bs nId), .f (.func 99) [] [], sv (bs nObject), .f (.func 288) [] [.p 1 0]], .row 103 3 (out.length + 1) (spnsD out ++ [D.s (.string ⟨(nId).toArray⟩), .s (.int .i64 (c.a : Nat)), .s (.int .i64 (c1.a : Nat))])] → J T' σ' := fun T' σ' g1 g2 => by
        have hl : (out ++ [((nId : List UInt8), (c.a, c1.a))]).length = out.length + 1 := by simp
        refine hJ (1, out ++ [(nId, (c.a, c1.a))], c1) T' σ' (by simp) ⟨by simp, by simp only [hl, hol], hok2, by rw [← hr]; simp [List.append_assoc]⟩ (by simp only [hl]; exact g1) (by simp only [hl]; rw [spns_snoc]; exact g2)
      clear hJ hr
      (have kk1 := uN [0] hat; have kk2 := uN [0] hcl; have kk3 := uN [0] herr; have kk4 := uN [0] hat2; exact Weg)
    · rw [if_pos he] at hr
      simp only [List.append_nil] at hr
      subst hr
      clear hJ
      (have kk1 := uN [0] hat; have kk2 := uN [0] hcl; have kk3 := uN [0] herr; exact Wd3)
  · have hcl := pt_text c hok 65536 (by decide)
    have hok2 : (Cu.blob c 65536).2.Ok := Cu.blob_ok hok
    rw [show ([(nId, fun c => (Cu.vtake c).2), (nObject, fun c => (Cu.blob c 65536).2)] : List Prd).drop 1 = (nObject, fun c => (Cu.blob c 65536).2) :: [] from rfl, spansr_cons] at hr
    simp only at hr
    generalize (Cu.blob c 65536).2 = c1 at *
    have herr := cursor_Err c1.s c1.a c1.e
    have hat2 := cursor_At c1.s c1.a c1.e
    by_cases he : c1.e = 0
    · rw [if_neg (by simpa using he)] at hr
      have go : ∀ T' σ', keepT T' [0, 4, 5, 9, 10, 11] = [(0, .p 0 0), (4, .d (.s (.slice none 0 0))), (5, .o 3 (out.length + 1)), (9, .g 2 2), (10, iv .i64 2), (11, iv .i64 2)] → σ'.take 4 = [Cu.ob c1, .box 3 [iv .i64 65536], .box 186 [sv (bs nId), .f (.func 99) [] [], sv (bs nObject), .f (.func 288) [] [.p 1 0]], .row 103 3 (out.length + 1) (spnsD out ++ [D.s (.string ⟨(nObject).toArray⟩), .s (.int .i64 (c.a : Nat)), .s (.int .i64 (c1.a : Nat))])] → J T' σ' := fun T' σ' g1 g2 => by
        have hl : (out ++ [((nObject : List UInt8), (c.a, c1.a))]).length = out.length + 1 := by simp
        refine hJ (2, out ++ [(nObject, (c.a, c1.a))], c1) T' σ' (by simp) ⟨by simp, by simp only [hl, hol], hok2, by rw [← hr]; simp [List.append_assoc]⟩ (by simp only [hl]; exact g1) (by simp only [hl]; rw [spns_snoc]; exact g2)
      clear hJ hr
      (have kk1 := uN [0] hat; have kk2 := uN [0, 1] hcl; have kk3 := uN [0] herr; have kk4 := uN [0] hat2; exact Weg)
    · rw [if_pos he] at hr
      simp only [List.append_nil] at hr
      subst hr
      clear hJ
      (have kk1 := uN [0] hat; have kk2 := uN [0, 1] hcl; have kk3 := uN [0] herr; exact Wd3)
  · rw [show ([(nId, fun c => (Cu.vtake c).2), (nObject, fun c => (Cu.blob c 65536).2)] : List Prd).drop 2 = [] from rfl] at hr
    simp only [spansr, List.append_nil] at hr
    subst hr
    clear hJ
    exact Wd3
end Go.AW
