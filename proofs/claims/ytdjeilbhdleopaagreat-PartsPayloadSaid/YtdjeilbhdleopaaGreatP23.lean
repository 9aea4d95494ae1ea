/-
  parts of a frame.
-/
import Derived.Test.YtdjeilbhdleopaaGreatChecked
import Derived.Test.YtdjeilbhdleopaaGreatRows
import Derived.JoinedOf
import Derived.Below
import Derived.ProofKit
import Derived.Test.YtdjeilbhdleopaaGreatP22
set_option linter.unusedVariables false
set_option linter.unusedSimpArgs false
set_option maxHeartbeats 4000000
set_option maxRecDepth 10000
namespace Go.AW
open Go Go.Proofs
attribute [local irreducible] thenQ blockQ RetQ AL AW AC AOp
theorem read_F (s : List UInt8) (hs : s.length ≤ 140737488351232) : AC Tryz.prog 101 [.p 0 0, .b 3 0 6] [Cu.ob ⟨s, 0, 0⟩, .box 3 [iv .i64 0], .box 9 [sv (bs s)], .box 186 [sv (bs nMagic), .f (.func 107) [] [], sv (bs nVersion), .f (.func 111) [] [], sv (bs nKind), .f (.func 112) [] [], sv (bs nLength), .f (.func 113) [] [.p 1 0], sv (bs nPayload), .f (.func 115) [] [.p 1 0], sv (bs nSum), .f (.func 117) [] [.p 2 0]]] fun y σ => y = .d (.l (spansr (frp s) ⟨s, 0, 0⟩).1.length (spnsD (spansr (frp s) ⟨s, 0, 0⟩).1)) ∧ σ = [Cu.ob (spansr (frp s) ⟨s, 0, 0⟩).2, .box 3 [iv .i64 (frn s : Nat)], .box 9 [sv (bs s)], .box 186 [sv (bs nMagic), .f (.func 107) [] [], sv (bs nVersion), .f (.func 111) [] [], sv (bs nKind), .f (.func 112) [] [], sv (bs nLength), .f (.func 113) [] [.p 1 0], sv (bs nPayload), .f (.func 115) [] [.p 1 0], sv (bs nSum), .f (.func 117) [] [.p 2 0]]] := by
  refine AC.wk Tryz.func101 ?_
  obtain ⟨R, hR⟩ : ∃ R, spansr (frp s) ⟨s, 0, 0⟩ = R := ⟨_, rfl⟩
  rw [hR]
  have hok0 : Cu.Ok ⟨s, 0, 0⟩ := ⟨hs, Nat.zero_le _⟩
  focus ((repeat' (first | (refine ADr.nil ?_; try clear hgv) | refine GO ?_ | refine AW.ret ?_ | (refine GC ?_ ?_ <;> intro h <;> (try simp only [hsB] at h) <;> try exact xf) | (refine GD ?_ ?_ <;> intro h <;> (try intro hgv) <;> (try simp only [hsN] at h) <;> (try simp only [h]) <;> (try simp only [hsB] at h) <;> try exact xf) | (refine GL ?_ ?_ <;> intro h <;> (try simp only [hsN] at h) <;> (try simp only [h]) <;> (try simp only [hsB] at h) <;> try exact xf) | fail)))
  refine AW.birth 103 3 [5] [] ?_
  refine AW.rounds [0, 4, 5, 9, 10, 11] (fun x : Nat × List Spn × Cu => [(0, .p 0 0), (4, .d (.s (.slice none 0 0))), (5, .o 4 x.2.1.length), (9, .b 3 0 6), (10, iv .i64 6), (11, iv .i64 (x.1 : Nat))]) (fun x => [Cu.ob x.2.2, .box 3 [iv .i64 (if 3 < x.1 then frn s else 0 : Nat)], .box 9 [sv (bs s)], .box 186 [sv (bs nMagic), .f (.func 107) [] [], sv (bs nVersion), .f (.func 111) [] [], sv (bs nKind), .f (.func 112) [] [], sv (bs nLength), .f (.func 113) [] [.p 1 0], sv (bs nPayload), .f (.func 115) [] [.p 1 0], sv (bs nSum), .f (.func 117) [] [.p 2 0]], .row 103 3 x.2.1.length (spnsD x.2.1)])
    (fun x => x.1 ≤ 6 ∧ x.2.1.length = x.1 ∧ x.2.2.Ok ∧ x.2.2 = runs ((frp s).take x.1) ⟨s, 0, 0⟩ ∧ (x.2.1 ++ (spansr ((frp s).drop x.1) x.2.2).1, (spansr ((frp s).drop x.1) x.2.2).2) = R) (fun x => 6 - x.1) (0, [], ⟨s, 0, 0⟩)
    ⟨Nat.zero_le _, rfl, hok0, rfl, hR⟩ rfl rfl (fun _ _ => Nat.le_of_ble_eq_true rfl) (fun _ _ => rfl) (fun _ _ => rfl) ?_
  rintro ⟨i, out, c⟩ ⟨hi, hol, hok, hru, hr⟩ J hJ
  simp only at hi hol hok hru hr ⊢
  have hat := cursor_At c.s c.a c.e
  have hc : i = 0 ∨ i = 1 ∨ i = 2 ∨ i = 3 ∨ i = 4 ∨ i = 5 ∨ i = 6 := by omega
  rcases hc with rfl | rfl | rfl | rfl | rfl | rfl | rfl
  · have hcl := pt_magic c hok
    have hok2 : (mgc 78 (mgc 215 c)).Ok := mgc_ok (mgc_ok hok)
    rw [show (frp s).drop 0 = (nMagic, fun c => mgc 78 (mgc 215 c)) :: (frp s).drop 1 from rfl, spansr_cons] at hr
    simp only at hr
    have hrn : mgc 78 (mgc 215 c) = runs ((frp s).take 1) ⟨s, 0, 0⟩ := by rw [hru]; rfl
    have hz : (mgc 78 (mgc 215 c)).e ≠ 0 → frn s = 0 := fun h => frn_zero (by rw [hrn] at h; have h : (mgc 78 (mgc 215 ⟨s, 0, 0⟩)).e ≠ 0 := h; first | exact h | (rw [byte_stk h]; exact h) | (rw [byte_stk (by rw [fmv_stk h]; exact h), fmv_stk h]; exact h))
    clear hru
    generalize mgc 78 (mgc 215 c) = c1 at *
    have herr := cursor_Err c1.s c1.a c1.e
    have hat2 := cursor_At c1.s c1.a c1.e
    by_cases he : c1.e = 0
    · rw [if_neg (by simpa using he)] at hr
      have go : ∀ T' σ', keepT T' [0, 4, 5, 9, 10, 11] = [(0, .p 0 0), (4, .d (.s (.slice none 0 0))), (5, .o 4 (out.length + 1)), (9, .b 3 0 6), (10, iv .i64 6), (11, iv .i64 1)] → σ'.take 5 = [Cu.ob c1, .box 3 [iv .i64 0], .box 9 [sv (bs s)], .box 186 [sv (bs nMagic), .f (.func 107) [] [], sv (bs nVersion), .f (.func 111) [] [], sv (bs nKind), .f (.func 112) [] [], sv (bs nLength), .f (.func 113) [] [.p 1 0], sv (bs nPayload), .f (.func 115) [] [.p 1 0], sv (bs nSum), .f (.func 117) [] [.p 2 0]], .row 103 3 (out.length + 1) (spnsD out ++ [D.s (.string ⟨(nMagic).toArray⟩), .s (.int .i64 (c.a : Nat)), .s (.int .i64 (c1.a : Nat))])] → J T' σ' := fun T' σ' g1 g2 => by
        have hl : (out ++ [((nMagic : List UInt8), (c.a, c1.a))]).length = out.length + 1 := by simp
        refine hJ (1, out ++ [(nMagic, (c.a, c1.a))], c1) T' σ' (by simp) ⟨by simp, by simp only [hl, hol], hok2, hrn, by rw [← hr]; simp [List.append_assoc]⟩ (by simp only [hl]; exact g1) (by simp only [hl]; rw [spns_snoc]; exact g2)
      clear hJ hr hrn hz
      (have kk1 := uN [0] hat; have kk2 := uN [0] hcl; have kk3 := uN [0] herr; have kk4 := uN [0] hat2; exact Weg)
    · rw [if_pos he] at hr
      simp only [List.append_nil] at hr
      subst hr
      clear hJ hrn
      have hz := hz he
      rw [hz]
      (have kk1 := uN [0] hat; have kk2 := uN [0] hcl; have kk3 := uN [0] herr; exact Wd4)
  · have hcl := pt_ver c hok
    have hok2 : (c.fmv.2).Ok := Cu.fmv_ok hok
    rw [show (frp s).drop 1 = (nVersion, fun c => c.fmv.2) :: (frp s).drop 2 from rfl, spansr_cons] at hr
    simp only at hr
    have hrn : c.fmv.2 = runs ((frp s).take 2) ⟨s, 0, 0⟩ := by rw [hru]; rfl
    have hz : (c.fmv.2).e ≠ 0 → frn s = 0 := fun h => frn_zero (by rw [hrn] at h; have h : (mgc 78 (mgc 215 ⟨s, 0, 0⟩)).fmv.2.e ≠ 0 := h; first | exact h | (rw [byte_stk h]; exact h) | (rw [byte_stk (by rw [fmv_stk h]; exact h), fmv_stk h]; exact h))
    clear hru
    generalize c.fmv.2 = c1 at *
    have herr := cursor_Err c1.s c1.a c1.e
    have hat2 := cursor_At c1.s c1.a c1.e
    by_cases he : c1.e = 0
    · rw [if_neg (by simpa using he)] at hr
      have go : ∀ T' σ', keepT T' [0, 4, 5, 9, 10, 11] = [(0, .p 0 0), (4, .d (.s (.slice none 0 0))), (5, .o 4 (out.length + 1)), (9, .b 3 0 6), (10, iv .i64 6), (11, iv .i64 2)] → σ'.take 5 = [Cu.ob c1, .box 3 [iv .i64 0], .box 9 [sv (bs s)], .box 186 [sv (bs nMagic), .f (.func 107) [] [], sv (bs nVersion), .f (.func 111) [] [], sv (bs nKind), .f (.func 112) [] [], sv (bs nLength), .f (.func 113) [] [.p 1 0], sv (bs nPayload), .f (.func 115) [] [.p 1 0], sv (bs nSum), .f (.func 117) [] [.p 2 0]], .row 103 3 (out.length + 1) (spnsD out ++ [D.s (.string ⟨(nVersion).toArray⟩), .s (.int .i64 (c.a : Nat)), .s (.int .i64 (c1.a : Nat))])] → J T' σ' := fun T' σ' g1 g2 => by
        have hl : (out ++ [((nVersion : List UInt8), (c.a, c1.a))]).length = out.length + 1 := by simp
        refine hJ (2, out ++ [(nVersion, (c.a, c1.a))], c1) T' σ' (by simp) ⟨by simp, by simp only [hl, hol], hok2, hrn, by rw [← hr]; simp [List.append_assoc]⟩ (by simp only [hl]; exact g1) (by simp only [hl]; rw [spns_snoc]; exact g2)
      clear hJ hr hrn hz
      (have kk1 := uN [0] hat; have kk2 := uN [0] hcl; have kk3 := uN [0] herr; have kk4 := uN [0] hat2; exact Weg)
    · rw [if_pos he] at hr
      simp only [List.append_nil] at hr
      subst hr
      clear hJ hrn
      have hz := hz he
      rw [hz]
      (have kk1 := uN [0] hat; have kk2 := uN [0] hcl; have kk3 := uN [0] herr; exact Wd4)
  · have hcl := pt_kind c hok
    have hok2 : (c.byte.2).Ok := Cu.byte_ok hok
    rw [show (frp s).drop 2 = (nKind, fun c => c.byte.2) :: (frp s).drop 3 from rfl, spansr_cons] at hr
    simp only at hr
    have hrn : c.byte.2 = runs ((frp s).take 3) ⟨s, 0, 0⟩ := by rw [hru]; rfl
    have hz : (c.byte.2).e ≠ 0 → frn s = 0 := fun h => frn_zero (by rw [hrn] at h; have h : (mgc 78 (mgc 215 ⟨s, 0, 0⟩)).fmv.2.byte.2.e ≠ 0 := h; first | exact h | (rw [byte_stk h]; exact h) | (rw [byte_stk (by rw [fmv_stk h]; exact h), fmv_stk h]; exact h))
    clear hru
    generalize c.byte.2 = c1 at *
    have herr := cursor_Err c1.s c1.a c1.e
    have hat2 := cursor_At c1.s c1.a c1.e
    by_cases he : c1.e = 0
    · rw [if_neg (by simpa using he)] at hr
      have go : ∀ T' σ', keepT T' [0, 4, 5, 9, 10, 11] = [(0, .p 0 0), (4, .d (.s (.slice none 0 0))), (5, .o 4 (out.length + 1)), (9, .b 3 0 6), (10, iv .i64 6), (11, iv .i64 3)] → σ'.take 5 = [Cu.ob c1, .box 3 [iv .i64 0], .box 9 [sv (bs s)], .box 186 [sv (bs nMagic), .f (.func 107) [] [], sv (bs nVersion), .f (.func 111) [] [], sv (bs nKind), .f (.func 112) [] [], sv (bs nLength), .f (.func 113) [] [.p 1 0], sv (bs nPayload), .f (.func 115) [] [.p 1 0], sv (bs nSum), .f (.func 117) [] [.p 2 0]], .row 103 3 (out.length + 1) (spnsD out ++ [D.s (.string ⟨(nKind).toArray⟩), .s (.int .i64 (c.a : Nat)), .s (.int .i64 (c1.a : Nat))])] → J T' σ' := fun T' σ' g1 g2 => by
        have hl : (out ++ [((nKind : List UInt8), (c.a, c1.a))]).length = out.length + 1 := by simp
        refine hJ (3, out ++ [(nKind, (c.a, c1.a))], c1) T' σ' (by simp) ⟨by simp, by simp only [hl, hol], hok2, hrn, by rw [← hr]; simp [List.append_assoc]⟩ (by simp only [hl]; exact g1) (by simp only [hl]; rw [spns_snoc]; exact g2)
      clear hJ hr hrn hz
      (have kk1 := uN [0] hat; have kk2 := uN [0] hcl; have kk3 := uN [0] herr; have kk4 := uN [0] hat2; exact Weg)
    · rw [if_pos he] at hr
      simp only [List.append_nil] at hr
      subst hr
      clear hJ hrn
      have hz := hz he
      rw [hz]
      (have kk1 := uN [0] hat; have kk2 := uN [0] hcl; have kk3 := uN [0] herr; exact Wd4)
  · have hcl := pt_len c hok 0
    have hok2 : ((c.count 65536).2).Ok := Cu.count_ok hok
    rw [show (frp s).drop 3 = (nLength, fun c => (c.count 65536).2) :: (frp s).drop 4 from rfl, spansr_cons] at hr
    simp only at hr
    have hrn : (c.count 65536).2 = runs ((frp s).take 4) ⟨s, 0, 0⟩ := by rw [hru]; rfl
    have hfn : (c.count 65536).1 = frn s := by rw [hru]; rfl
    rw [hfn] at hcl
    clear hfn
    clear hru
    generalize (c.count 65536).2 = c1 at *
    have herr := cursor_Err c1.s c1.a c1.e
    have hat2 := cursor_At c1.s c1.a c1.e
    by_cases he : c1.e = 0
    · rw [if_neg (by simpa using he)] at hr
      have go : ∀ T' σ', keepT T' [0, 4, 5, 9, 10, 11] = [(0, .p 0 0), (4, .d (.s (.slice none 0 0))), (5, .o 4 (out.length + 1)), (9, .b 3 0 6), (10, iv .i64 6), (11, iv .i64 4)] → σ'.take 5 = [Cu.ob c1, .box 3 [iv .i64 (frn s : Nat)], .box 9 [sv (bs s)], .box 186 [sv (bs nMagic), .f (.func 107) [] [], sv (bs nVersion), .f (.func 111) [] [], sv (bs nKind), .f (.func 112) [] [], sv (bs nLength), .f (.func 113) [] [.p 1 0], sv (bs nPayload), .f (.func 115) [] [.p 1 0], sv (bs nSum), .f (.func 117) [] [.p 2 0]], .row 103 3 (out.length + 1) (spnsD out ++ [D.s (.string ⟨(nLength).toArray⟩), .s (.int .i64 (c.a : Nat)), .s (.int .i64 (c1.a : Nat))])] → J T' σ' := fun T' σ' g1 g2 => by
        have hl : (out ++ [((nLength : List UInt8), (c.a, c1.a))]).length = out.length + 1 := by simp
        refine hJ (4, out ++ [(nLength, (c.a, c1.a))], c1) T' σ' (by simp) ⟨by simp, by simp only [hl, hol], hok2, hrn, by rw [← hr]; simp [List.append_assoc]⟩ (by simp only [hl]; exact g1) (by simp only [hl]; rw [spns_snoc]; exact g2)
      clear hJ hr hrn
      (have kk1 := uN [0] hat; have kk2 := uN [0, 1] hcl; have kk3 := uN [0] herr; have kk4 := uN [0] hat2; exact Weg)
    · rw [if_pos he] at hr
      simp only [List.append_nil] at hr
      subst hr
      clear hJ hrn
      (have kk1 := uN [0] hat; have kk2 := uN [0, 1] hcl; have kk3 := uN [0] herr; exact Wd4)
  · have hcl := pt_pay c hok (frn s)
    have hok2 : ((c.bytes (frn s)).2).Ok := Cu.bytes_ok hok
    rw [show (frp s).drop 4 = (nPayload, fun c => (c.bytes (frn s)).2) :: (frp s).drop 5 from rfl, spansr_cons] at hr
    simp only at hr
    have hrn : (c.bytes (frn s)).2 = runs ((frp s).take 5) ⟨s, 0, 0⟩ := by rw [hru]; rfl
    clear hru
    generalize (c.bytes (frn s)).2 = c1 at *
    have herr := cursor_Err c1.s c1.a c1.e
    have hat2 := cursor_At c1.s c1.a c1.e
    by_cases he : c1.e = 0
    · rw [if_neg (by simpa using he)] at hr
      have go : ∀ T' σ', keepT T' [0, 4, 5, 9, 10, 11] = [(0, .p 0 0), (4, .d (.s (.slice none 0 0))), (5, .o 4 (out.length + 1)), (9, .b 3 0 6), (10, iv .i64 6), (11, iv .i64 5)] → σ'.take 5 = [Cu.ob c1, .box 3 [iv .i64 (frn s : Nat)], .box 9 [sv (bs s)], .box 186 [sv (bs nMagic), .f (.func 107) [] [], sv (bs nVersion), .f (.func 111) [] [], sv (bs nKind), .f (.func 112) [] [], sv (bs nLength), .f (.func 113) [] [.p 1 0], sv (bs nPayload), .f (.func 115) [] [.p 1 0], sv (bs nSum), .f (.func 117) [] [.p 2 0]], .row 103 3 (out.length + 1) (spnsD out ++ [D.s (.string ⟨(nPayload).toArray⟩), .s (.int .i64 (c.a : Nat)), .s (.int .i64 (c1.a : Nat))])] → J T' σ' := fun T' σ' g1 g2 => by
        have hl : (out ++ [((nPayload : List UInt8), (c.a, c1.a))]).length = out.length + 1 := by simp
        refine hJ (5, out ++ [(nPayload, (c.a, c1.a))], c1) T' σ' (by simp) ⟨by simp, by simp only [hl, hol], hok2, hrn, by rw [← hr]; simp [List.append_assoc]⟩ (by simp only [hl]; exact g1) (by simp only [hl]; rw [spns_snoc]; exact g2)
      clear hJ hr hrn
      (have kk1 := uN [0] hat; have kk2 := uN [0, 1] hcl; have kk3 := uN [0] herr; have kk4 := uN [0] hat2; exact Weg)
    · rw [if_pos he] at hr
      simp only [List.append_nil] at hr
      subst hr
      clear hJ hrn
      (have kk1 := uN [0] hat; have kk2 := uN [0, 1] hcl; have kk3 := uN [0] herr; exact Wd4)
  · have hcl := pt_sum c hok s hs
    have hok2 : (sumc (framew s).2.2 c).Ok := sumc_ok _ hok
    rw [show (frp s).drop 5 = (nSum, fun c => sumc (framew s).2.2 c) :: (frp s).drop 6 from rfl, spansr_cons] at hr
    simp only at hr
    have hrn : sumc (framew s).2.2 c = runs ((frp s).take 6) ⟨s, 0, 0⟩ := by rw [hru]; rfl
    clear hru
    generalize sumc (framew s).2.2 c = c1 at *
    have herr := cursor_Err c1.s c1.a c1.e
    have hat2 := cursor_At c1.s c1.a c1.e
    by_cases he : c1.e = 0
    · rw [if_neg (by simpa using he)] at hr
      have go : ∀ T' σ', keepT T' [0, 4, 5, 9, 10, 11] = [(0, .p 0 0), (4, .d (.s (.slice none 0 0))), (5, .o 4 (out.length + 1)), (9, .b 3 0 6), (10, iv .i64 6), (11, iv .i64 6)] → σ'.take 5 = [Cu.ob c1, .box 3 [iv .i64 (frn s : Nat)], .box 9 [sv (bs s)], .box 186 [sv (bs nMagic), .f (.func 107) [] [], sv (bs nVersion), .f (.func 111) [] [], sv (bs nKind), .f (.func 112) [] [], sv (bs nLength), .f (.func 113) [] [.p 1 0], sv (bs nPayload), .f (.func 115) [] [.p 1 0], sv (bs nSum), .f (.func 117) [] [.p 2 0]], .row 103 3 (out.length + 1) (spnsD out ++ [D.s (.string ⟨(nSum).toArray⟩), .s (.int .i64 (c.a : Nat)), .s (.int .i64 (c1.a : Nat))])] → J T' σ' := fun T' σ' g1 g2 => by
        have hl : (out ++ [((nSum : List UInt8), (c.a, c1.a))]).length = out.length + 1 := by simp
        refine hJ (6, out ++ [(nSum, (c.a, c1.a))], c1) T' σ' (by simp) ⟨by simp, by simp only [hl, hol], hok2, hrn, by rw [← hr]; simp [List.append_assoc]⟩ (by simp only [hl]; exact g1) (by simp only [hl]; rw [spns_snoc]; exact g2)
      clear hJ hr hrn
      (have kk1 := uN [0] hat; have kk2 := uN [0, 2] hcl; have kk3 := uN [0] herr; have kk4 := uN [0] hat2; exact Weg)
    · rw [if_pos he] at hr
      simp only [List.append_nil] at hr
      subst hr
      clear hJ hrn
      (have kk1 := uN [0] hat; have kk2 := uN [0, 2] hcl; have kk3 := uN [0] herr; exact Wd4)
  · rw [show (frp s).drop 6 = [] from rfl] at hr
    simp only [spansr, List.append_nil] at hr
    subst hr
    clear hJ hru
    exact Wd4
theorem parts_Frame (s : List UInt8) (hs : s.length ≤ 140737488351232) : AC Tryz.prog 39 [sv (bs s)] [] fun y σ => y = .t [.d (.l (spansr (frp s) ⟨s, 0, 0⟩).1.length (spnsD (spansr (frp s) ⟨s, 0, 0⟩).1)), iv .i64 (framew s).2.2] ∧ σ = [] := by
  refine AC.wk Tryz.func39 ?_
  have hrd := read_F s hs
  have hfe := frp_e s
  have hnew := @cursor_New s
  generalize spansr (frp s) ⟨s, 0, 0⟩ = R at *
  generalize frn s = n at *
  generalize (framew s).2.2 = fe at *
  obtain ⟨sp, c1⟩ := R
  simp only at hrd hfe ⊢
  subst hfe
  have her := @cursor_Err c1.s c1.a c1.e
  (have kk1 := uN [] hnew; have kk2 := uN [1, 2, 0, 3] hrd; have kk3 := uN [1] her; exact Wc0)
end Go.AW
namespace Go.AW
open Go
theorem byte_of {s : List UInt8} {a : Nat} (h : a < s.length) : Cu.byte ⟨s, a, 0⟩ = ((s.getD a 0).toNat, ⟨s, a + 1, 0⟩) := by
  unfold Cu.byte Cu.bytes
  simp only
  rw [if_neg (fun h => h rfl), if_neg (by decide), if_neg (by omega)]
  rw [List.drop_eq_getElem_cons h, show s.getD a 0 = s[a] from by simp [List.getD, List.getElem?_eq_getElem h]]
  rfl
theorem byte_no {s : List UInt8} {a : Nat} (h : s.length ≤ a) : Cu.byte ⟨s, a, 0⟩ = (0, ⟨s, a, 2⟩) := by
  unfold Cu.byte Cu.bytes
  simp only
  rw [if_neg (fun h => h rfl), if_neg (by decide), if_pos (by omega)]
  rfl
theorem mgc_of {s : List UInt8} {a w : Nat} (h : a < s.length) : mgc w ⟨s, a, 0⟩ = if (s.getD a 0).toNat = w then ⟨s, a + 1, 0⟩ else ⟨s, a + 1, 9⟩ := by
  unfold mgc
  rw [byte_of h]
  simp only
  split
  · rename_i h1; rw [decide_eq_true h1]; rfl
  · rename_i h1; rw [decide_eq_false h1]; rfl
theorem mgc_no {s : List UInt8} {a w : Nat} (h : s.length ≤ a) : (mgc w ⟨s, a, 0⟩).e ≠ 0 := by
  unfold mgc
  rw [byte_no h, gd_stuck (by show (2 : Int) ≠ 0; decide)]
  show (2 : Int) ≠ 0; decide
theorem mgc_yes {s : List UInt8} (h : 2 ≤ s.length) (h0 : (s.getD 0 0).toNat = 215) (h1 : (s.getD 1 0).toNat = 78) : mgc 78 (mgc 215 ⟨s, 0, 0⟩) = ⟨s, 2, 0⟩ := by
  rw [mgc_of (by omega), if_pos h0, mgc_of (by omega), if_pos h1]
theorem mgc_bad {s : List UInt8} (h : s.length < 2 ∨ (s.getD 0 0).toNat ≠ 215 ∨ (s.getD 1 0).toNat ≠ 78) : (mgc 78 (mgc 215 ⟨s, 0, 0⟩)).e ≠ 0 := by
  by_cases hl : s.length ≤ 0
  · have h1 : (mgc 215 ⟨s, 0, 0⟩).e ≠ 0 := mgc_no hl
    rw [mgc_stuck h1]; exact h1
  rw [mgc_of (w := 215) (by omega)]
  by_cases h0 : (s.getD 0 0).toNat = 215
  · rw [if_pos h0]
    by_cases hl2 : s.length ≤ 1
    · exact mgc_no hl2
    · rw [mgc_of (by omega), if_neg (by rcases h with h | h | h; omega; exact absurd h0 h; exact h)]
      show (9 : Int) ≠ 0; decide
  · rw [if_neg h0, mgc_stuck (by show (9 : Int) ≠ 0; decide)]
    show (9 : Int) ≠ 0; decide
theorem fmv_yes {s : List UInt8} (h : 3 ≤ s.length) (h0 : (s.getD 2 0).toNat = 1 ∨ (s.getD 2 0).toNat = 2) : (Cu.fmv ⟨s, 2, 0⟩).2 = ⟨s, 3, 0⟩ := by
  unfold Cu.fmv
  rw [byte_of (by omega)]
  simp only
  rw [decide_eq_true h0]; rfl
theorem fmv_bad {s : List UInt8} (h : s.length < 3 ∨ ¬ ((s.getD 2 0).toNat = 1 ∨ (s.getD 2 0).toNat = 2)) : (Cu.fmv ⟨s, 2, 0⟩).2.e ≠ 0 := by
  unfold Cu.fmv
  by_cases hl : s.length ≤ 2
  · rw [byte_no hl, gd_stuck (by show (2 : Int) ≠ 0; decide)]
    show (2 : Int) ≠ 0; decide
  · rw [byte_of (by omega)]
    simp only
    rw [decide_eq_false (by rcases h with h | h; omega; exact h)]
    show (10 : Int) ≠ 0; decide
theorem fr0 {s : List UInt8} (h : (mgc 78 (mgc 215 ⟨s, 0, 0⟩)).e ≠ 0) : (spansr (frp s) ⟨s, 0, 0⟩).1 = [] := by
  unfold frp
  rw [spansr_cons]
  simp only
  rw [if_pos h]
section
variable {s : List UInt8} (m : mgc 78 (mgc 215 ⟨s, 0, 0⟩) = ⟨s, 2, 0⟩)
include m
theorem fr1 (h : (Cu.fmv ⟨s, 2, 0⟩).2.e ≠ 0) : (spansr (frp s) ⟨s, 0, 0⟩).1 = [(nMagic, (0, 2))] := by
  unfold frp
  rw [spansr_cons]
  simp only
  rw [m, if_neg (fun h => h rfl), spansr_cons]
  simp only
  rw [if_pos h]
variable (v : (Cu.fmv ⟨s, 2, 0⟩).2 = ⟨s, 3, 0⟩)
include v
theorem fr2 (h : s.length < 4) : (spansr (frp s) ⟨s, 0, 0⟩).1 = [(nMagic, (0, 2)), (nVersion, (2, 3))] := by
  unfold frp
  rw [spansr_cons]
  simp only
  rw [m, if_neg (fun h => h rfl), spansr_cons]
  simp only
  rw [v, if_neg (fun h => h rfl), spansr_cons]
  simp only
  rw [byte_no (by omega), if_pos (by show (2 : Int) ≠ 0; decide)]
variable (h4 : 4 ≤ s.length)
include h4
theorem frn_eq : frn s = (Cu.count ⟨s, 4, 0⟩ 65536).1 := by
  unfold frn
  rw [m, v, byte_of (by omega)]
theorem fr3 (h : (Cu.count ⟨s, 4, 0⟩ 65536).2.e ≠ 0) : (spansr (frp s) ⟨s, 0, 0⟩).1 = [(nMagic, (0, 2)), (nVersion, (2, 3)), (nKind, (3, 4))] := by
  unfold frp
  rw [spansr_cons]
  simp only
  rw [m, if_neg (fun h => h rfl), spansr_cons]
  simp only
  rw [v, if_neg (fun h => h rfl), spansr_cons]
  simp only
  rw [byte_of (by omega), if_neg (fun h => h rfl), spansr_cons]
  simp only
  rw [if_pos h]
variable {n : Nat} {c4 : Cu} (c : Cu.count ⟨s, 4, 0⟩ 65536 = (n, c4)) (e4 : c4.e = 0)
include c e4
theorem fr4 (h : (Cu.bytes c4 n).2.e ≠ 0) : (spansr (frp s) ⟨s, 0, 0⟩).1 = [(nMagic, (0, 2)), (nVersion, (2, 3)), (nKind, (3, 4)), (nLength, (4, c4.a))] := by
  have hn := frn_eq m v h4
  rw [c] at hn
  unfold frp
  rw [spansr_cons]
  simp only
  rw [m, if_neg (fun h => h rfl), spansr_cons]
  simp only
  rw [v, if_neg (fun h => h rfl), spansr_cons]
  simp only
  rw [byte_of (by omega), if_neg (fun h => h rfl), spansr_cons]
  simp only
  rw [c, if_neg (by simpa using e4), spansr_cons]
  simp only
  rw [hn, if_pos h]
theorem fr5 (h : (Cu.bytes c4 n).2.e = 0) : (spansr (frp s) ⟨s, 0, 0⟩).1 = [(nMagic, (0, 2)), (nVersion, (2, 3)), (nKind, (3, 4)), (nLength, (4, c4.a)), (nPayload, (c4.a, (Cu.bytes c4 n).2.a))] ++ (if (framew s).2.2 = 0 then [(nSum, ((Cu.bytes c4 n).2.a, (Cu.bytes c4 n).2.a + 4))] else []) := by
  have hn := frn_eq m v h4
  rw [c] at hn
  have hfe := frp_e s
  unfold frp at hfe ⊢
  rw [spansr_cons] at hfe ⊢
  simp only at hfe ⊢
  rw [m, if_neg (fun h => h rfl), spansr_cons] at hfe ⊢
  simp only at hfe ⊢
  rw [v, if_neg (fun h => h rfl), spansr_cons] at hfe ⊢
  simp only at hfe ⊢
  rw [byte_of (by omega), if_neg (fun h => h rfl), spansr_cons] at hfe ⊢
  simp only at hfe ⊢
  rw [c, if_neg (by simpa using e4), spansr_cons] at hfe ⊢
  simp only at hfe ⊢
  rw [hn, if_neg (by simpa using h), spansr_cons] at hfe ⊢
  simp only [spansr] at hfe ⊢
  by_cases hs : (framew s).2.2 = 0
  · rw [if_pos hs]
    rw [hs] at hfe ⊢
    by_cases h6 : (sumc 0 (Cu.bytes c4 n).2).e = 0
    · rw [if_neg (by simpa using h6)]
      unfold sumc at h6 ⊢
      rw [if_pos rfl] at h6 ⊢
      have ha : (Cu.bytes (Cu.bytes c4 n).2 4).2.a = (Cu.bytes c4 n).2.a + 4 := by
        generalize (Cu.bytes c4 n).2 = q at *
        unfold Cu.bytes at h6 ⊢
        rw [if_neg (by simpa using h), if_neg (by decide)] at h6 ⊢
        split at h6
        · exact absurd h6 (by show ¬ (2 : Int) = 0; decide)
        · rename_i h7; rw [if_neg h7]; rfl
      rw [ha]; rfl
    · rw [if_pos h6] at hfe
      exact absurd hfe h6
  · rw [if_neg hs]
    by_cases h6 : (sumc (framew s).2.2 (Cu.bytes c4 n).2).e = 0
    · rw [if_neg (by simpa using h6)] at hfe
      rw [h6] at hfe
      exact absurd hfe.symm hs
    · rw [if_pos h6]; rfl
end
end Go.AW
namespace Go.AW
open Go Go.Proofs
attribute [local irreducible] thenQ blockQ RetQ AL AW AC AOp
theorem ref31_Frame (s : List UInt8) (hs : s.length ≤ 140737488351232) : AC Tryz.prog 40 [sv (bs s)] [] fun y σ => y = .t [.d (.l (spansr (frp s) ⟨s, 0, 0⟩).1.length (spnsD (spansr (frp s) ⟨s, 0, 0⟩).1)), iv .i64 (framew s).2.2] ∧ σ = [] := by
  have hde := ref07_Decode s hs
  have q0 := @fr0 s
  have q1 := @fr1 s
  have q2 := @fr2 s
  have q3 := @fr3 s
  have q4 := @fr4 s
  have q5 := @fr5 s
  obtain ⟨R, hR⟩ : ∃ R, (spansr (frp s) ⟨s, 0, 0⟩).1 = R := ⟨_, rfl⟩
  rw [hR] at q0 q1 q2 q3 q4 q5 ⊢
  clear hR
  obtain ⟨fe, hfe⟩ : ∃ fe, (framew s).2.2 = fe := ⟨_, rfl⟩
  rw [hfe] at hde q5 ⊢
  generalize (framew s).1 = fm at *
  generalize (framew s).2.1 = fn at *
  clear hfe
  by_cases hm : s.length < 2 ∨ (s.getD 0 0).toNat ≠ 215 ∨ (s.getD 1 0).toNat ≠ 78
  · have hr := q0 (mgc_bad hm)
    subst hr
    clear q0 q1 q2 q3 q4 q5
    refine AC.nzret ?_
    refine AC.wk Tryz.func40 ?_
    by_cases h2 : s.length < 2
    · focus (have kxs := h2; have kk1 := uN [] hde; (repeat' (first | (refine ADr.nil ?_; try clear hgv) | refine GO ?_ | refine AW.ret ?_ | (refine GC ?_ ?_ <;> intro h <;> (try simp only [hsB] at h) <;> try exact xf) | (refine GD ?_ ?_ <;> intro h <;> (try intro hgv) <;> (try simp only [hsN] at h) <;> (try simp only [h]) <;> (try simp only [hsB] at h) <;> try exact xf) | (refine GL ?_ ?_ <;> intro h <;> (try simp only [hsN] at h) <;> (try simp only [h]) <;> (try simp only [hsB] at h) <;> try exact xf) | fail)); all_goals clear kxs kk1)
      all_goals first | exact RetQ.r (xs := [.d (.s (.slice none 0 0)), iv .i64 fe]) 0 rfl (Nat.le_of_ble_eq_true rfl) rfl rfl ⟨rfl, rfl⟩ | exact xg
    · have hg : (s.getD 0 0).toNat ≠ 215 ∨ (s.getD 1 0).toNat ≠ 78 := by omega
      by_cases h3 : (s.getD 0 0).toNat = 215
      · have h4 : ¬ (((s.getD 1 0).toNat : Nat) : Int) = 78 := by omega
        have h5 : (((s.getD 0 0).toNat : Nat) : Int) = 215 := by omega
        focus (have kxs := And.intro h2 (And.intro h4 h5); have kk1 := uN [] hde; (repeat' (first | (refine ADr.nil ?_; try clear hgv) | refine GO ?_ | refine AW.ret ?_ | (refine GC ?_ ?_ <;> intro h <;> (try simp only [hsB] at h) <;> try exact xf) | (refine GD ?_ ?_ <;> intro h <;> (try intro hgv) <;> (try simp only [hsN] at h) <;> (try simp only [h]) <;> (try simp only [hsB] at h) <;> try exact xf) | (refine GL ?_ ?_ <;> intro h <;> (try simp only [hsN] at h) <;> (try simp only [h]) <;> (try simp only [hsB] at h) <;> try exact xf) | fail)); all_goals clear kxs kk1)
        all_goals first | exact RetQ.r (xs := [.d (.s (.slice none 0 0)), iv .i64 fe]) 0 rfl (Nat.le_of_ble_eq_true rfl) rfl rfl ⟨rfl, rfl⟩ | exact xg
      · have h5 : ¬ (((s.getD 0 0).toNat : Nat) : Int) = 215 := by omega
        focus (have kxs := And.intro h2 h5; have kk1 := uN [] hde; (repeat' (first | (refine ADr.nil ?_; try clear hgv) | refine GO ?_ | refine AW.ret ?_ | (refine GC ?_ ?_ <;> intro h <;> (try simp only [hsB] at h) <;> try exact xf) | (refine GD ?_ ?_ <;> intro h <;> (try intro hgv) <;> (try simp only [hsN] at h) <;> (try simp only [h]) <;> (try simp only [hsB] at h) <;> try exact xf) | (refine GL ?_ ?_ <;> intro h <;> (try simp only [hsN] at h) <;> (try simp only [h]) <;> (try simp only [hsB] at h) <;> try exact xf) | fail)); all_goals clear kxs kk1)
        all_goals first | exact RetQ.r (xs := [.d (.s (.slice none 0 0)), iv .i64 fe]) 0 rfl (Nat.le_of_ble_eq_true rfl) rfl rfl ⟨rfl, rfl⟩ | exact xg
  refine AC.wk Tryz.func40 ?_
  have hl2 : 2 ≤ s.length := by omega
  have g0 : (((s.getD 0 0).toNat : Nat) : Int) = 215 := by omega
  have g1 : (((s.getD 1 0).toNat : Nat) : Int) = 78 := by omega
  have m := mgc_yes hl2 (by omega) (by omega)
  replace q1 := q1 m
  replace q2 := q2 m
  replace q3 := q3 m
  replace q4 := q4 m
  replace q5 := q5 m
  clear q0 m hm
  by_cases hv : s.length < 3 ∨ ¬ ((s.getD 2 0).toNat = 1 ∨ (s.getD 2 0).toNat = 2)
  · have hr := q1 (fmv_bad hv)
    subst hr
    clear q1 q2 q3 q4 q5
    by_cases h3 : s.length < 3
    · (have kxs := And.intro g0 (And.intro g1 h3); have kk1 := uN [] hde; exact Wd0)
    · have h4 : ¬ (((s.getD 2 0).toNat : Nat) : Int) = 1 := by omega
      have h5 : ¬ (((s.getD 2 0).toNat : Nat) : Int) = 2 := by omega
      (have kxs := And.intro g0 (And.intro g1 (And.intro h3 (And.intro h4 h5))); have kk1 := uN [] hde; exact Wd0)
  have hl3 : 3 ≤ s.length := by omega
  have hv2 : (((s.getD 2 0).toNat : Nat) : Int) = 1 ∨ (((s.getD 2 0).toNat : Nat) : Int) = 2 := by omega
  have v := fmv_yes hl3 (by omega)
  replace q2 := q2 v
  replace q3 := q3 v
  replace q4 := q4 v
  replace q5 := q5 v
  clear q1 v hv
  have h3 : ¬ s.length < 3 := by omega
  by_cases h4 : s.length < 4
  · have hr := q2 h4
    subst hr
    clear q2 q3 q4 q5
    rcases hv2 with hv2 | hv2
    · (have kxs := And.intro g0 (And.intro g1 (And.intro h3 hv2)); have kk1 := uN [] hde; exact Wd0)
    · have hv3 : ¬ (((s.getD 2 0).toNat : Nat) : Int) = 1 := by omega
      (have kxs := And.intro g0 (And.intro g1 (And.intro h3 (And.intro hv2 hv3))); have kk1 := uN [] hde; exact Wd0)
  have h4' : 4 ≤ s.length := by omega
  replace q3 := q3 h4'
  replace q4 := @q4 h4'
  replace q5 := @q5 h4'
  clear q2
  have hok4 : Cu.Ok ⟨s, 4, 0⟩ := ⟨hs, h4'⟩
  have hco := ref06_Count s 4 0 65536 hok4 (by decide)
  simp only [Cu.ro] at hco
  rw [show ((4 : Nat) : Int) = 4 from rfl] at hco
  have hok5 : (Cu.count ⟨s, 4, 0⟩ 65536).2.Ok := Cu.count_ok hok4
  generalize Cu.count ⟨s, 4, 0⟩ 65536 = z at *
  obtain ⟨n, c4⟩ := z
  simp only at hco hok5 q3
  replace q4 := q4 rfl
  replace q5 := q5 rfl
  by_cases e4 : c4.e = 0
  case neg =>
    have hr := q3 e4
    subst hr
    clear q3 q4 q5
    rcases hv2 with hv2 | hv2
    · (have kxs := And.intro g0 (And.intro g1 (And.intro h3 (And.intro hv2 e4))); have kk1 := uN [] hde; have kk2 := uN [1] hco; exact Wd0)
    · have hv3 : ¬ (((s.getD 2 0).toNat : Nat) : Int) = 1 := by omega
      (have kxs := And.intro g0 (And.intro g1 (And.intro h3 (And.intro hv2 (And.intro hv3 e4)))); have kk1 := uN [] hde; have kk2 := uN [1] hco; exact Wd0)
  replace q4 := q4 e4
  replace q5 := q5 e4
  clear q3
  have hby := ref01_Bytes c4.s c4.a c4.e (n : Int) hok5
  rw [show Cu.bytes ⟨c4.s, c4.a, c4.e⟩ (n : Int) = Cu.bytes c4 n from rfl] at hby
  have hok6 := Cu.bytes_ok (n := (n : Int)) hok5
  generalize Cu.bytes c4 n = z at *
  obtain ⟨t, c5⟩ := z
  simp only at hby q4 q5 hok6
  by_cases e5 : c5.e = 0
  case neg =>
    have hr := q4 e5
    subst hr
    clear q4 q5
    rcases hv2 with hv2 | hv2
    · (have kxs := And.intro g0 (And.intro g1 (And.intro h3 (And.intro hv2 e5))); have kk1 := uN [] hde; have kk2 := uN [1] hco; have kk3 := uN [1] hby; exact Wd0)
    · have hv3 : ¬ (((s.getD 2 0).toNat : Nat) : Int) = 1 := by omega
      (have kxs := And.intro g0 (And.intro g1 (And.intro h3 (And.intro hv2 (And.intro hv3 e5)))); have kk1 := uN [] hde; have kk2 := uN [1] hco; have kk3 := uN [1] hby; exact Wd0)
  have hr := q5 e5
  clear q4 q5
  by_cases hf : fe = 0
  · rw [if_pos hf] at hr
    subst hf
    have hr : R = [(nMagic, (0, 2)), (nVersion, (2, 3)), (nKind, (3, 4)), (nLength, (4, c4.a)), (nPayload, (c4.a, c5.a)), (nSum, (c5.a, c5.a + 4))] := hr
    obtain ⟨d, hd⟩ : ∃ d : Nat, c5.a + 4 = d := ⟨_, rfl⟩
    rw [hd] at hr
    have hd2 : (c5.a : Int) + 4 = (d : Int) := by omega
    have hdb : (d : Int) ≤ 140737488351300 := by have z1 := hok6.1; have z2 := hok6.2; omega
    subst hr
    rcases hv2 with hv2 | hv2
    · (have kxs := And.intro g0 (And.intro g1 (And.intro h3 (And.intro hv2 hd2))); have kk1 := uN [] hde; have kk2 := uN [1] hco; have kk3 := uN [1] hby; exact We0)
    · have hv3 : ¬ (((s.getD 2 0).toNat : Nat) : Int) = 1 := by omega
      (have kxs := And.intro g0 (And.intro g1 (And.intro h3 (And.intro hv2 (And.intro hv3 hd2)))); have kk1 := uN [] hde; have kk2 := uN [1] hco; have kk3 := uN [1] hby; exact We0)
  · rw [if_neg hf] at hr
    have hr : R = [(nMagic, (0, 2)), (nVersion, (2, 3)), (nKind, (3, 4)), (nLength, (4, c4.a)), (nPayload, (c4.a, c5.a))] := hr
    subst hr
    rcases hv2 with hv2 | hv2
    · (have kxs := And.intro g0 (And.intro g1 (And.intro h3 (And.intro hv2 hf))); have kk1 := uN [] hde; have kk2 := uN [1] hco; have kk3 := uN [1] hby; exact Wd0)
    · have hv3 : ¬ (((s.getD 2 0).toNat : Nat) : Int) = 1 := by omega
      (have kxs := And.intro g0 (And.intro g1 (And.intro h3 (And.intro hv2 (And.intro hv3 hf)))); have kk1 := uN [] hde; have kk2 := uN [1] hco; have kk3 := uN [1] hby; exact Wd0)
theorem spansr_len : ∀ (l : List Prd) (c : Cu), (spansr l c).1.length ≤ l.length
  | [], c => Nat.le_refl _
  | x :: l, c => by
    rw [spansr_cons]
    split
    · exact Nat.zero_le _
    · exact Nat.succ_le_succ (spansr_len l _)
theorem partw_len (v k : Nat) (s : List UInt8) : (partw v k s).1.length ≤ 1000 := by
  unfold partw
  split
  · exact Nat.zero_le _
  split
  · exact Nat.zero_le _
  refine Nat.le_trans (spansr_len _ _) ?_
  have h : ∀ f, (kparts v k f).length ≤ 5 := by
    intro f
    unfold kparts
    split
    case h_2 => cases f <;> simp
    all_goals simp
  have := h (Cu.flag (Cu.vtake ⟨s, 0, 0⟩).2).1
  show (kparts v k _).length + 1 ≤ 1000
  omega
theorem ref31_SameR (l : List Spn) (hl : l.length ≤ 1000000) : AC Tryz.prog 41 [.d (.l l.length (spnsD l)), .d (.l l.length (spnsD l))] [] fun x σ => x = bv true ∧ σ = [] := by
  have h := ref31_Same (l.map upS) (l.map upS) (by rw [List.length_map]; exact hl)
  rw [List.length_map, decide_eq_true rfl] at h
  exact h
theorem partsPayload (v k : Nat) (hv : v < 256) (hk : k < 256) (s : List UInt8) (hs : s.length ≤ 9223372036854775807) : AC Tryz.prog 8 [iv .u8 (v : Nat), iv .u8 (k : Nat), sv (bs s)] [] fun x σ => x = bv true ∧ σ = [] := by
  refine AC.wk Tryz.func8 ?_
  by_cases h3 : s.length ≤ 5000
  case neg =>
    (have kk1 := uN [] awake31; exact Wc0)
  have hp := parts_Payload v k hv hk s (by omega)
  have hq := ref31_Payload v k hv hk s (by omega)
  have hf := parts_Frame s (by omega)
  have hg := ref31_Frame s (by omega)
  have hs1 := ref31_SameR (partw v k s).1 (Nat.le_trans (partw_len v k s) (by decide))
  have hs2 := ref31_SameR (spansr (frp s) ⟨s, 0, 0⟩).1 (Nat.le_trans (spansr_len _ _) (by show 6 ≤ 1000000; decide))
  generalize partw v k s = z at *
  obtain ⟨sp, e⟩ := z
  generalize (spansr (frp s) ⟨s, 0, 0⟩).1 = sq at *
  generalize (framew s).2.2 = e2 at *
  simp only at hp hq hs1
  (have kk1 := uN [] awake31; have kk2 := uN [] hp; have kk3 := uN [] hq; have kk4 := uN [] hf; have kk5 := uN [] hg; have kk6 := uN [] hs1; have kk7 := uN [] hs2; exact Wc0)
theorem partsPayloadI (v k : Int) (hv : 0 ≤ v ∧ v ≤ 255) (hk : 0 ≤ k ∧ k ≤ 255) (s : List UInt8) (hs : s.length ≤ 9223372036854775807) : AC Tryz.prog 8 [iv .u8 v, iv .u8 k, sv (bs s)] [] fun x σ => x = bv true ∧ σ = [] := by
  obtain ⟨v, rfl⟩ := Int.eq_ofNat_of_zero_le hv.1
  obtain ⟨k, rfl⟩ := Int.eq_ofNat_of_zero_le hk.1
  exact partsPayload v k (by omega) (by omega) s hs
end Go.AW
