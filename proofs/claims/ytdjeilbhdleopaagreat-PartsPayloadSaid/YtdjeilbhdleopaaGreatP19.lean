/-
  the document's parts of a payload, of each kind.
-/
import Derived.Laws.LoneSync
import Derived.Test.YtdjeilbhdleopaaGreatP18
set_option linter.unusedVariables false
set_option linter.unusedSimpArgs false
set_option maxHeartbeats 4000000
set_option maxRecDepth 10000
namespace Go.AW
open Go Go.Proofs
attribute [local irreducible] thenQ blockQ RetQ AL AW AC AOp
theorem R31_Id : R31 (nId, fun c => c.vtake.2) := fun c hok => ⟨Cu.vtake_ok hok, false, r31_Id c hok⟩
theorem R31_Key : R31 (nKey, fun c => c.okey.2) := fun c hok => ⟨gd_ok (Cu.blob_ok hok), false, r31_Key c hok⟩
theorem R31_Ctx : R31 (nCtx, fun c => c.vec.2) := fun c hok => ⟨Cu.vec_ok hok, false, r31_Ctx c hok⟩
theorem R31_Meta : R31 (nMeta, fun c => c.prs.2) := fun c hok => ⟨Cu.prs_ok hok, false, r31_Meta c hok⟩
theorem R31_Dead : R31 (nDead, fun c => c.flag.2) := fun c hok => ⟨Cu.flag_ok hok, _, r31_Dead c hok⟩
theorem R31_Value : R31 (nValue, fun c => (c.blob 32768).2) := fun c hok => ⟨Cu.blob_ok hok, false, r31_Value c hok⟩
theorem R31_Prefix : R31 (nPrefix, fun c => (c.blob 31).2) := fun c hok => ⟨Cu.blob_ok hok, false, r31_Prefix c hok⟩
theorem R31_Page : R31 (nPage, fun c => c.page.2) := fun c hok => ⟨Cu.page_ok hok, false, r31_Page c hok⟩
theorem R31_Ring : R31 (nRing, fun c => c.ring.2) := fun c hok => ⟨Cu.ring_ok hok, false, r31_Ring c hok⟩
theorem R31_Code : R31 (nCode, fun c => (c.count 255).2) := fun c hok => ⟨Cu.count_ok hok, false, r31_Code c hok⟩
theorem R31_Text : R31 (nText, fun c => (c.blob 64).2) := fun c hok => ⟨Cu.blob_ok hok, false, r31_Text c hok⟩
theorem R31_Object : R31 (nObject, fun c => (c.blob 65536).2) := fun c hok => ⟨Cu.blob_ok hok, false, r31_Object c hok⟩
theorem r31_pay2 (v : Nat) (hv : v = 1 ∨ v = 2) (hh : AC Tryz.prog 103 [iv .u8 (v : Nat), iv .u8 2] [] fun y σ => y = bv true ∧ σ = []) (s : List UInt8) (hs : s.length ≤ 140737488351232) :
    AC Tryz.prog 38 [iv .u8 (v : Nat), iv .u8 2, sv (bs s)] [] fun y σ => y = .t [.d (.l (spansr (pparts v 2 ⟨s, 0, 0⟩) ⟨s, 0, 0⟩).1.length (spnsD (spansr (pparts v 2 ⟨s, 0, 0⟩) ⟨s, 0, 0⟩).1)), iv .i64 (spansr (pparts v 2 ⟨s, 0, 0⟩) ⟨s, 0, 0⟩).2.fin.e] ∧ σ = [] := by
  refine AC.wk Tryz.func38 ?_
  have hv1 : ((v : Nat) : Int) = 1 ∨ ((v : Nat) : Int) = 2 := by omega
  focus (have kxs : 987654322 = 987654321 + 1 := rfl; have kk1 := uN [] (hh); (repeat' ((fail_if_success (change AL _ _ _ _ (Oper.mk (some 28) _ _ _ _ _ :: _) _ _ _)); first | (refine ADr.nil ?_; try clear hgv) | refine GO ?_ | refine AW.ret ?_ | (refine GC ?_ ?_ <;> intro h <;> (try simp only [hsB] at h) <;> try exact xf) | (refine GD ?_ ?_ <;> intro h <;> (try intro hgv) <;> (try simp only [hsN] at h) <;> (try simp only [h]) <;> (try simp only [hsB] at h) <;> try exact xf) | (refine GL ?_ ?_ <;> intro h <;> (try simp only [hsN] at h) <;> (try simp only [h]) <;> (try simp only [hsB] at h) <;> try exact xf) | fail)); all_goals clear kxs kk1)
  all_goals first | (exfalso; omega) | skip
  all_goals
    refine AL.call (by decide) fun K hK => ?_
    refine AOp.buildB 9 1 16 [sv (bs nId)] (by kernel_rfl) rfl (by decide) rfl ?_
    refine hK _ _ ?_
    clear hK K
    focus (have kxs : 987654322 = 987654321 + 1 := rfl; have kk1 := uN [] (names_2); (repeat' ((fail_if_success (change AL _ _ _ _ (Oper.mk (some 31) _ _ _ _ _ :: _) _ _ _)); first | (refine ADr.nil ?_; try clear hgv) | refine GO ?_ | refine AW.ret ?_ | (refine GC ?_ ?_ <;> intro h <;> (try simp only [hsB] at h) <;> try exact xf) | (refine GD ?_ ?_ <;> intro h <;> (try intro hgv) <;> (try simp only [hsN] at h) <;> (try simp only [h]) <;> (try simp only [hsB] at h) <;> try exact xf) | (refine GL ?_ ?_ <;> intro h <;> (try simp only [hsN] at h) <;> (try simp only [h]) <;> (try simp only [hsB] at h) <;> try exact xf) | fail)); all_goals clear kxs kk1)
    refine AL.call (by decide) fun K hK => ?_
    refine AOp.appD (e := 9) (sz := 1) (by_ := 16) (cs2 := [sv (bs nId), sv (bs nFound), sv (bs nObject)]) rfl (by kernel_rfl) (by kernel_rfl) rfl rfl (by decide) (by decide) (by decide) (by decide) rfl ?_
    refine hK _ _ ?_
    clear hK K
    obtain ⟨R, hR⟩ : ∃ R, spansr (pparts v 2 ⟨s, 0, 0⟩) ⟨s, 0, 0⟩ = R := ⟨_, rfl⟩
    rw [hR]
    have hok0 : Cu.Ok ⟨s, 0, 0⟩ := ⟨hs, Nat.zero_le _⟩
    clear hh
    focus ((repeat' (first | (refine ADr.nil ?_; try clear hgv) | refine GO ?_ | refine AW.ret ?_ | (refine GC ?_ ?_ <;> intro h <;> (try simp only [hsB] at h) <;> try exact xf) | (refine GD ?_ ?_ <;> intro h <;> (try intro hgv) <;> (try simp only [hsN] at h) <;> (try simp only [h]) <;> (try simp only [hsB] at h) <;> try exact xf) | (refine GL ?_ ?_ <;> intro h <;> (try simp only [hsN] at h) <;> (try simp only [h]) <;> (try simp only [hsB] at h) <;> try exact xf) | fail)))
    refine AW.birth 103 3 [9] [] ?_
    refine AW.rounds [0, 1, 6, 7, 8, 9, 10, 11, 12] (fun x : (Nat × Bool) × (List Spn × Cu) => [(0, iv .u8 (v : Nat)), (1, iv .u8 2), (6, .d (.s (.slice none 0 0))), (7, iv .i64 0), (8, .p 0 0), (9, .o 3 x.2.1.length), (10, .g 2 3), (11, bv x.1.2), (12, iv .i64 (x.1.1 : Nat))]) (fun x => [Cu.ro x.2.2, .box 9 [sv (bs nId)], .box 9 [sv (bs nId), sv (bs nFound), sv (bs nObject)], .row 103 3 x.2.1.length (spnsD x.2.1)])
      (fun x => x.2.1.length = x.1.1 ∧ x.2.2.Ok ∧ ((x.1.1 = 0 ∧ (x.2.1 ++ (spansr (pparts v 2 x.2.2) x.2.2).1, (spansr (pparts v 2 x.2.2) x.2.2).2) = R) ∨ (x.1.1 = 1 ∧ (x.2.1 ++ (spansr (kparts v 2 x.2.2.flag.1) x.2.2).1, (spansr (kparts v 2 x.2.2.flag.1) x.2.2).2) = R) ∨ (x.1.1 = 2 ∧ (x.2.1 ++ (spansr ((kparts v 2 x.1.2).drop 1) x.2.2).1, (spansr ((kparts v 2 x.1.2).drop 1) x.2.2).2) = R) ∨ (x.1.1 = 3 ∧ (x.2.1, x.2.2) = R))) (fun x => 3 - x.1.1) ((0, true), ([], ⟨s, 0, 0⟩))
      ⟨rfl, hok0, .inl ⟨rfl, hR⟩⟩ rfl rfl (fun _ _ => Nat.le_of_ble_eq_true rfl) (fun _ _ => by simp [obsLt, Ob.lt, lts, V.lt]) (fun _ _ => rfl) ?_
    clear hR
    rintro ⟨⟨i, f⟩, out, c⟩ ⟨hol, hok, hi⟩ J hJ
    simp only at hol hok hi ⊢
    rcases hi with ⟨rfl, hr⟩ | ⟨rfl, hr⟩ | ⟨rfl, hr⟩ | ⟨rfl, hr⟩
    · have hok2 : (Cu.vtake c).2.Ok := Cu.vtake_ok hok
      obtain ⟨b, hb⟩ : ∃ b, b = false := ⟨_, rfl⟩
      have hrx := r31_Id c hok
      rw [← hb] at hrx
      have hp : pparts v 2 c = (nId, fun c => (Cu.vtake c).2) :: kparts v 2 (Cu.vtake c).2.flag.1 := rfl
      rw [hp, spansr_cons] at hr
      simp only at hr
      clear hp hb
      obtain ⟨c1, hc1⟩ : ∃ q, (Cu.vtake c).2 = q := ⟨_, rfl⟩
      rw [hc1] at hr hrx hok2
      clear hc1
      by_cases he : c1.e = 0
      · rw [if_neg (by simpa using he)] at hr
        have go : ∀ T' σ', keepT T' [0, 1, 6, 7, 8, 9, 10, 11, 12] = [(0, iv .u8 (v : Nat)), (1, iv .u8 2), (6, .d (.s (.slice none 0 0))), (7, iv .i64 0), (8, .p 0 0), (9, .o 3 (out.length + 1)), (10, .g 2 3), (11, bv b), (12, iv .i64 1)] → σ'.take 4 = [Cu.ro c1, .box 9 [sv (bs nId)], .box 9 [sv (bs nId), sv (bs nFound), sv (bs nObject)], .row 103 3 (out.length + 1) (spnsD out ++ [D.s (.string ⟨(nId).toArray⟩), .s (.int .i64 (c.a : Nat)), .s (.int .i64 (c1.a : Nat))])] → J T' σ' := fun T' σ' g1 g2 => by
          have hl : (out ++ [((nId : List UInt8), (c.a, c1.a))]).length = out.length + 1 := by simp
          refine hJ ((1, b), (out ++ [(nId, (c.a, c1.a))], c1)) T' σ' (by simp) ⟨by simp only [hl, hol], hok2, .inr (.inl ⟨rfl, by rw [← hr]; simp [List.append_assoc]⟩)⟩ (by simp only [hl]; exact g1) (by simp only [hl]; rw [spns_snoc]; exact g2)
        clear hJ hr
        (have kxs := @Nat.mul_one; have kk1 := uN [0] hrx; exact Weg)
      · rw [if_pos he] at hr
        simp only [List.append_nil] at hr
        subst hr
        clear hJ
        have hfe : (Cu.fin c1).e = c1.e := by unfold Cu.fin; rw [if_neg (fun h => he h.1)]
        simp only [hfe]
        (have kxs := he; have kk1 := uN [0] hrx; exact We0)
    · have hok2 : (Cu.flag c).2.Ok := Cu.flag_ok hok
      have hrx := r31_Found c hok
      rw [show kparts v 2 (Cu.flag c).1 = (nFound, fun c => (Cu.flag c).2) :: (kparts v 2 (Cu.flag c).1).drop 1 from rfl, spansr_cons] at hr
      simp only at hr
      generalize (Cu.flag c).1 = b at *
      obtain ⟨c1, hc1⟩ : ∃ q, (Cu.flag c).2 = q := ⟨_, rfl⟩
      rw [hc1] at hr hrx hok2
      clear hc1
      by_cases he : c1.e = 0
      · rw [if_neg (by simpa using he)] at hr
        have go : ∀ T' σ', keepT T' [0, 1, 6, 7, 8, 9, 10, 11, 12] = [(0, iv .u8 (v : Nat)), (1, iv .u8 2), (6, .d (.s (.slice none 0 0))), (7, iv .i64 0), (8, .p 0 0), (9, .o 3 (out.length + 1)), (10, .g 2 3), (11, bv b), (12, iv .i64 2)] → σ'.take 4 = [Cu.ro c1, .box 9 [sv (bs nId)], .box 9 [sv (bs nId), sv (bs nFound), sv (bs nObject)], .row 103 3 (out.length + 1) (spnsD out ++ [D.s (.string ⟨(nFound).toArray⟩), .s (.int .i64 (c.a : Nat)), .s (.int .i64 (c1.a : Nat))])] → J T' σ' := fun T' σ' g1 g2 => by
          have hl : (out ++ [((nFound : List UInt8), (c.a, c1.a))]).length = out.length + 1 := by simp
          refine hJ ((2, b), (out ++ [(nFound, (c.a, c1.a))], c1)) T' σ' (by simp) ⟨by simp only [hl, hol], hok2, .inr (.inr (.inl ⟨rfl, by rw [← hr]; simp [List.append_assoc]⟩))⟩ (by simp only [hl]; exact g1) (by simp only [hl]; rw [spns_snoc]; exact g2)
        clear hJ hr
        (have kxs := @Nat.mul_one; have kk1 := uN [0] hrx; exact Weg)
      · rw [if_pos he] at hr
        simp only [List.append_nil] at hr
        subst hr
        clear hJ
        have hfe : (Cu.fin c1).e = c1.e := by unfold Cu.fin; rw [if_neg (fun h => he h.1)]
        simp only [hfe]
        (have kxs := he; have kk1 := uN [0] hrx; exact We0)
    · have hok2 : (Cu.blob c 65536).2.Ok := Cu.blob_ok hok
      have hrx := r31_Object c hok
      cases f with
      | false =>
        rw [show (kparts v 2 false).drop 1 = [] from rfl] at hr
        simp only [spansr, List.append_nil] at hr
        subst hr
        clear hJ hrx
        have hen := ref01_End c.s c.a c.e hok
        rw [show Cu.fin ⟨c.s, c.a, c.e⟩ = Cu.fin c from rfl] at hen
        generalize Cu.fin c = d at *
        (have kk1 := uN [0] hen; exact Wd0)
      | true =>
        obtain ⟨b, hb⟩ : ∃ b, b = false := ⟨_, rfl⟩
        rw [← hb] at hrx
        clear hb
        rcases hv with hv | hv
        · have hvi : ((v : Nat) : Int) = 1 := by omega
          rw [show (kparts v 2 true).drop 1 = [(nOld, fun c => (Cu.blob c 65536).2)] from by rw [hv]; rfl, spansr_cons] at hr
          have hz : ∀ q : Cu, spansr [] q = ([], q) := fun _ => rfl
          rw [hz] at hr
          simp only at hr
          clear hz
          obtain ⟨c1, hc1⟩ : ∃ q, (Cu.blob c 65536).2 = q := ⟨_, rfl⟩
          rw [hc1] at hr hrx hok2
          clear hc1
          by_cases he : c1.e = 0
          · rw [if_neg (by simpa using he)] at hr
            have go : ∀ T' σ', keepT T' [0, 1, 6, 7, 8, 9, 10, 11, 12] = [(0, iv .u8 (v : Nat)), (1, iv .u8 2), (6, .d (.s (.slice none 0 0))), (7, iv .i64 0), (8, .p 0 0), (9, .o 3 (out.length + 1)), (10, .g 2 3), (11, bv b), (12, iv .i64 3)] → σ'.take 4 = [Cu.ro c1, .box 9 [sv (bs nId)], .box 9 [sv (bs nId), sv (bs nFound), sv (bs nObject)], .row 103 3 (out.length + 1) (spnsD out ++ [D.s (.string ⟨(nOld).toArray⟩), .s (.int .i64 (c.a : Nat)), .s (.int .i64 (c1.a : Nat))])] → J T' σ' := fun T' σ' g1 g2 => by
              have hl : (out ++ [((nOld : List UInt8), (c.a, c1.a))]).length = out.length + 1 := by simp
              refine hJ ((3, b), (out ++ [(nOld, (c.a, c1.a))], c1)) T' σ' (by simp) ⟨by simp only [hl, hol], hok2, .inr (.inr (.inr ⟨rfl, hr⟩))⟩ (by simp only [hl]; exact g1) (by simp only [hl]; rw [spns_snoc]; exact g2)
            clear hJ hr
            (have kxs := And.intro @Nat.mul_one hvi; have kk1 := uN [0] hrx; exact Weg)
          · rw [if_pos he] at hr
            simp only [List.append_nil] at hr
            subst hr
            clear hJ
            have hfe : (Cu.fin c1).e = c1.e := by unfold Cu.fin; rw [if_neg (fun h => he h.1)]
            simp only [hfe]
            (have kxs := And.intro he hvi; have kk1 := uN [0] hrx; exact We0)
        · have hvi : ¬ ((v : Nat) : Int) = 1 := by omega
          rw [show (kparts v 2 true).drop 1 = [(nObject, fun c => (Cu.blob c 65536).2)] from by rw [hv]; rfl, spansr_cons] at hr
          have hz : ∀ q : Cu, spansr [] q = ([], q) := fun _ => rfl
          rw [hz] at hr
          simp only at hr
          clear hz
          obtain ⟨c1, hc1⟩ : ∃ q, (Cu.blob c 65536).2 = q := ⟨_, rfl⟩
          rw [hc1] at hr hrx hok2
          clear hc1
          by_cases he : c1.e = 0
          · rw [if_neg (by simpa using he)] at hr
            have go : ∀ T' σ', keepT T' [0, 1, 6, 7, 8, 9, 10, 11, 12] = [(0, iv .u8 (v : Nat)), (1, iv .u8 2), (6, .d (.s (.slice none 0 0))), (7, iv .i64 0), (8, .p 0 0), (9, .o 3 (out.length + 1)), (10, .g 2 3), (11, bv b), (12, iv .i64 3)] → σ'.take 4 = [Cu.ro c1, .box 9 [sv (bs nId)], .box 9 [sv (bs nId), sv (bs nFound), sv (bs nObject)], .row 103 3 (out.length + 1) (spnsD out ++ [D.s (.string ⟨(nObject).toArray⟩), .s (.int .i64 (c.a : Nat)), .s (.int .i64 (c1.a : Nat))])] → J T' σ' := fun T' σ' g1 g2 => by
              have hl : (out ++ [((nObject : List UInt8), (c.a, c1.a))]).length = out.length + 1 := by simp
              refine hJ ((3, b), (out ++ [(nObject, (c.a, c1.a))], c1)) T' σ' (by simp) ⟨by simp only [hl, hol], hok2, .inr (.inr (.inr ⟨rfl, hr⟩))⟩ (by simp only [hl]; exact g1) (by simp only [hl]; rw [spns_snoc]; exact g2)
            clear hJ hr
            (have kxs := And.intro @Nat.mul_one hvi; have kk1 := uN [0] hrx; exact Weg)
          · rw [if_pos he] at hr
            simp only [List.append_nil] at hr
            subst hr
            clear hJ
            have hfe : (Cu.fin c1).e = c1.e := by unfold Cu.fin; rw [if_neg (fun h => he h.1)]
            simp only [hfe]
            (have kxs := And.intro he hvi; have kk1 := uN [0] hrx; exact We0)
    · subst hr
      clear hJ
      have hen := ref01_End c.s c.a c.e hok
      rw [show Cu.fin ⟨c.s, c.a, c.e⟩ = Cu.fin c from rfl] at hen
      generalize Cu.fin c = d at *
      (have kk1 := uN [0] hen; exact Wd0)
theorem ref31_Payload (v k : Nat) (hv : v < 256) (hk : k < 256) (s : List UInt8) (hs : s.length ≤ 140737488351232) : AC Tryz.prog 38 [iv .u8 (v : Nat), iv .u8 (k : Nat), sv (bs s)] [] fun y σ => y = .t [.d (.l (partw v k s).1.length (spnsD (partw v k s).1)), iv .i64 (partw v k s).2] ∧ σ = [] := by
  have hh := ref23_Has v k hv hk
  by_cases hv2 : v ≠ 1 ∧ v ≠ 2
  · have e : partw v k s = ([], 10) := if_pos hv2
    rw [e]
    obtain ⟨g1, g2⟩ := hv2
    refine AC.wk Tryz.func38 ?_
    exact Wd0
  cases h : has v k with
  | false =>
    have e : partw v k s = ([], 11) := by unfold partw; rw [if_neg hv2, if_pos h]
    rw [e]
    rw [h] at hh
    refine AC.wk Tryz.func38 ?_
    (have kk1 := uN [] hh; exact Wd0)
  | true =>
    rw [h] at hh
    rw [partw_in h]
    have hv3 : v = 1 ∨ v = 2 := by omega
    by_cases hk2 : k = 2
    · subst hk2
      exact r31_pay2 v hv3 hh s hs
    rcases has_cases h with ⟨rfl, rfl | rfl | rfl⟩ | ⟨rfl, rfl | rfl | rfl | rfl | rfl | rfl | rfl | rfl | rfl⟩
    · exact r31_pay 1 1 hv3 hk hk2 hh [(nKey, fun c => c.okey.2)] (by decide) (by decide) names_1 _ (by
        intro x hx
        simp only [List.mem_cons, List.not_mem_nil, or_false] at hx
        rcases hx with rfl | rfl
        · exact R31_Id
        · exact R31_Key) s hs
    · exact absurd rfl hk2
    · exact r31_pay 1 8 hv3 hk hk2 hh [(nCode, fun c => (c.count 255).2), (nText, fun c => (c.blob 64).2)] (by decide) (by decide) names_8 _ (by
        intro x hx
        simp only [List.mem_cons, List.not_mem_nil, or_false] at hx
        rcases hx with rfl | rfl | rfl
        · exact R31_Id
        · exact R31_Code
        · exact R31_Text) s hs
    · exact r31_pay 2 1 hv3 hk hk2 hh [(nKey, fun c => c.okey.2)] (by decide) (by decide) names_1 _ (by
        intro x hx
        simp only [List.mem_cons, List.not_mem_nil, or_false] at hx
        rcases hx with rfl | rfl
        · exact R31_Id
        · exact R31_Key) s hs
    · exact absurd rfl hk2
    · exact r31_pay 2 3 hv3 hk hk2 hh [(nKey, fun c => c.okey.2), (nCtx, fun c => c.vec.2), (nMeta, fun c => c.prs.2), (nDead, fun c => c.flag.2), (nValue, fun c => (c.blob 32768).2)] (by decide) (by decide) names_3 _ (by
        intro x hx
        simp only [List.mem_cons, List.not_mem_nil, or_false] at hx
        rcases hx with rfl | rfl | rfl | rfl | rfl | rfl
        · exact R31_Id
        · exact R31_Key
        · exact R31_Ctx
        · exact R31_Meta
        · exact R31_Dead
        · exact R31_Value) s hs
    · exact r31_pay 2 4 hv3 hk hk2 hh [(nCtx, fun c => c.vec.2)] (by decide) (by decide) names_4 _ (by
        intro x hx
        simp only [List.mem_cons, List.not_mem_nil, or_false] at hx
        rcases hx with rfl | rfl
        · exact R31_Id
        · exact R31_Ctx) s hs
    · exact r31_pay 2 5 hv3 hk hk2 hh [(nPrefix, fun c => (c.blob 31).2)] (by decide) (by decide) names_5 _ (by
        intro x hx
        simp only [List.mem_cons, List.not_mem_nil, or_false] at hx
        rcases hx with rfl | rfl
        · exact R31_Id
        · exact R31_Prefix) s hs
    · exact r31_pay 2 6 hv3 hk hk2 hh [(nPage, fun c => c.page.2)] (by decide) (by decide) names_6 _ (by
        intro x hx
        simp only [List.mem_cons, List.not_mem_nil, or_false] at hx
        rcases hx with rfl | rfl
        · exact R31_Id
        · exact R31_Page) s hs
    · exact r31_pay 2 7 hv3 hk hk2 hh [(nRing, fun c => c.ring.2)] (by decide) (by decide) names_7 _ (by
        intro x hx
        simp only [List.mem_cons, List.not_mem_nil, or_false] at hx
        rcases hx with rfl | rfl
        · exact R31_Id
        · exact R31_Ring) s hs
    · exact r31_pay 2 8 hv3 hk hk2 hh [(nCode, fun c => (c.count 255).2), (nText, fun c => (c.blob 64).2)] (by decide) (by decide) names_8 _ (by
        intro x hx
        simp only [List.mem_cons, List.not_mem_nil, or_false] at hx
        rcases hx with rfl | rfl | rfl
        · exact R31_Id
        · exact R31_Code
        · exact R31_Text) s hs
    · exact r31_pay 2 9 hv3 hk hk2 hh [(nObject, fun c => (c.blob 65536).2)] (by decide) (by decide) names_9 _ (by
        intro x hx
        simp only [List.mem_cons, List.not_mem_nil, or_false] at hx
        rcases hx with rfl | rfl
        · exact R31_Id
        · exact R31_Object) s hs
end Go.AW
namespace Go.AW
def hv (n : Nat) : Nat := if n % 2 = 1 then (n / 2) ^^^ 3988292384 else n / 2
def hvn : Nat → Nat → Nat
  | 0, n => n
  | k + 1, n => hvn k (hv n)
theorem hv_xor (a b : Nat) : hv (a ^^^ b) = hv a ^^^ hv b := by
  unfold hv
  have h1 : (a ^^^ b) / 2 = a / 2 ^^^ b / 2 := Nat.xor_div_two
  have h2 : (a ^^^ b) % 2 = (a + b) % 2 := by
    have h := Nat.xor_mod_two_pow (a := a) (b := b) (n := 1)
    rw [show 2 ^ 1 = 2 from rfl] at h
    rw [h]
    rcases Nat.mod_two_eq_zero_or_one a with ha | ha <;> rcases Nat.mod_two_eq_zero_or_one b with hb | hb <;> rw [ha, hb] <;> simp <;> omega
  rw [h1, h2]
  rcases Nat.mod_two_eq_zero_or_one a with ha | ha <;> rcases Nat.mod_two_eq_zero_or_one b with hb | hb
  · rw [if_neg (by omega), if_neg (by omega), if_neg (by omega)]
  · rw [if_pos (by omega), if_neg (by omega), if_pos (by omega), Nat.xor_assoc]
  · rw [if_pos (by omega), if_pos (by omega), if_neg (by omega), Nat.xor_assoc, Nat.xor_assoc, Nat.xor_comm 3988292384]
  · rw [if_neg (by omega), if_pos (by omega), if_pos (by omega), Nat.xor_assoc, Nat.xor_comm (b / 2), ← Nat.xor_assoc 3988292384, Nat.xor_self, Nat.zero_xor]
theorem hvn_xor : ∀ (k a b : Nat), hvn k (a ^^^ b) = hvn k a ^^^ hvn k b
  | 0, a, b => rfl
  | k + 1, a, b => by unfold hvn; rw [hv_xor, hvn_xor k]
theorem hv_even (m : Nat) : hv (2 * m) = m := by
  unfold hv; rw [if_neg (by omega)]; omega
theorem hvn_high : ∀ (k m : Nat), hvn k (2 ^ k * m) = m
  | 0, m => by simp [hvn]
  | k + 1, m => by
    unfold hvn
    rw [show 2 ^ (k + 1) * m = 2 * (2 ^ k * m) from by rw [Nat.pow_succ]; simp [Nat.mul_comm, Nat.mul_left_comm], hv_even, hvn_high k]
theorem split8 (s : Nat) : s = (s % 256) ^^^ (2 ^ 8 * (s / 256)) := by
  apply Nat.eq_of_testBit_eq
  intro i
  rw [Nat.testBit_xor, show s % 256 = s % 2 ^ 8 from rfl, Nat.testBit_mod_two_pow, Nat.testBit_two_pow_mul, show s / 256 = s / 2 ^ 8 from rfl, Nat.testBit_div_two_pow]
  by_cases h : i < 8
  · rw [decide_eq_true h, decide_eq_false (show ¬ i ≥ 8 by omega)]; simp
  · have e : i - 8 + 8 = i := by omega
    rw [decide_eq_false h, decide_eq_true (show i ≥ 8 by omega), e]; simp
def cput (s b : Nat) : Nat := hvn 8 (s ^^^ b)
theorem cput_table (s b : Nat) : cput s b = hvn 8 ((s % 256) ^^^ b) ^^^ (s / 256) := by
  unfold cput
  conv => lhs; rw [split8 s]
  rw [Nat.xor_assoc, Nat.xor_comm (2 ^ 8 * (s / 256)), ← Nat.xor_assoc, hvn_xor, hvn_high]
theorem hv_lt {n : Nat} (h : n < 4294967296) : hv n < 4294967296 := by
  unfold hv; split
  · exact Nat.xor_lt_two_pow (n := 32) (by omega) (by decide)
  · omega
theorem hvn_lt : ∀ (k n : Nat), n < 4294967296 → hvn k n < 4294967296
  | 0, n, h => h
  | k + 1, n, h => hvn_lt k _ (hv_lt h)
theorem cput_lt {s b : Nat} (hs : s < 4294967296) (hb : b < 256) : cput s b < 4294967296 := hvn_lt 8 _ (Nat.xor_lt_two_pow (n := 32) hs (by omega))
def cputs : Nat → List UInt8 → Nat
  | s, [] => s
  | s, b :: l => cputs (cput s b.toNat) l
theorem cputs_lt : ∀ (l : List UInt8) (s : Nat), s < 4294967296 → cputs s l < 4294967296
  | [], s, h => h
  | b :: l, s, h => cputs_lt l _ (cput_lt h (by have := b.toNat_lt; omega))
def csum (l : List UInt8) : Nat := 4294967295 - cputs 4294967295 l
theorem csum_lt (l : List UInt8) : csum l < 4294967296 := by unfold csum; omega
end Go.AW
namespace Go.AW
open Go
section
variable {P : Program} {N k : Nat} {T : Tm} {σ : List Ob} {Q : V → List Ob → Prop} {B : Nat} {F : Nat → Prop} {μ : List Value} {w : World}
theorem box_cell {i off : Nat} {T' : TypeId} {cs : List V} {x : V} {p : Value} (st : St k B F σ μ w) (hp : VR F σ μ w (.p i off) p) (h2 : σ[i]? = some (.box T' cs)) (h3 : cs[off]? = some x) :
    ∃ b v, p = .pointer (some ⟨b, off, none⟩) ∧ μ[i]? = some (.pointer (some ⟨b, 0, none⟩)) ∧ w.cell? ⟨b, off, none⟩ = some v ∧ w.frozen? ⟨b, off, none⟩ = false ∧ VR F σ μ w x v := by
  simp only [VR] at hp
  obtain ⟨b, T2, cs2, g1, g2, rfl⟩ := hp
  obtain ⟨b', arr, e1, e2, ⟨l, tl, e6, e3⟩, e4, e5⟩ := st.obj i _ _ h2 g2
  simp at e1
  subst e1
  obtain ⟨v, hv, hx⟩ := VRs.get e3 off x h3
  have hc := rangeAt_block' e2 e6 off v hv
  rw [Nat.zero_add] at hc
  exact ⟨b, v, rfl, g2, hc, frozen_of_row w b off arr T' e2, hx⟩
theorem set_cell {i off b : Nat} {T' : TypeId} {cs : List V} {y : V} {u : Value} (st : St k B F σ μ w) (h2 : σ[i]? = some (.box T' cs)) (h3 : off < cs.length) (hm : μ[i]? = some (.pointer (some ⟨b, 0, none⟩))) (hy : VR F σ μ w y u) :
    St k B F (σ.set i (.box T' (cs.set off y))) μ (w.setCell ⟨b, off, none⟩ u) ∧ Stp k B F σ μ w F (σ.set i (.box T' (cs.set off y))) μ (w.setCell ⟨b, off, none⟩ u) ∧ Keep σ.length σ μ (σ.set i (.box T' (cs.set off y))) μ :=
  set_box (off := off) (xs := [y]) (us := [u]) st h2 hm ⟨u, [], rfl, hy, rfl⟩ (show off + 1 ≤ cs.length from h3)
variable {f : FuncId} {fn : Func} {x y z : Operand} {ts : Array TypeId} {ty : TypeId} {pos : String} {af : Array Edge} {gd : Option (Nat × Bool)} {dst : Option Tmp} {i off : Nat} {T' : TypeId} {cs : List V} {K : IntKind} {n m s : Int}
theorem ev_p {c : Act} (st : St k B F σ μ w) (tr : TR N F σ μ w T c.tmps) (h1 : ev T x = .p i off) : VR F σ μ w (.p i off) (c.eval x) := by rw [← h1]; exact ev_ok tr x
theorem ev_i {c : Act} (tr : TR N F σ μ w T c.tmps) (h1 : ev T x = iv K n) : c.eval x = .int K n := by
  have := @ev_ok F σ μ w N T c tr x
  rw [h1] at this
  simpa only [VR, DR] using this
theorem AOp.ald (hf : P.funcs[f]? = some fn) (hname : (fn.name == "runtime.NumGoroutine") = false) (hb : fn.body.isNone = true) (hn : Extern.findNext fn = none) (he : Extern.find fn = some (Extern.Atomic.loadT (.int K)))
    (h1 : ev T x = .p i off) (h2 : σ[i]? = some (.box T' cs)) (h3 : cs[off]? = some (iv K n)) (hq : Q (iv K n) σ) :
    AOp P N k ⟨dst, .call { callee := .value (.func f), args := #[x], argTypes := ts }, ty, pos, af, gd⟩ T σ Q :=
  AOp.val fun B F μ w c st tr => by
    obtain ⟨b, v, hp, hm, hc, hz, hv⟩ := box_cell st (ev_p st tr h1) h2 h3
    simp only [VR, DR] at hv
    subst hv
    have hr := run_call_load (P := P) hf hname hb hn K he hc
    refine ⟨_, .int K n, hq, ?_, rfl⟩
    have e3 : c.eval (.func f) = .func (.func f) #[] #[] := rfl
    simp [execOp, resolve, Deferred.ofValue, invoke, hp, e3, hr]
theorem AOp.ast (hf : P.funcs[f]? = some fn) (hname : (fn.name == "runtime.NumGoroutine") = false) (hb : fn.body.isNone = true) (hn : Extern.findNext fn = none) (he : Extern.find fn = some Extern.Atomic.storeT)
    (h1 : ev T x = .p i off) (hy : ev T y = iv K m) (h2 : σ[i]? = some (.box T' cs)) {z0 : V} (h3 : cs[off]? = some z0) (hq : Q (.t []) (σ.set i (.box T' (cs.set off (iv K m))))) :
    AOp P N k ⟨dst, .call { callee := .value (.func f), args := #[x, y], argTypes := ts }, ty, pos, af, gd⟩ T σ Q :=
  AOp.val2 fun B F μ w c st tr => by
    obtain ⟨b, v, hp, hm, hc, hz, hv⟩ := box_cell st (ev_p st tr h1) h2 h3
    have hr := run_call_store (P := P) hf hname hb hn he (k := K) (y := m) hc hz
    obtain ⟨g1, g2, g3⟩ := set_cell (y := iv K m) (u := .int K m) st h2 (List.getElem?_eq_some_iff.1 h3).1 hm rfl
    refine ⟨.tuple #[], _, ?_, ⟨_, F, _, μ, hq, g2, g1, g3, ⟨#[], rfl, rfl⟩, fun _ h => h⟩⟩
    have e3 : c.eval (.func f) = .func (.func f) #[] #[] := rfl
    simp [execOp, resolve, Deferred.ofValue, invoke, hp, e3, ev_i tr hy, hr]
theorem AOp.acas (hf : P.funcs[f]? = some fn) (hname : (fn.name == "runtime.NumGoroutine") = false) (hb : fn.body.isNone = true) (hn : Extern.findNext fn = none) (he : Extern.find fn = some (Extern.Atomic.casT (.int K)))
    (h1 : ev T x = .p i off) (hy : ev T y = iv K n) (hz' : ev T z = iv K m) (h2 : σ[i]? = some (.box T' cs)) (h3 : cs[off]? = some (iv K n)) (hq : Q (bv true) (σ.set i (.box T' (cs.set off (iv K m))))) :
    AOp P N k ⟨dst, .call { callee := .value (.func f), args := #[x, y, z], argTypes := ts }, ty, pos, af, gd⟩ T σ Q :=
  AOp.val2 fun B F μ w c st tr => by
    obtain ⟨b, v, hp, hm, hc, hz, hv⟩ := box_cell st (ev_p st tr h1) h2 h3
    simp only [VR, DR] at hv
    subst hv
    have hr := run_call_cas_hit (P := P) hf hname hb hn K he (y := m) hc hz
    obtain ⟨g1, g2, g3⟩ := set_cell (y := iv K m) (u := .int K m) st h2 (List.getElem?_eq_some_iff.1 h3).1 hm rfl
    refine ⟨.bool true, _, ?_, ⟨_, F, _, μ, hq, g2, g1, g3, rfl, fun _ h => h⟩⟩
    have e3 : c.eval (.func f) = .func (.func f) #[] #[] := rfl
    simp [execOp, resolve, Deferred.ofValue, invoke, hp, e3, ev_i tr hy, ev_i tr hz', hr]
theorem AOp.aadd (hf : P.funcs[f]? = some fn) (hname : (fn.name == "runtime.NumGoroutine") = false) (hb : fn.body.isNone = true) (hn : Extern.findNext fn = none) (he : Extern.find fn = some (Extern.Atomic.update (Op.intArith .add) K true))
    (hs : ∀ w, (Op.intArith .add K n m).run P w = .ok (.int K s) w)
    (h1 : ev T x = .p i off) (hy : ev T y = iv K m) (h2 : σ[i]? = some (.box T' cs)) (h3 : cs[off]? = some (iv K n)) (hq : Q (iv K s) (σ.set i (.box T' (cs.set off (iv K s))))) :
    AOp P N k ⟨dst, .call { callee := .value (.func f), args := #[x, y], argTypes := ts }, ty, pos, af, gd⟩ T σ Q :=
  AOp.val2 fun B F μ w c st tr => by
    obtain ⟨b, v, hp, hm, hc, hz, hv⟩ := box_cell st (ev_p st tr h1) h2 h3
    simp only [VR, DR] at hv
    subst hv
    have hr := run_call_add (P := P) hf hname hb hn K he hc hz (hs w)
    obtain ⟨g1, g2, g3⟩ := set_cell (y := iv K s) (u := .int K s) st h2 (List.getElem?_eq_some_iff.1 h3).1 hm rfl
    refine ⟨.int K s, _, ?_, ⟨_, F, _, μ, hq, g2, g1, g3, rfl, fun _ h => h⟩⟩
    have e3 : c.eval (.func f) = .func (.func f) #[] #[] := rfl
    simp [execOp, resolve, Deferred.ofValue, invoke, hp, e3, ev_i tr hy, hr]
theorem AOp.mark0 {mk : Mark} (hf : P.funcs[f]? = some fn) (hname : (fn.name == "runtime.NumGoroutine") = false) (hb : fn.body.isNone = true) (hn : Extern.findNext fn = none) (he : Extern.find fn = some (fun _ => (do Go.mark mk; Pure.pure Extern.Race.none_ : Sem Value)))
    (hq : Q (.t []) σ) : AOp P N k ⟨dst, .call { callee := .value (.func f), args := #[], argTypes := ts }, ty, pos, af, gd⟩ T σ Q :=
  AOp.val fun B F μ w c st tr => by
    have hr := run_call_mark0 (P := P) hf hname hb hn mk he w
    refine ⟨_, .tuple #[], hq, ?_, ⟨#[], rfl, rfl⟩⟩
    have e3 : c.eval (.func f) = .func (.func f) #[] #[] := rfl
    simp [execOp, resolve, Deferred.ofValue, invoke, e3, hr]
theorem AOp.marked {mk : Addr → Mark} (hf : P.funcs[f]? = some fn) (hname : (fn.name == "runtime.NumGoroutine") = false) (hb : fn.body.isNone = true) (hn : Extern.findNext fn = none) (he : Extern.find fn = some (Extern.Race.marked mk))
    (h1 : ev T x = .p i off) (hq : Q (.t []) σ) : AOp P N k ⟨dst, .call { callee := .value (.func f), args := #[x], argTypes := ts }, ty, pos, af, gd⟩ T σ Q :=
  AOp.val fun B F μ w c st tr => by
    have hp := ev_p st tr h1
    simp only [VR] at hp
    obtain ⟨b, T2, cs2, g1, g2, hp⟩ := hp
    have hr := run_call_marked (P := P) hf hname hb hn mk he ⟨b, off, none⟩ w
    refine ⟨_, .tuple #[], hq, ?_, ⟨#[], rfl, rfl⟩⟩
    have e3 : c.eval (.func f) = .func (.func f) #[] #[] := rfl
    simp [execOp, resolve, Deferred.ofValue, invoke, hp, e3, hr]
def ptrTo (P : Program) (t : TypeId) : TypeId :=
  match P.underlying t with
  | some (.pointer e) => e
  | _ => 0
theorem AOp.cvu {sT dT : TypeId} (hs : P.underlying sT = some (.pointer (ptrTo P sT))) (hd : P.underlying dT = some .unsafePointer) (hsz : (P.info? (ptrTo P sT)).map (fun i => decide (i.size = 0)) = some false)
    (h1 : ev T x = .p i off) (h2 : σ[i]? = some (.box T' cs)) {z0 : V} (h3 : cs[off]? = some z0) (hq : Q (.p i off) σ) : AOp P N k ⟨dst, .convert sT dT x, ty, pos, af, gd⟩ T σ Q :=
  AOp.val fun B F μ w c st tr => by
    obtain ⟨b, v, hp, hm, hc, hz, hv⟩ := box_cell st (ev_p st tr h1) h2 h3
    refine ⟨_, _, hq, ?_, ev_p st tr h1⟩
    have hr := run_convert_to_unsafe (P := P) hs hd hsz hc
    rw [← hp] at hr
    simp [execOp, hr]
end
end Go.AW
namespace Go.AW
open Go Go.Proofs
attribute [local irreducible] thenQ blockQ RetQ AL AW AC AOp
theorem bitx32 {a b : Nat} (ha : a < 4294967296) (hb : b < 4294967296) : bitI .xor .u32 (a : Nat) (b : Nat) = ((a ^^^ b : Nat) : Int) := by
  have h : a ^^^ b < 4294967296 := Nat.xor_lt_two_pow (n := 32) ha hb
  have e : (BitVec.ofInt 32 (a : Nat) ^^^ BitVec.ofInt 32 (b : Nat)).toNat = a ^^^ b := by
    rw [BitVec.toNat_xor, BitVec.toNat_ofInt, BitVec.toNat_ofInt]
    have h1 : ((a : Int) % ((2 ^ 32 : Nat) : Int)).toNat = a := by omega
    have h2 : ((b : Int) % ((2 ^ 32 : Nat) : Int)).toNat = b := by omega
    rw [h1, h2]
  show IntKind.wrap .u32 ((BitVec.ofInt 32 (a : Nat) ^^^ BitVec.ofInt 32 (b : Nat)).toNat : Int) = _
  rw [e, wrap_u32 (by omega) (by omega)]
theorem bitx8 {a b : Nat} (ha : a < 256) (hb : b < 256) : bitI .xor .u8 (a : Nat) (b : Nat) = ((a ^^^ b : Nat) : Int) := by
  have h : a ^^^ b < 256 := Nat.xor_lt_two_pow (n := 8) ha hb
  have e : (BitVec.ofInt 8 (a : Nat) ^^^ BitVec.ofInt 8 (b : Nat)).toNat = a ^^^ b := by
    rw [BitVec.toNat_xor, BitVec.toNat_ofInt, BitVec.toNat_ofInt]
    have h1 : ((a : Int) % ((2 ^ 8 : Nat) : Int)).toNat = a := by omega
    have h2 : ((b : Int) % ((2 ^ 8 : Nat) : Int)).toNat = b := by omega
    rw [h1, h2]
  show IntKind.wrap .u8 ((BitVec.ofInt 8 (a : Nat) ^^^ BitVec.ofInt 8 (b : Nat)).toNat : Int) = _
  rw [e, wrap_u8 (by omega) (by omega)]
theorem bita32 {a : Nat} (ha : a < 4294967296) : bitI .and .u32 (a : Nat) 1 = ((a % 2 : Nat) : Int) := by
  have e : (BitVec.ofInt 32 (a : Nat) &&& BitVec.ofInt 32 1).toNat = a % 2 := by
    rw [BitVec.toNat_and, BitVec.toNat_ofInt, BitVec.toNat_ofInt]
    have h1 : ((a : Int) % ((2 ^ 32 : Nat) : Int)).toNat = a := by omega
    rw [h1]
    show a &&& 1 = _
    rw [Nat.and_one_is_mod]
  show IntKind.wrap .u32 ((BitVec.ofInt 32 (a : Nat) &&& BitVec.ofInt 32 1).toNat : Int) = _
  rw [e, wrap_u32 (by omega) (by omega)]
theorem xor_max {a : Nat} (ha : a < 4294967296) : 4294967295 ^^^ a = 4294967295 - a := by
  have h := BitVec.toNat_not (x := BitVec.ofNat 32 a)
  rw [← BitVec.allOnes_xor, BitVec.toNat_xor, BitVec.toNat_allOnes, BitVec.toNat_ofNat, Nat.mod_eq_of_lt (by simpa using ha)] at h
  exact h
theorem shr1 (a : Nat) : (a : Int).fdiv (2 ^ (min 1 32)) = ((a / 2 : Nat) : Int) := by
  rw [Int.fdiv_eq_ediv_of_nonneg _ (by decide)]
  show (a : Int) / 2 = _
  omega
theorem shr8 (a : Nat) : (a : Int).fdiv (2 ^ (min 8 32)) = ((a / 256 : Nat) : Int) := by
  rw [Int.fdiv_eq_ediv_of_nonneg _ (by decide)]
  show (a : Int) / 256 = _
  omega
theorem tmod2 (a : Nat) : (a : Int).tmod 2 = ((a % 2 : Nat) : Int) := by
  rw [Int.tmod_eq_emod_of_nonneg (by omega)]; omega
theorem tdiv2 (a : Nat) : (a : Int).tdiv 2 = ((a / 2 : Nat) : Int) := by
  rw [Int.tdiv_eq_ediv_of_nonneg (by omega)]; omega
theorem ref05_Put (s b : Nat) (hs : s < 4294967296) (hb : b < 256) : AC Tryz.prog 234 [iv .u32 (s : Nat), iv .u8 (b : Nat)] [] fun x σ => x = iv .u32 (cput s b : Nat) ∧ σ = [] := by
  refine AC.wk Tryz.func234 ?_
  have hw : IntKind.wrap .u32 (b : Int) = (b : Int) := wrap_u32 (by omega) (by omega)
  have hx := bitx32 hs (show b < 4294967296 by omega)
  have hl : s ^^^ b < 4294967296 := Nat.xor_lt_two_pow (n := 32) hs (by omega)
  obtain ⟨R, hR⟩ : ∃ R, hvn 8 (s ^^^ b) = R := ⟨_, rfl⟩
  rw [show cput s b = R from hR]
  generalize s ^^^ b = z at *
  focus (have kxs := And.intro hw hx; (repeat' (first | refine GF ?_ | refine AW.ret ?_ | (refine GC ?_ ?_ <;> intro h <;> (try simp only [hsB] at h) <;> try exact xf) | (refine GL ?_ ?_ <;> intro h <;> (try simp only [hsN] at h) <;> (try simp only [h]) <;> (try simp only [hsB] at h) <;> try exact xf) | fail)); all_goals clear kxs)
  refine AW.rounds [0, 4, 5] (fun x : Nat × Nat => [(0, iv .u32 (x.2 : Nat)), (4, iv .u32 0), (5, iv .i64 (x.1 : Nat))]) (fun _ => [])
    (fun x => x.1 ≤ 8 ∧ x.2 < 4294967296 ∧ hvn (8 - x.1) x.2 = R) (fun x => 8 - x.1) (0, z) ⟨by simp, hl, hR⟩ rfl rfl (fun _ _ => Nat.le_of_ble_eq_true rfl) (fun _ _ => rfl) (fun _ _ => rfl) ?_
  rintro ⟨i, n⟩ ⟨hi, hn, hr⟩ J hJ
  simp only at hi hn hr ⊢
  by_cases h8 : i < 8
  case neg =>
    have h9 : i = 8 := by omega
    subst h9
    have hr : n = R := hr
    subst hr
    clear hJ
    exact Wa0
  have hq : ((n / 2 : Nat) : Int) ≤ 4294967295 := by omega
  have hrm := tmod2 n
  have hdv := tdiv2 n
  have hwq : IntKind.wrap .u32 ((n / 2 : Nat) : Int) = ((n / 2 : Nat) : Int) := wrap_u32 (by omega) (by omega)
  have hst : hvn (8 - (i + 1)) (hv n) = R := by rw [← hr, show 8 - i = (8 - (i + 1)) + 1 from by omega]; rfl
  have hxx := bitx32 (a := n / 2) (b := 3988292384) (by omega) (by decide)
  rw [show ((3988292384 : Nat) : Int) = 3988292384 from rfl] at hxx
  have hlt := hv_lt hn
  have go : ∀ T' σ', keepT T' [0, 4, 5] = [(0, iv .u32 (hv n : Nat)), (4, iv .u32 0), (5, iv .i64 ((i : Int) + 1))] → σ'.take 0 = [] → J T' σ' := fun T' σ' g1 g2 =>
    hJ (i + 1, hv n) T' σ' (by simp only; omega) ⟨by simp only; omega, hlt, hst⟩ g1 g2
  clear hJ hr hst
  by_cases ho : n % 2 = 1
  · rw [show hv n = (n / 2) ^^^ 3988292384 from if_pos ho] at go
    rw [ho] at hrm
    (have kxs := And.intro hrm (And.intro hdv (And.intro hwq hxx)); exact Wag)
  · rw [show hv n = n / 2 from if_neg ho] at go
    rw [show n % 2 = 0 by omega] at hrm
    (have kxs := And.intro hrm (And.intro hdv hwq); exact Wag)
theorem ref05_Sum (l : List UInt8) (hl : l.length ≤ 9223372036854775807) : AC Tryz.prog 143 [sv (bs l)] [] fun x σ => x = iv .u32 (csum l : Nat) ∧ σ = [] := by
  refine AC.wk Tryz.func143 ?_
  obtain ⟨R, hR⟩ : ∃ R, cputs 4294967295 l = R := ⟨_, rfl⟩
  rw [show csum l = 4294967295 - R by unfold csum; rw [hR]]
  focus ((repeat' (first | refine GF ?_ | refine AW.ret ?_ | (refine GC ?_ ?_ <;> intro h <;> (try simp only [hsB] at h) <;> try exact xf) | (refine GL ?_ ?_ <;> intro h <;> (try simp only [hsN] at h) <;> (try simp only [h]) <;> (try simp only [hsB] at h) <;> try exact xf) | fail)))
  refine AW.rounds [0, 2, 3, 4] (fun x : Nat × Nat => [(0, sv (bs l)), (2, iv .u32 0), (3, iv .u32 (x.2 : Nat)), (4, iv .i64 (x.1 : Nat))]) (fun _ => [])
    (fun x => x.1 ≤ l.length ∧ x.2 < 4294967296 ∧ cputs x.2 (l.drop x.1) = R) (fun x => l.length - x.1) (0, 4294967295) ⟨Nat.zero_le _, by decide, hR⟩ rfl rfl (fun _ _ => Nat.le_of_ble_eq_true rfl) (fun _ _ => rfl) (fun _ _ => rfl) ?_
  rintro ⟨i, n⟩ ⟨hi, hn, hr⟩ J hJ
  simp only at hi hn hr ⊢
  by_cases hil : i < l.length
  case neg =>
    rw [List.drop_eq_nil_of_le (by omega)] at hr
    have hr : n = R := hr
    subst hr
    have hsb : IntKind.wrap .u32 (4294967295 - (n : Int)) = ((4294967295 - n : Nat) : Int) := by rw [wrap_u32 (by omega) (by omega)]; omega
    clear hJ
    (have kxs := hsb; exact Wa0)
  obtain ⟨b, r, hd⟩ := next_at hil
  have hnd := next_drop hd
  have hgd : l.getD i 0 = b := by
    have := List.drop_eq_getElem_cons hil
    rw [hd] at this
    rw [List.getD_eq_getElem?_getD, List.getElem?_eq_getElem hil]
    exact (List.cons.inj this).1.symm
  rw [hd] at hr
  have hb := b.toNat_lt
  have hp := ref05_Put n b.toNat hn (by omega)
  have hlt := cput_lt hn (show b.toNat < 256 by omega)
  have go : ∀ T' σ', keepT T' [0, 2, 3, 4] = [(0, sv (bs l)), (2, iv .u32 0), (3, iv .u32 (cput n b.toNat : Nat)), (4, iv .i64 ((i : Int) + 1))] → σ'.take 0 = [] → J T' σ' := fun T' σ' g1 g2 =>
    hJ (i + 1, cput n b.toNat) T' σ' (by simp only; omega) ⟨by simp only; omega, hlt, by rw [hnd]; exact hr⟩ g1 g2
  clear hJ hr
  generalize cput n b.toNat = q at *
  (have kxs := hgd; have kk1 := uN [] hp; exact Wag)
theorem crc_halve (n0 : Nat) (hn0 : n0 < 4294967296) : AC Tryz.prog 424 [iv .u32 (n0 : Nat)] [] fun x σ => x = iv .u32 (hvn 8 n0 : Nat) ∧ σ = [] := by
  refine AC.wk Tryz.func424 ?_
  obtain ⟨R, hR⟩ : ∃ R, hvn 8 n0 = R := ⟨_, rfl⟩
  rw [hR]
  focus ((repeat' (first | refine GF ?_ | refine AW.ret ?_ | (refine GC ?_ ?_ <;> intro h <;> (try simp only [hsB] at h) <;> try exact xf) | (refine GL ?_ ?_ <;> intro h <;> (try simp only [hsN] at h) <;> (try simp only [h]) <;> (try simp only [hsB] at h) <;> try exact xf) | fail)))
  refine AW.rounds [0, 2, 4] (fun x : Nat × Nat => [(0, iv .u32 (x.2 : Nat)), (2, iv .u32 0), (4, iv .i64 (x.1 : Nat))]) (fun _ => [])
    (fun x => x.1 ≤ 8 ∧ x.2 < 4294967296 ∧ hvn (8 - x.1) x.2 = R) (fun x => 8 - x.1) (0, n0) ⟨by simp, hn0, hR⟩ rfl rfl (fun _ _ => Nat.le_of_ble_eq_true rfl) (fun _ _ => rfl) (fun _ _ => rfl) ?_
  rintro ⟨i, n⟩ ⟨hi, hn, hr⟩ J hJ
  simp only at hi hn hr ⊢
  by_cases h8 : i < 8
  case neg =>
    have h9 : i = 8 := by omega
    subst h9
    have hr : n = R := hr
    subst hr
    clear hJ
    exact Wa0
  have han := bita32 hn
  have hsh := shr1 n
  have hst : hvn (8 - (i + 1)) (hv n) = R := by rw [← hr, show 8 - i = (8 - (i + 1)) + 1 from by omega]; rfl
  have hxx := bitx32 (a := n / 2) (b := 3988292384) (by omega) (by decide)
  rw [show ((3988292384 : Nat) : Int) = 3988292384 from rfl] at hxx
  have hlt := hv_lt hn
  have go : ∀ T' σ', keepT T' [0, 2, 4] = [(0, iv .u32 (hv n : Nat)), (2, iv .u32 0), (4, iv .i64 ((i : Int) + 1))] → σ'.take 0 = [] → J T' σ' := fun T' σ' g1 g2 =>
    hJ (i + 1, hv n) T' σ' (by simp only; omega) ⟨by simp only; omega, hlt, hst⟩ g1 g2
  clear hJ hr hst
  by_cases ho : n % 2 = 1
  · rw [show hv n = (n / 2) ^^^ 3988292384 from if_pos ho] at go
    rw [ho] at han
    (have kxs := And.intro han (And.intro hsh hxx); exact Wag)
  · rw [show hv n = n / 2 from if_neg ho] at go
    rw [show n % 2 = 0 by omega] at han
    (have kxs := And.intro han hsh; exact Wag)
end Go.AW
