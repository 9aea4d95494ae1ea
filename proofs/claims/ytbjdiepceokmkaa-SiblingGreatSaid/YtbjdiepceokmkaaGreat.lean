/-
  Row 15: SiblingGreat.
-/
import Derived.Test.YtbjdiepceokmkaaLaw15
namespace Go.AW
open Go Go.Proofs Go.RowKit
set_option maxHeartbeats 2000000
set_option maxRecDepth 10000
set_option linter.unusedSimpArgs false
set_option linter.unusedVariables false
attribute [local irreducible] thenQ blockQ RetQ AL AW AC AOp

theorem vput_len3 {n : Nat} (h1 : 16384 ≤ n) (h2 : n < 2097152) : (vput n).length = 3 := by
  rw [vput_great (by omega), vput_great (by omega), vput_small (by omega)]; rfl
/-- A sibling of one pair and a value. -/
def gsx (v w : List UInt8) : Sb := ⟨ck0, [([110], v)], false, w⟩
theorem gsx_check {v w : List UInt8} (hv : v.length ≤ 32768) (hw : w.length ≤ 32768) : (gsx v w).check = 0 := by
  have h1 : ck0.check = 0 := by decide
  have h2 : Prs.check [([110], v)] = 0 := by
    unfold Prs.check
    rw [if_neg (by simp)]
    unfold pcheck
    have : ¬ 32768 < v.length := by omega
    have hl : lessB [] [110] = true := by decide
    simp [this, pcheck, hl]
  unfold Sb.check gsx
  simp only [h1, h2]
  rw [if_neg (by simp), if_neg (by simp), if_neg (by omega)]
theorem gsx_len {v w : List UInt8} (hv : 16384 ≤ v.length ∧ v.length ≤ 32768) (hw : 16384 ≤ w.length ∧ w.length ≤ 32768) : (esib (gsx v w)).length = 8 + v.length + 1 + 3 + w.length := by
  have h1 : vput 1 = [1] := by rw [vput_small (by decide)]; rfl
  have h0 : vput 0 = [0] := by rw [vput_small (by decide)]; rfl
  have h2 := vput_len3 (n := v.length) hv.1 (by omega)
  have h3 := vput_len3 (n := w.length) hw.1 (by omega)
  have e : esib (gsx v w) = ((vput 0 ++ []) ++ ([0] ++ [])) ++ ((vput 1 ++ (((vput 1 ++ [110]) ++ (vput v.length ++ v)) ++ [])) ++ ([0] ++ (vput w.length ++ w))) := rfl
  rw [e, h1, h0]
  simp only [List.length_append, List.length_cons, List.length_nil, h2, h3]
  omega
theorem gsx_good {v w : List UInt8} (hv : v.length ≤ 32768) (hw : w.length ≤ 32768) : gsib (gsx v w) := ⟨gsx_check hv hw, by simp [gsx, ck0], by show (0 : Nat) < _; decide⟩
/-- A row of bytes, some of them filled. -/
def fillD (c : UInt8) (i : Nat) : List D := bsD (List.replicate i c ++ List.replicate (32768 - i) 0)
theorem fill_set (c : UInt8) (i : Nat) (h : i < 32768) : (fillD c i).set i (D.s (.int .u8 c.toNat)) = fillD c (i + 1) := by
  unfold fillD
  rw [show 32768 - i = (32768 - (i + 1)) + 1 by omega, List.replicate_succ]
  unfold bsD
  rw [List.map_append, List.set_append_right _ _ (by simp)]
  simp [List.replicate_succ', List.map_append]
theorem fill_len (c : UInt8) (i : Nat) (h : i ≤ 32768) : (fillD c i).length = 32768 := by
  unfold fillD bsD
  rw [List.length_map, List.length_append, List.length_replicate, List.length_replicate]
  omega
theorem fill_zero (c : UInt8) : List.replicate 32768 (D.s (.int .u8 0)) = fillD c 0 := by
  unfold fillD bsD
  rw [List.replicate_zero, List.nil_append, List.map_replicate]; rfl
theorem fill_full (c : UInt8) : fillD c 32768 = bsD (List.replicate 32768 c) := by
  unfold fillD
  rw [Nat.sub_self, List.replicate_zero, List.append_nil]
attribute [irreducible] fillD

theorem siblingGreat (n0 n1 n2 : Int) (h0 : 0 ≤ n0 ∧ n0 ≤ 255) (h1 : 0 ≤ n1 ∧ n1 ≤ 255) (h2 : 0 ≤ n2 ∧ n2 ≤ 255) : AC Try.prog 4 [iv .u8 n0, iv .u8 n1, iv .u8 n2] [] fun x σ => x = bv true ∧ σ = [] := by
  obtain ⟨c, rfl⟩ : ∃ c : UInt8, n0 = (c.toNat : Int) := ⟨UInt8.ofNat n0.toNat, by rw [UInt8.toNat_ofNat']; omega⟩
  obtain ⟨a, rfl⟩ : ∃ a : Nat, n1 = a := ⟨n1.toNat, by omega⟩
  obtain ⟨b, rfl⟩ : ∃ b : Nat, n2 = b := ⟨n2.toNat, by omega⟩
  refine AC.walk Try.func4 rfl (by decide) (of_decide_eq_true rfl) ?_
  focus (have kxs : 987654321 = 987654320 + 1 := rfl; have kk1 := uN [] (awake15); (repeat' (first | (refine ADr.nil ?_; try clear hgv) | refine GOF ?_ | refine AW.ret ?_ | (refine GC ?_ ?_ <;> intro h <;> (try simp only [hsB] at h) <;> try (exfalso; first | omega | contradiction)) | (refine GD ?_ ?_ <;> intro h <;> (try intro hgv) <;> (try simp only [Bool.not_true, Bool.not_false] at h) <;> (try simp only [h]) <;> (try simp only [hsB] at h) <;> try (exfalso; first | omega | contradiction)) | (refine GL ?_ ?_ <;> intro h <;> (try simp only [Bool.not_true, Bool.not_false] at h) <;> (try simp only [h]) <;> (try simp only [hsB] at h) <;> try (exfalso; first | omega | contradiction)) | fail)); all_goals clear kxs kk1)
  all_goals first | (exfalso; simp_all; done) | skip
  refine AL.one (by decide) fun Kr hr => ?_
  (try simp only [ao, List.map_cons, List.map_nil]); simp (disch := omega) only [go_sem]
  refine ⟨.int .u8 0, rfl, by decide, ?_⟩
  rw [fill_zero c]
  refine hr _ _ ?_
  clear hr Kr
  focus (have kxs : 987654321 = 987654320 + 1 := rfl; (repeat' (first | (refine ADr.nil ?_; try clear hgv) | refine GOF ?_ | refine AW.ret ?_ | (refine GC ?_ ?_ <;> intro h <;> (try simp only [hsB] at h) <;> try (exfalso; first | omega | contradiction)) | (refine GD ?_ ?_ <;> intro h <;> (try intro hgv) <;> (try simp only [Bool.not_true, Bool.not_false] at h) <;> (try simp only [h]) <;> (try simp only [hsB] at h) <;> try (exfalso; first | omega | contradiction)) | (refine GL ?_ ?_ <;> intro h <;> (try simp only [Bool.not_true, Bool.not_false] at h) <;> (try simp only [h]) <;> (try simp only [hsB] at h) <;> try (exfalso; first | omega | contradiction)) | fail)); all_goals clear kxs)
  all_goals first | (exfalso; simp_all; done) | skip
  generalize hK : (32768 : Nat) = K
  refine AW.rounds [0, 1, 2, 6, 7, 8] (fun i : Nat => [(0, iv .u8 c.toNat), (1, iv .u8 a), (2, iv .u8 b), (6, bv false), (7, .o 0 K), (8, iv .i64 i)])
    (fun i => [.row 5 1 K (fillD c i)]) (fun i => i ≤ K) (fun i => K - i) 0 (Nat.zero_le _) rfl rfl (fun _ _ => Nat.zero_le _) (fun _ _ => rfl) (fun _ _ => rfl) ?_
  intro i hi J hJ
  have hfl : (fillD c i).length = K := by rw [fill_len c i (by omega), hK]
  by_cases hil : i < K
  · have hst := fill_set c i (by omega)
    focus (have kxs := And.intro hfl hst; (repeat' (first | (refine ADr.nil ?_; try clear hgv) | refine GOF ?_ | refine AW.ret ?_ | (refine GC ?_ ?_ <;> intro h <;> (try simp only [hsB] at h) <;> try (exfalso; first | omega | contradiction)) | (refine GD ?_ ?_ <;> intro h <;> (try intro hgv) <;> (try simp only [Bool.not_true, Bool.not_false] at h) <;> (try simp only [h]) <;> (try simp only [hsB] at h) <;> try (exfalso; first | omega | contradiction)) | (refine GL ?_ ?_ <;> intro h <;> (try simp only [Bool.not_true, Bool.not_false] at h) <;> (try simp only [h]) <;> (try simp only [hsB] at h) <;> try (exfalso; first | omega | contradiction)) | fail)); all_goals clear kxs)
    all_goals first | (refine hJ (i + 1) _ _ (by omega) hil rfl rfl) | (exfalso; simp_all; done)
  · obtain ⟨v, hv, hvl⟩ : ∃ v, fillD c i = bsD v ∧ v.length = K := ⟨List.replicate 32768 c, by rw [show i = 32768 by omega, fill_full], by rw [List.length_replicate, hK]⟩
    rw [hv]
    have hil2 : i = K := by omega
    clear hfl hJ hv
    subst hvl
    have hs1 : ((v.length : Nat) : Int) - (a : Int) = ((v.length - a : Nat) : Int) := by omega
    have hs2 : ((v.length : Nat) : Int) - (b : Int) = ((v.length - b : Nat) : Int) := by omega
    obtain ⟨p, hp⟩ : ∃ p, v.take (v.length - a) = p := ⟨_, rfl⟩
    obtain ⟨q, hq⟩ : ∃ q, v.take (v.length - b) = q := ⟨_, rfl⟩
    have hpl : 16384 ≤ p.length ∧ p.length ≤ 32768 := by rw [← hp, List.length_take]; omega
    have hql : 16384 ≤ q.length ∧ q.length ≤ 32768 := by rw [← hq, List.length_take]; omega
    have hlen := gsx_len hpl hql
    have hg := gsx_good hpl.2 hql.2
    have hft : (gsx p q).fits := ⟨⟨⟨by simp [gsx, ck0], by simp [gsx, ck0], by simp [gsx, ck0]⟩, by simp [gsx, ck0], by show (0 : Nat) < _; decide⟩, ⟨by simp [gsx], by simp [gsx], by simp [gsx]; omega⟩, by show q.length ≤ _; omega⟩
    have hp16 : (((p.length : Nat) : Int) < 16384) = False := eq_false (by omega)
    have hq16 : (((q.length : Nat) : Int) < 16384) = False := eq_false (by omega)
    have hen := sibling_Encode _ hft
    have hck := sibling_Check _ hft
    rw [hg.1] at hck
    by_cases hbig : 65536 < (esib (gsx p q)).length
    · have he : sibe (gsx p q) = ([], 3) := wre_great pens_sib lim_sib hg.1 hbig
      rw [he] at hen
      have hb1 : (65536 < (8 + ((p.length : Nat) : Int) + 1 + 3 + ((q.length : Nat) : Int))) = True := eq_true (by omega)
      focus (have kxs := And.intro @Nat.sub_zero (And.intro hs1 (And.intro hs2 (And.intro hp (And.intro hq (And.intro hp16 (And.intro hq16 hb1)))))); have kk1 := uN [] (hen); have kk2 := uN [] (hck); (repeat' (first | (refine ADr.nil ?_; try clear hgv) | refine GWF ?_ | refine AW.ret ?_ | (refine GC ?_ ?_ <;> intro h <;> (try simp only [hsB] at h) <;> try (exfalso; first | omega | contradiction)) | (refine GD ?_ ?_ <;> intro h <;> (try intro hgv) <;> (try simp only [Bool.not_true, Bool.not_false] at h) <;> (try simp only [h]) <;> (try simp only [hsB] at h) <;> try (exfalso; first | omega | contradiction)) | (refine GL ?_ ?_ <;> intro h <;> (try simp only [Bool.not_true, Bool.not_false] at h) <;> (try simp only [h]) <;> (try simp only [hsB] at h) <;> try (exfalso; first | omega | contradiction)) | fail)); all_goals clear kxs kk1 kk2)
      all_goals first | ((all_goals first | exact RetQ.fr 0 | exact RetQ.fn 0 | fail); done) | (exfalso; simp_all; done)
    · have he : sibe (gsx p q) = (esib (gsx p q), 0) := wre_fit pens_sib hg.1 (by omega)
      rw [he] at hen
      have hde := sibling_Decode (esib (gsx p q)) (by omega)
      rw [show sibw (esib (gsx p q)) = (gsx p q, 0) from rdw_fore trip_sib hg] at hde
      have hsm := ref15_Same (gsx p q) (gsx p q) hft.1.1.1 hft.2.1.1
      rw [show decide (gsx p q = gsx p q) = true by simp] at hsm
      generalize esib (gsx p q) = s at *
      have hb1 : (65536 < (8 + ((p.length : Nat) : Int) + 1 + 3 + ((q.length : Nat) : Int))) = False := eq_false (by omega)
      have hb2 : (s.length : Int) = 8 + ((p.length : Nat) : Int) + 1 + 3 + ((q.length : Nat) : Int) := by omega
      focus (have kxs := And.intro @Nat.sub_zero (And.intro hs1 (And.intro hs2 (And.intro hp (And.intro hq (And.intro hp16 (And.intro hq16 (And.intro hb1 hb2))))))); have kk1 := uN [] (hen); have kk2 := uN [] (hck); have kk3 := uN [] (hde); have kk4 := uN [] (hsm); (repeat' (first | (refine ADr.nil ?_; try clear hgv) | refine GWF ?_ | refine AW.ret ?_ | (refine GC ?_ ?_ <;> intro h <;> (try simp only [hsB] at h) <;> try (exfalso; first | omega | contradiction)) | (refine GD ?_ ?_ <;> intro h <;> (try intro hgv) <;> (try simp only [Bool.not_true, Bool.not_false] at h) <;> (try simp only [h]) <;> (try simp only [hsB] at h) <;> try (exfalso; first | omega | contradiction)) | (refine GL ?_ ?_ <;> intro h <;> (try simp only [Bool.not_true, Bool.not_false] at h) <;> (try simp only [h]) <;> (try simp only [hsB] at h) <;> try (exfalso; first | omega | contradiction)) | fail)); all_goals clear kxs kk1 kk2 kk3 kk4)
      all_goals first | ((all_goals first | exact RetQ.fr 0 | exact RetQ.fn 0 | fail); done) | (exfalso; simp_all; done)
end Go.AW
