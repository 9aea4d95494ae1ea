/-
  Row 18: UpgradeReads.
-/
import Derived.Test.YtbjdiepceokmkaaGreatLaw18a
import Derived.Test.YtbjdiepceokmkaaGreatLaw16
import Derived.Test.YtbjdiepceokmkaaGreatLaw17
import Derived.Test.YtbjdiepceokmkaaGreatObj4
import Derived.Test.YtbjdiepceokmkaaGreatLeg7
namespace Go.AW
open Go Go.Proofs Go.RowKit
set_option maxHeartbeats 2000000
set_option maxRecDepth 10000
set_option linter.unusedSimpArgs false
set_option linter.unusedVariables false
attribute [local irreducible] thenQ blockQ RetQ AL AW AC AOp

/-- What a text of a version is read as. -/
def readg (v : Int) (s : List UInt8) : Oj × Int := if v = 1 then (if (oldw s).2 = 0 then upgr (oldw s).1 else (oj0, (oldw s).2)) else if v = 2 then objw s else (oj0, 10)
theorem readg_fits (v : Int) (s : List UInt8) : (readg v s).1.fits := by
  unfold readg
  split
  · split
    · exact upgr_fits (Od.w_fits s)
    · exact oj0_fits
  · split
    · exact Oj.w_fits s
    · exact oj0_fits
theorem upgrade_Read (v : Int) (s : List UInt8) (hs : s.length ≤ 3000) : AC Tryz.prog 6 [iv .u8 v, sv (bs s)] [] fun x σ => x = .t [ojV (readg v s).1, iv .i64 (readg v s).2] ∧ σ = [] := by
  refine AC.walk Tryz.func6 rfl (by decide) (of_decide_eq_true rfl) ?_
  have hfo := Od.w_fits s
  have hd := legacy_Decode s (by omega)
  have hu := upgrade_Up _ hfo
  have ho := object_Decode s (by omega)
  unfold readg
  generalize oldw s = z at *
  generalize objw s = y at *
  obtain ⟨a, e⟩ := z
  obtain ⟨b, g⟩ := y
  simp only at hd hu ho ⊢
  generalize upgr a = c at *
  obtain ⟨c, f⟩ := c
  simp only at hu ⊢
  by_cases h1 : v = 1
  · by_cases he : e = 0
    · rw [if_pos h1, if_pos he]
      focus (have kxs : 987654321 = 987654320 + 1 := rfl; have kk1 := uN [] (hd); have kk2 := uN [] (hu); have kk3 := uN [] (ho); (repeat' (first | refine G ?_ | refine AW.ret ?_ | (refine GC ?_ ?_ <;> intro h <;> (try simp only [hsB] at h) <;> try (exfalso; first | omega | contradiction)) | (refine GL ?_ ?_ <;> intro h <;> (try simp only [Bool.not_true, Bool.not_false] at h) <;> (try simp only [h]) <;> (try simp only [hsB] at h) <;> try (exfalso; first | omega | contradiction)) | fail)); all_goals clear kxs kk1 kk2 kk3)
      all_goals first | ((all_goals first | exact RetQ.fr 0 | exact RetQ.fn 0 | fail); done) | (exfalso; simp_all; done) | (exfalso; omega)
    · rw [if_pos h1, if_neg he]
      focus (have kxs : 987654321 = 987654320 + 1 := rfl; have kk1 := uN [] (hd); have kk2 := uN [] (hu); have kk3 := uN [] (ho); (repeat' (first | refine G ?_ | refine AW.ret ?_ | (refine GC ?_ ?_ <;> intro h <;> (try simp only [hsB] at h) <;> try (exfalso; first | omega | contradiction)) | (refine GL ?_ ?_ <;> intro h <;> (try simp only [Bool.not_true, Bool.not_false] at h) <;> (try simp only [h]) <;> (try simp only [hsB] at h) <;> try (exfalso; first | omega | contradiction)) | fail)); all_goals clear kxs kk1 kk2 kk3)
      all_goals first | (((all_goals first | refine RetQ.r 0 rfl (Nat.le_of_ble_eq_true rfl) rfl (by first | rfl | (simp only [go_sem, ↓reduceIte, Nat.reduceLT, Nat.lt_irrefl])) ⟨?_, ?_⟩ | refine RetQ.n 0 rfl (Nat.le_of_ble_eq_true rfl) rfl (by first | rfl | (simp only [go_sem, ↓reduceIte, Nat.reduceLT, Nat.lt_irrefl])) ⟨?_, ?_⟩); (all_goals first | rfl | (simp [oj0, *]; done) | ((simp only [go_sem, ↓reduceIte, Nat.reduceLT, oj0]; (repeat' split)) <;> first | rfl | (exfalso; omega) | (simp_all; done) | (simp_all; omega)))); done) | (exfalso; simp_all; done) | (exfalso; omega)
  · by_cases h2 : v = 2
    · rw [if_neg h1, if_pos h2]
      focus (have kxs : 987654321 = 987654320 + 1 := rfl; have kk1 := uN [] (hd); have kk2 := uN [] (hu); have kk3 := uN [] (ho); (repeat' (first | refine G ?_ | refine AW.ret ?_ | (refine GC ?_ ?_ <;> intro h <;> (try simp only [hsB] at h) <;> try (exfalso; first | omega | contradiction)) | (refine GL ?_ ?_ <;> intro h <;> (try simp only [Bool.not_true, Bool.not_false] at h) <;> (try simp only [h]) <;> (try simp only [hsB] at h) <;> try (exfalso; first | omega | contradiction)) | fail)); all_goals clear kxs kk1 kk2 kk3)
      all_goals first | ((all_goals first | exact RetQ.fr 0 | exact RetQ.fn 0 | fail); done) | (exfalso; simp_all; done) | (exfalso; omega)
    · rw [if_neg h1, if_neg h2]
      focus (have kxs : 987654321 = 987654320 + 1 := rfl; have kk1 := uN [] (hd); have kk2 := uN [] (hu); have kk3 := uN [] (ho); (repeat' (first | refine G ?_ | refine AW.ret ?_ | (refine GC ?_ ?_ <;> intro h <;> (try simp only [hsB] at h) <;> try (exfalso; first | omega | contradiction)) | (refine GL ?_ ?_ <;> intro h <;> (try simp only [Bool.not_true, Bool.not_false] at h) <;> (try simp only [h]) <;> (try simp only [hsB] at h) <;> try (exfalso; first | omega | contradiction)) | fail)); all_goals clear kxs kk1 kk2 kk3)
      all_goals first | (((all_goals first | refine RetQ.r 0 rfl (Nat.le_of_ble_eq_true rfl) rfl (by first | rfl | (simp only [go_sem, ↓reduceIte, Nat.reduceLT, Nat.lt_irrefl])) ⟨?_, ?_⟩ | refine RetQ.n 0 rfl (Nat.le_of_ble_eq_true rfl) rfl (by first | rfl | (simp only [go_sem, ↓reduceIte, Nat.reduceLT, Nat.lt_irrefl])) ⟨?_, ?_⟩); (all_goals first | rfl | (simp [oj0, *]; done) | ((simp only [go_sem, ↓reduceIte, Nat.reduceLT, oj0]; (repeat' split)) <;> first | rfl | (exfalso; omega) | (simp_all; done) | (simp_all; omega)))); done) | (exfalso; simp_all; done) | (exfalso; omega)
theorem ref18_Read (v : Int) (s : List UInt8) (hs : s.length ≤ 3000) : AC Tryz.prog 7 [iv .u8 v, sv (bs s)] [] fun x σ => x = .t [ojV (readg v s).1, iv .i64 (readg v s).2] ∧ σ = [] := by
  refine AC.walk Tryz.func7 rfl (by decide) (of_decide_eq_true rfl) ?_
  have hfo := Od.w_fits s
  have hd := ref17_Decode s (by omega)
  have hu := ref18_Up _ hfo
  have ho := ref16_Decode s (by omega)
  unfold readg
  generalize oldw s = z at *
  generalize objw s = y at *
  obtain ⟨a, e⟩ := z
  obtain ⟨b, g⟩ := y
  simp only at hd hu ho ⊢
  generalize upgr a = c at *
  obtain ⟨c, f⟩ := c
  simp only at hu ⊢
  by_cases h1 : v = 1
  · by_cases he : e = 0
    · rw [if_pos h1, if_pos he]
      focus (have kxs : 987654321 = 987654320 + 1 := rfl; have kk1 := uN [] (hd); have kk2 := uN [] (hu); have kk3 := uN [] (ho); (repeat' (first | refine G ?_ | refine AW.ret ?_ | (refine GC ?_ ?_ <;> intro h <;> (try simp only [hsB] at h) <;> try (exfalso; first | omega | contradiction)) | (refine GL ?_ ?_ <;> intro h <;> (try simp only [Bool.not_true, Bool.not_false] at h) <;> (try simp only [h]) <;> (try simp only [hsB] at h) <;> try (exfalso; first | omega | contradiction)) | fail)); all_goals clear kxs kk1 kk2 kk3)
      all_goals first | ((all_goals first | exact RetQ.fr 0 | exact RetQ.fn 0 | fail); done) | (exfalso; simp_all; done) | (exfalso; omega)
    · rw [if_pos h1, if_neg he]
      focus (have kxs : 987654321 = 987654320 + 1 := rfl; have kk1 := uN [] (hd); have kk2 := uN [] (hu); have kk3 := uN [] (ho); (repeat' (first | refine G ?_ | refine AW.ret ?_ | (refine GC ?_ ?_ <;> intro h <;> (try simp only [hsB] at h) <;> try (exfalso; first | omega | contradiction)) | (refine GL ?_ ?_ <;> intro h <;> (try simp only [Bool.not_true, Bool.not_false] at h) <;> (try simp only [h]) <;> (try simp only [hsB] at h) <;> try (exfalso; first | omega | contradiction)) | fail)); all_goals clear kxs kk1 kk2 kk3)
      all_goals first | (((all_goals first | refine RetQ.r 0 rfl (Nat.le_of_ble_eq_true rfl) rfl (by first | rfl | (simp only [go_sem, ↓reduceIte, Nat.reduceLT, Nat.lt_irrefl])) ⟨?_, ?_⟩ | refine RetQ.n 0 rfl (Nat.le_of_ble_eq_true rfl) rfl (by first | rfl | (simp only [go_sem, ↓reduceIte, Nat.reduceLT, Nat.lt_irrefl])) ⟨?_, ?_⟩); (all_goals first | rfl | (simp [oj0, *]; done) | ((simp only [go_sem, ↓reduceIte, Nat.reduceLT, oj0]; (repeat' split)) <;> first | rfl | (exfalso; omega) | (simp_all; done) | (simp_all; omega)))); done) | (exfalso; simp_all; done) | (exfalso; omega)
  · by_cases h2 : v = 2
    · rw [if_neg h1, if_pos h2]
      focus (have kxs : 987654321 = 987654320 + 1 := rfl; have kk1 := uN [] (hd); have kk2 := uN [] (hu); have kk3 := uN [] (ho); (repeat' (first | refine G ?_ | refine AW.ret ?_ | (refine GC ?_ ?_ <;> intro h <;> (try simp only [hsB] at h) <;> try (exfalso; first | omega | contradiction)) | (refine GL ?_ ?_ <;> intro h <;> (try simp only [Bool.not_true, Bool.not_false] at h) <;> (try simp only [h]) <;> (try simp only [hsB] at h) <;> try (exfalso; first | omega | contradiction)) | fail)); all_goals clear kxs kk1 kk2 kk3)
      all_goals first | ((all_goals first | exact RetQ.fr 0 | exact RetQ.fn 0 | fail); done) | (exfalso; simp_all; done) | (exfalso; omega)
    · rw [if_neg h1, if_neg h2]
      focus (have kxs : 987654321 = 987654320 + 1 := rfl; have kk1 := uN [] (hd); have kk2 := uN [] (hu); have kk3 := uN [] (ho); (repeat' (first | refine G ?_ | refine AW.ret ?_ | (refine GC ?_ ?_ <;> intro h <;> (try simp only [hsB] at h) <;> try (exfalso; first | omega | contradiction)) | (refine GL ?_ ?_ <;> intro h <;> (try simp only [Bool.not_true, Bool.not_false] at h) <;> (try simp only [h]) <;> (try simp only [hsB] at h) <;> try (exfalso; first | omega | contradiction)) | fail)); all_goals clear kxs kk1 kk2 kk3)
      all_goals first | (((all_goals first | refine RetQ.r 0 rfl (Nat.le_of_ble_eq_true rfl) rfl (by first | rfl | (simp only [go_sem, ↓reduceIte, Nat.reduceLT, Nat.lt_irrefl])) ⟨?_, ?_⟩ | refine RetQ.n 0 rfl (Nat.le_of_ble_eq_true rfl) rfl (by first | rfl | (simp only [go_sem, ↓reduceIte, Nat.reduceLT, Nat.lt_irrefl])) ⟨?_, ?_⟩); (all_goals first | rfl | (simp [oj0, *]; done) | ((simp only [go_sem, ↓reduceIte, Nat.reduceLT, oj0]; (repeat' split)) <;> first | rfl | (exfalso; omega) | (simp_all; done) | (simp_all; omega)))); done) | (exfalso; simp_all; done) | (exfalso; omega)

theorem upgradeReads (v : Int) (s : List UInt8) (hs : s.length ≤ 9223372036854775807) : AC Tryz.prog 3 [iv .u8 v, sv (bs s)] [] fun x σ => x = bv true ∧ σ = [] := by
  refine AC.walk Tryz.func3 rfl (by decide) (of_decide_eq_true rfl) ?_
  by_cases h3 : s.length ≤ 3000
  case neg =>
    focus (have kxs : 987654321 = 987654320 + 1 := rfl; have kk1 := uN [] (awake18); (repeat' (first | refine G ?_ | refine AW.ret ?_ | (refine GC ?_ ?_ <;> intro h <;> (try simp only [hsB] at h) <;> try (exfalso; first | omega | contradiction)) | (refine GL ?_ ?_ <;> intro h <;> (try simp only [Bool.not_true, Bool.not_false] at h) <;> (try simp only [h]) <;> (try simp only [hsB] at h) <;> try (exfalso; first | omega | contradiction)) | fail)); all_goals clear kxs kk1)
    all_goals first | (exfalso; omega) | ((all_goals first | exact RetQ.fr 0 | exact RetQ.fn 0 | fail); done)
  have hfa := readg_fits v s
  have ha := upgrade_Read v s h3
  have hb := ref18_Read v s h3
  generalize readg v s = z at *
  obtain ⟨a, e⟩ := z
  simp only at hfa ha hb
  have hsm := ref16_Same a a hfa.2.1 (fun x hx => ⟨(hfa.2.2 x hx).1.1.1, (hfa.2.2 x hx).2.1.1⟩)
  focus (have kxs : 987654321 = 987654320 + 1 := rfl; have kk1 := uN [] (awake18); have kk2 := uN [] (ha); have kk3 := uN [] (hb); have kk4 := uN [] (hsm); (repeat' (first | refine G ?_ | refine AW.ret ?_ | (refine GC ?_ ?_ <;> intro h <;> (try simp only [hsB] at h) <;> try (exfalso; first | omega | contradiction)) | (refine GL ?_ ?_ <;> intro h <;> (try simp only [Bool.not_true, Bool.not_false] at h) <;> (try simp only [h]) <;> (try simp only [hsB] at h) <;> try (exfalso; first | omega | contradiction)) | fail)); all_goals clear kxs kk1 kk2 kk3 kk4)
  all_goals first | ((all_goals first | exact RetQ.fr 0 | exact RetQ.fn 0 | fail); done) | (exfalso; simp_all; done)
end Go.AW
