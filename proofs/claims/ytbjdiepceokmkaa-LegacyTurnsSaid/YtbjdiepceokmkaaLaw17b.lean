/-
  Row 17: LegacyTurns.
-/
import Derived.Test.YtbjdiepceokmkaaLaw17
namespace Go.AW
open Go Go.Proofs Go.RowKit
set_option maxHeartbeats 2000000
set_option maxRecDepth 10000
set_option linter.unusedSimpArgs false
set_option linter.unusedVariables false
attribute [local irreducible] thenQ blockQ RetQ AL AW AC AOp

theorem turn_cells (l : List Os1) (k : Nat) : (ossD l).drop (k * 3) ++ (ossD l).take (k * 3) = ossD (l.drop k ++ l.take k) := by
  rw [ossD, flat_drop (f := osD) (sz := 3) (fun _ => rfl), flat_take (f := osD) (sz := 3) (fun _ => rfl), ossD, List.map_append, List.flatten_append]
theorem ossD_ones : ∀ l : List Os1, onesD (ossD l) = true
  | [] => rfl
  | x :: l => by
    have ih := ossD_ones l
    unfold ossD at ih ⊢
    rw [List.map_cons, List.flatten_cons]
    exact ih
theorem legacyTurns (o : Od) (ho : o.fits) (n : Int) (hn : 0 ≤ n ∧ n ≤ 255) : AC Try.prog 3 [odV o, iv .u8 n] [] fun x σ => x = bv true ∧ σ = [] := by
  refine AC.walk Try.func3 rfl (by decide) (of_decide_eq_true rfl) ?_
  by_cases hgo : o.great = true
  · focus (have kxs := hgo; have kk1 := uN [] (awake17); have kk2 := uN [] (ref17_Great o ho); (repeat' (first | (refine ADr.nil ?_; try clear hgv) | refine GO ?_ | refine AW.ret ?_ | (refine GC ?_ ?_ <;> intro h <;> (try simp only [hsB] at h) <;> try (exfalso; first | omega | contradiction)) | (refine GD ?_ ?_ <;> intro h <;> (try intro hgv) <;> (try simp only [Bool.not_true, Bool.not_false] at h) <;> (try simp only [h]) <;> (try simp only [hsB] at h) <;> try (exfalso; first | omega | contradiction)) | (refine GL ?_ ?_ <;> intro h <;> (try simp only [Bool.not_true, Bool.not_false] at h) <;> (try simp only [h]) <;> (try simp only [hsB] at h) <;> try (exfalso; first | omega | contradiction)) | fail)); all_goals clear kxs kk1 kk2)
    all_goals first | ((all_goals first | exact RetQ.fr 0 | exact RetQ.fn 0 | fail); done) | (exfalso; simp_all; done)
  have hgo : o.great = false := by simpa using hgo
  by_cases hc : o.check = 0
  case neg =>
    focus (have kxs := hgo; have kk1 := uN [] (awake17); have kk2 := uN [] (ref17_Great o ho); have kk3 := uN [] (ref17_Check o ho); (repeat' (first | (refine ADr.nil ?_; try clear hgv) | refine GO ?_ | refine AW.ret ?_ | (refine GC ?_ ?_ <;> intro h <;> (try simp only [hsB] at h) <;> try (exfalso; first | omega | contradiction)) | (refine GD ?_ ?_ <;> intro h <;> (try intro hgv) <;> (try simp only [Bool.not_true, Bool.not_false] at h) <;> (try simp only [h]) <;> (try simp only [hsB] at h) <;> try (exfalso; first | omega | contradiction)) | (refine GL ?_ ?_ <;> intro h <;> (try simp only [Bool.not_true, Bool.not_false] at h) <;> (try simp only [h]) <;> (try simp only [hsB] at h) <;> try (exfalso; first | omega | contradiction)) | fail)); all_goals clear kxs kk1 kk2 kk3)
    all_goals first | ((all_goals first | exact RetQ.fr 0 | exact RetQ.fn 0 | fail); done) | (exfalso; simp_all; done)
  obtain ⟨k1, k2, k3, k4⟩ := outside_zero.1 (Od.check_parts hc).1
  obtain ⟨k, hk, hkl⟩ : ∃ k : Nat, n.tmod (o.sibs.length : Nat) = k ∧ k < o.sibs.length := by
    refine ⟨(n.tmod (o.sibs.length : Nat)).toNat, ?_, ?_⟩
    · have := Int.tmod_nonneg (o.sibs.length : Int) hn.1
      omega
    · have h1 := Int.tmod_nonneg (o.sibs.length : Int) hn.1
      have h2 := Int.tmod_lt_of_pos n (b := (o.sibs.length : Int)) (by omega)
      omega
  have hol : (ossD o.sibs).length = o.sibs.length * 3 := flat_len (f := osD) (sz := 3) (fun _ => rfl) o.sibs
  have hd1 : (ossD o.sibs).drop (k * 3) = ossD (o.sibs.drop k) := by rw [ossD, flat_drop (f := osD) (sz := 3) (fun _ => rfl)]
  have hd2 : (ossD o.sibs).take (k * 3) = ossD (o.sibs.take k) := by rw [ossD, flat_take (f := osD) (sz := 3) (fun _ => rfl)]
  have ho1 : onesD (ossD (o.sibs.drop k)) = true := ossD_ones _
  have ho2 : onesD (ossD (o.sibs.take k)) = true := ossD_ones _
  have hl1 : (ossD (o.sibs.drop k)).length = (o.sibs.length - k) * 3 := by rw [ossD, flat_len (f := osD) (sz := 3) (fun _ => rfl), List.length_drop]
  have hl2 : (ossD (o.sibs.take k)).length = k * 3 := by rw [ossD, flat_len (f := osD) (sz := 3) (fun _ => rfl), List.length_take]; omega
  have hg : gold o := ⟨hc, fun x hx => (ho.2.2 x hx).1.2.2⟩
  have hsb : (o.turn k).sibs = o.sibs.drop k ++ o.sibs.take k := rfl
  have hft : (o.turn k).fits := ⟨ho.1, by rw [hsb, turn_length]; exact ho.2.1, fun x hx => ho.2.2 x ((turn_perm o.sibs k).mem_iff.1 hx)⟩
  have hcl : ossD (o.sibs.drop k) ++ ossD (o.sibs.take k) = ossD (o.turn k).sibs := by
    rw [hsb]; unfold ossD; rw [List.map_append, List.flatten_append]
  have hln : o.sibs.length - k + k = (o.turn k).sibs.length := by rw [hsb, turn_length]; omega
  have hodv : odV (o.turn k) = .a [sv (bs o.key), .d (.l (o.sibs.length - k + k) (ossD (o.sibs.drop k) ++ ossD (o.sibs.take k)))] := by rw [hcl, hln]; rfl
  have he1 := legacy_Encode o ho
  have he2 := legacy_Encode _ hft
  have hal := legacy_Alike o (o.turn k) ho hft
  have hsm := legacy_Same o (o.turn k) ho
  have hl0 := eold_len hg hgo
  have hst : (eold o = eold (o.turn k)) = (k = 0) := propext ⟨fun h => (turn_same hc hkl).1 (eold_inj hg (turn_gold hg k) h), fun h => by rw [← (turn_same hc hkl).2 h]⟩
  have hlt := turn_len o k
  have hsk : decide (o = o.turn k) = decide (k = 0) := decide_eq_decide.2 (turn_same hc hkl)
  rw [olde_fit hc (by omega)] at he1
  rw [olde_fit (turn_check hc k) (by omega), hodv] at he2
  rw [turn_alike hc, hodv] at hal
  rw [hsk, hodv] at hsm
  have hki : ((k : Int) = 0) = (k = 0) := propext (by omega)
  have hrr : (decide (k = 0) == decide (k = 0)) = true := by simp
  clear hsk hodv hcl hln hsb
  generalize eold o = s at *
  generalize eold (o.turn k) = t at *
  simp only at he1 he2
  focus (have kxs := And.intro hgo (And.intro hc (And.intro hk (And.intro hd1 (And.intro hd2 (And.intro ho1 (And.intro ho2 (And.intro hlt (And.intro hst (And.intro hki hrr))))))))); have kk1 := uN [] (awake17); have kk2 := uN [] (ref17_Great o ho); have kk3 := uN [] (ref17_Check o ho); have kk4 := uL (he2); have kk5 := uN [] (he1); have kk6 := uL (hal); have kk7 := uL (hsm); (repeat' (first | (refine ADr.nil ?_; try clear hgv) | refine GW ?_ | refine AW.ret ?_ | (refine GC ?_ ?_ <;> intro h <;> (try simp only [hsB] at h) <;> try (exfalso; first | omega | contradiction)) | (refine GD ?_ ?_ <;> intro h <;> (try intro hgv) <;> (try simp only [Bool.not_true, Bool.not_false] at h) <;> (try simp only [h]) <;> (try simp only [hsB] at h) <;> try (exfalso; first | omega | contradiction)) | (refine GL ?_ ?_ <;> intro h <;> (try simp only [Bool.not_true, Bool.not_false] at h) <;> (try simp only [h]) <;> (try simp only [hsB] at h) <;> try (exfalso; first | omega | contradiction)) | fail)); all_goals clear kxs kk1 kk2 kk3 kk4 kk5 kk6 kk7)
  all_goals first | ((all_goals first | exact RetQ.fr 0 | exact RetQ.fn 0 | fail); done) | (exfalso; simp_all; done) | (exfalso; simp_all; omega)
end Go.AW
