/-
  Row 17: the laws.
-/
import Derived.Test.YtiiacdheopdooaaLeg7
namespace Go.AW
open Go Go.Proofs Go.RowKit
set_option maxHeartbeats 2000000
set_option maxRecDepth 10000
set_option linter.unusedSimpArgs false
set_option linter.unusedVariables false
attribute [local irreducible] thenQ blockQ RetQ AL AW AC AOp

theorem awake17 : AC Try.prog 59 [] [] fun x σ => x = bv true ∧ σ = [] := by
  have hg : gold ⟨[107], [⟨[([97], 1)], false, [118]⟩]⟩ := ⟨by decide, by simp⟩
  have he : olde ⟨[107], [⟨[([97], 1)], false, [118]⟩]⟩ = ([1, 107, 1, 1, 1, 97, 1, 0, 1, 118], 0) := by
    have h1 : vput 1 = [1] := by rw [vput_small (by decide)]; rfl
    have h2 : eold ⟨[107], [⟨[([97], 1)], false, [118]⟩]⟩ = (vput 1 ++ [107]) ++ (vput 1 ++ (((vput 1 ++ ((((vput 1 ++ [97]) ++ vput 1) ++ []))) ++ ([0] ++ (vput 1 ++ [118]))) ++ [])) := rfl
    rw [h1] at h2
    rw [olde_fit hg.1 (by rw [h2]; decide), h2]; rfl
  refine AC.walk Try.func59 rfl (by decide) (of_decide_eq_true rfl) ?_
  focus (have kxs := he; have kk1 := uL (legacy_Encode ⟨[107], [⟨[([97], 1)], false, [118]⟩]⟩ ⟨by decide, by decide, by simp [Os1.fits, Vec.fits]⟩); (repeat' (first | refine G ?_ | refine AW.ret ?_ | (refine GC ?_ ?_ <;> intro h <;> (try simp only [hsB] at h) <;> try (exfalso; first | omega | contradiction)) | (refine GL ?_ ?_ <;> intro h <;> (try simp only [Bool.not_true, Bool.not_false] at h) <;> (try simp only [h]) <;> (try simp only [hsB] at h) <;> try (exfalso; first | omega | contradiction)) | fail)); all_goals clear kxs kk1)
  all_goals first | ((all_goals first | exact RetQ.fr 0 | exact RetQ.fn 0 | fail); done) | (exfalso; simp_all; done)

theorem Od.gold_of {o : Od} (h : o.check = 0) (hf : o.fits) : gold o := ⟨h, fun x hx => (hf.2.2 x hx).1.2.2⟩
theorem Od.fits_of {o : Od} (h : gold o) : o.fits := by
  obtain ⟨h1, h2⟩ := Od.check_parts h.1
  obtain ⟨k1, k2, k3, k4⟩ := outside_zero.1 h1
  refine ⟨by omega, by omega, fun x hx => ?_⟩
  obtain ⟨g1, g2, g3⟩ := (ocheck_parts _ _ h2).1 x hx
  have := Vec.check_len g1
  exact ⟨⟨by omega, fun y hy => Nat.le_trans (this.2 y hy) (by decide), h.2 x hx⟩, by omega⟩
theorem Od.w_fits (s : List UInt8) : (oldw s).1.fits := by
  by_cases h : (oldw s).2 = 0
  · exact Od.fits_of (oldw_back h).1
  · rw [oldw_bad h]; exact ⟨by decide, by decide, fun x hx => (List.not_mem_nil hx).elim⟩

theorem legacyEncodes (o q : Od) (ho : o.fits) (hq : q.fits) : AC Try.prog 21 [odV o, odV q] [] fun x σ => x = bv true ∧ σ = [] := by
  refine AC.walk Try.func21 rfl (by decide) (of_decide_eq_true rfl) ?_
  by_cases hgo : o.great = true
  · focus (have kxs := hgo; have kk1 := uN [] (awake17); have kk2 := uN [] (ref17_Great o ho); (repeat' (first | (refine ADr.nil ?_; try clear hgv) | refine GO ?_ | refine AW.ret ?_ | (refine GC ?_ ?_ <;> intro h <;> (try simp only [hsB] at h) <;> try (exfalso; first | omega | contradiction)) | (refine GD ?_ ?_ <;> intro h <;> (try intro hgv) <;> (try simp only [Bool.not_true, Bool.not_false] at h) <;> (try simp only [h]) <;> (try simp only [hsB] at h) <;> try (exfalso; first | omega | contradiction)) | (refine GL ?_ ?_ <;> intro h <;> (try simp only [Bool.not_true, Bool.not_false] at h) <;> (try simp only [h]) <;> (try simp only [hsB] at h) <;> try (exfalso; first | omega | contradiction)) | fail)); all_goals clear kxs kk1 kk2)
    all_goals first | ((all_goals first | exact RetQ.fr 0 | exact RetQ.fn 0 | fail); done) | (exfalso; simp_all; done)
  have hgo : o.great = false := by simpa using hgo
  by_cases hgq : q.great = true
  · focus (have kxs := And.intro hgo hgq; have kk1 := uN [] (awake17); have kk2 := uN [] (ref17_Great o ho); have kk3 := uN [] (ref17_Great q hq); (repeat' (first | (refine ADr.nil ?_; try clear hgv) | refine GO ?_ | refine AW.ret ?_ | (refine GC ?_ ?_ <;> intro h <;> (try simp only [hsB] at h) <;> try (exfalso; first | omega | contradiction)) | (refine GD ?_ ?_ <;> intro h <;> (try intro hgv) <;> (try simp only [Bool.not_true, Bool.not_false] at h) <;> (try simp only [h]) <;> (try simp only [hsB] at h) <;> try (exfalso; first | omega | contradiction)) | (refine GL ?_ ?_ <;> intro h <;> (try simp only [Bool.not_true, Bool.not_false] at h) <;> (try simp only [h]) <;> (try simp only [hsB] at h) <;> try (exfalso; first | omega | contradiction)) | fail)); all_goals clear kxs kk1 kk2 kk3)
    all_goals first | ((all_goals first | exact RetQ.fr 0 | exact RetQ.fn 0 | fail); done) | (exfalso; simp_all; done)
  have hgq : q.great = false := by simpa using hgq
  by_cases hc : o.check = 0
  · have hg := Od.gold_of hc ho
    have hl := eold_len hg hgo
    have he := olde_fit hc hl
    have hw := oldw_fore hg
    focus (have kxs := And.intro hgo (And.intro hgq (And.intro he (And.intro hw hc))); have kk1 := uN [] (awake17); have kk2 := uN [] (ref17_Great o ho); have kk3 := uN [] (ref17_Great q hq); have kk4 := uN [] (legacy_Encode o ho); have kk5 := uN [] (ref17_Encode o ho); have kk6 := uN [] (legacy_Check o ho); have kk7 := uN [] (ref17_Check o ho); have kk8 := uN [] (legacy_Same o q ho); have kk9 := uN [] (ref17_Same o q ho); have kk10 := uN [] (legacy_Alike o q ho hq); have kk11 := uN [] (ref17_Alike o q ho hq); have kk12 := uN [] (legacy_Decode (eold o) (by omega)); have kk13 := uN [] (ref17_Same o o ho); (repeat' (first | (refine ADr.nil ?_; try clear hgv) | refine GO ?_ | refine AW.ret ?_ | (refine GC ?_ ?_ <;> intro h <;> (try simp only [hsB] at h) <;> try (exfalso; first | omega | contradiction)) | (refine GD ?_ ?_ <;> intro h <;> (try intro hgv) <;> (try simp only [Bool.not_true, Bool.not_false] at h) <;> (try simp only [h]) <;> (try simp only [hsB] at h) <;> try (exfalso; first | omega | contradiction)) | (refine GL ?_ ?_ <;> intro h <;> (try simp only [Bool.not_true, Bool.not_false] at h) <;> (try simp only [h]) <;> (try simp only [hsB] at h) <;> try (exfalso; first | omega | contradiction)) | fail)); all_goals clear kxs kk1 kk2 kk3 kk4 kk5 kk6 kk7 kk8 kk9 kk10 kk11 kk12 kk13)
    all_goals first | ((all_goals first | exact RetQ.fr 0 | exact RetQ.fn 0 | fail); done) | (exfalso; simp_all; done)
  · have he := olde_bad hc
    focus (have kxs := And.intro hgo (And.intro hgq he); have kk1 := uN [] (awake17); have kk2 := uN [] (ref17_Great o ho); have kk3 := uN [] (ref17_Great q hq); have kk4 := uN [] (legacy_Encode o ho); have kk5 := uN [] (ref17_Encode o ho); have kk6 := uN [] (legacy_Check o ho); have kk7 := uN [] (ref17_Check o ho); have kk8 := uN [] (legacy_Same o q ho); have kk9 := uN [] (ref17_Same o q ho); have kk10 := uN [] (legacy_Alike o q ho hq); have kk11 := uN [] (ref17_Alike o q ho hq); (repeat' (first | (refine ADr.nil ?_; try clear hgv) | refine GO ?_ | refine AW.ret ?_ | (refine GC ?_ ?_ <;> intro h <;> (try simp only [hsB] at h) <;> try (exfalso; first | omega | contradiction)) | (refine GD ?_ ?_ <;> intro h <;> (try intro hgv) <;> (try simp only [Bool.not_true, Bool.not_false] at h) <;> (try simp only [h]) <;> (try simp only [hsB] at h) <;> try (exfalso; first | omega | contradiction)) | (refine GL ?_ ?_ <;> intro h <;> (try simp only [Bool.not_true, Bool.not_false] at h) <;> (try simp only [h]) <;> (try simp only [hsB] at h) <;> try (exfalso; first | omega | contradiction)) | fail)); all_goals clear kxs kk1 kk2 kk3 kk4 kk5 kk6 kk7 kk8 kk9 kk10 kk11)
    all_goals first | ((all_goals first | exact RetQ.fr 0 | exact RetQ.fn 0 | fail); done) | (exfalso; simp_all; done)

theorem legacyDecodes (s : List UInt8) (hs : s.length ≤ 9223372036854775807) : AC Try.prog 17 [sv (bs s)] [] fun x σ => x = bv true ∧ σ = [] := by
  refine AC.walk Try.func17 rfl (by decide) (of_decide_eq_true rfl) ?_
  by_cases h3 : s.length ≤ 3000
  case neg =>
    focus (have kxs : 987654321 = 987654320 + 1 := rfl; have kk1 := uN [] (awake17); (repeat' (first | refine G ?_ | refine AW.ret ?_ | (refine GC ?_ ?_ <;> intro h <;> (try simp only [hsB] at h) <;> try (exfalso; first | omega | contradiction)) | (refine GL ?_ ?_ <;> intro h <;> (try simp only [Bool.not_true, Bool.not_false] at h) <;> (try simp only [h]) <;> (try simp only [hsB] at h) <;> try (exfalso; first | omega | contradiction)) | fail)); all_goals clear kxs kk1)
    all_goals first | (exfalso; omega) | ((all_goals first | exact RetQ.fr 0 | exact RetQ.fn 0 | fail); done)
  have hfit := Od.w_fits s
  by_cases he : (oldw s).2 = 0
  · obtain ⟨hg, hs2⟩ := oldw_back he
    have hen : olde (oldw s).1 = (s, 0) := by rw [olde_fit hg.1 (by rw [← hs2]; omega), ← hs2]
    have hck := hg.1
    generalize hz : oldw s = z at *
    obtain ⟨v, e⟩ := z
    simp only at *
    focus (have kxs := And.intro hz (And.intro hen (And.intro he hck)); have kk1 := uN [] (awake17); have kk2 := uN [] (legacy_Decode s (by omega)); have kk3 := uN [] (ref17_Decode s (by omega)); have kk4 := uN [] (ref17_Same v v hfit); have kk5 := uN [] (legacy_Encode v hfit); have kk6 := uN [] (ref17_Check v hfit); (repeat' (first | refine G ?_ | refine AW.ret ?_ | (refine GC ?_ ?_ <;> intro h <;> (try simp only [hsB] at h) <;> try (exfalso; first | omega | contradiction)) | (refine GL ?_ ?_ <;> intro h <;> (try simp only [Bool.not_true, Bool.not_false] at h) <;> (try simp only [h]) <;> (try simp only [hsB] at h) <;> try (exfalso; first | omega | contradiction)) | fail)); all_goals clear kxs kk1 kk2 kk3 kk4 kk5 kk6)
    all_goals first | ((all_goals first | exact RetQ.fr 0 | exact RetQ.fn 0 | fail); done) | (exfalso; simp_all; done)
  · have hb := oldw_bad he
    generalize hz : oldw s = z at *
    obtain ⟨v, e⟩ := z
    simp only at *
    focus (have kxs := hz; have kk1 := uN [] (awake17); have kk2 := uN [] (legacy_Decode s (by omega)); have kk3 := uN [] (ref17_Decode s (by omega)); have kk4 := uN [] (ref17_Same v v hfit); (repeat' (first | refine G ?_ | refine AW.ret ?_ | (refine GC ?_ ?_ <;> intro h <;> (try simp only [hsB] at h) <;> try (exfalso; first | omega | contradiction)) | (refine GL ?_ ?_ <;> intro h <;> (try simp only [Bool.not_true, Bool.not_false] at h) <;> (try simp only [h]) <;> (try simp only [hsB] at h) <;> try (exfalso; first | omega | contradiction)) | fail)); all_goals clear kxs kk1 kk2 kk3 kk4)
    all_goals first | ((all_goals first | exact RetQ.fr 0 | exact RetQ.fn 0 | fail); done) | (exfalso; simp_all; done)

theorem legacyCuts (k : Od) (hk : k.fits) (r : List UInt8) (hr : r.length ≤ 9223372036854775807) : AC Try.prog 18 [odV k, sv (bs r)] [] fun x σ => x = bv true ∧ σ = [] := by
  refine AC.walk Try.func18 rfl (by decide) (of_decide_eq_true rfl) ?_
  by_cases hgr : k.great = true
  · focus (have kxs := hgr; have kk1 := uN [] (awake17); have kk2 := uN [] (ref17_Great k hk); (repeat' (first | refine G ?_ | refine AW.ret ?_ | (refine GC ?_ ?_ <;> intro h <;> (try simp only [hsB] at h) <;> try (exfalso; first | omega | contradiction)) | (refine GL ?_ ?_ <;> intro h <;> (try simp only [Bool.not_true, Bool.not_false] at h) <;> (try simp only [h]) <;> (try simp only [hsB] at h) <;> try (exfalso; first | omega | contradiction)) | fail)); all_goals clear kxs kk1 kk2)
    all_goals first | ((all_goals first | exact RetQ.fr 0 | exact RetQ.fn 0 | fail); done) | (exfalso; simp_all; done)
  have hgr : k.great = false := by simpa using hgr
  by_cases hg0 : 0 < r.length ∧ r.length ≤ 100
  case neg =>
    focus (have kxs := hgr; have kk1 := uN [] (awake17); have kk2 := uN [] (ref17_Great k hk); (repeat' (first | refine G ?_ | refine AW.ret ?_ | (refine GC ?_ ?_ <;> intro h <;> (try simp only [hsB] at h) <;> try (exfalso; first | omega | contradiction)) | (refine GL ?_ ?_ <;> intro h <;> (try simp only [Bool.not_true, Bool.not_false] at h) <;> (try simp only [h]) <;> (try simp only [hsB] at h) <;> try (exfalso; first | omega | contradiction)) | fail)); all_goals clear kxs kk1 kk2)
    all_goals first | ((all_goals first | exact RetQ.fr 0 | exact RetQ.fn 0 | fail); done) | (exfalso; omega)
  obtain ⟨hr0, hr1⟩ := hg0
  by_cases hc : k.check = 0
  case neg =>
    have he := olde_bad hc
    focus (have kxs := And.intro he hgr; have kk1 := uN [] (awake17); have kk2 := uN [] (ref17_Great k hk); have kk3 := uN [] (ref17_Encode k hk); (repeat' (first | refine G ?_ | refine AW.ret ?_ | (refine GC ?_ ?_ <;> intro h <;> (try simp only [hsB] at h) <;> try (exfalso; first | omega | contradiction)) | (refine GL ?_ ?_ <;> intro h <;> (try simp only [Bool.not_true, Bool.not_false] at h) <;> (try simp only [h]) <;> (try simp only [hsB] at h) <;> try (exfalso; first | omega | contradiction)) | fail)); all_goals clear kxs kk1 kk2 kk3)
    all_goals first | ((all_goals first | exact RetQ.fr 0 | exact RetQ.fn 0 | fail); done) | (exfalso; simp_all; done)
  have hg := Od.gold_of hc hk
  have hl := eold_len hg hgr
  have he := olde_fit hc hl
  have htr := oldw_trail hg (r := r) (List.length_pos_iff.1 hr0)
  have hcut : ∀ i, i < (eold k).length → oldw ((eold k).take i) = (od0, 2) := fun i hi => oldw_cut hg hi
  generalize eold k = t at *
  by_cases hl6 : t.length ≤ 6000
  case neg =>
    focus (have kxs := And.intro he hgr; have kk1 := uN [] (awake17); have kk2 := uN [] (ref17_Great k hk); have kk3 := uN [] (ref17_Encode k hk); (repeat' (first | refine G ?_ | refine AW.ret ?_ | (refine GC ?_ ?_ <;> intro h <;> (try simp only [hsB] at h) <;> try (exfalso; first | omega | contradiction)) | (refine GL ?_ ?_ <;> intro h <;> (try simp only [Bool.not_true, Bool.not_false] at h) <;> (try simp only [h]) <;> (try simp only [hsB] at h) <;> try (exfalso; first | omega | contradiction)) | fail)); all_goals clear kxs kk1 kk2 kk3)
    all_goals first | ((all_goals first | exact RetQ.fr 0 | exact RetQ.fn 0 | fail); done) | (exfalso; omega) | (exfalso; simp_all; done)
  focus (have kxs := And.intro he hgr; have kk1 := uN [] (awake17); have kk2 := uN [] (ref17_Great k hk); have kk3 := uN [] (ref17_Encode k hk); (repeat' (first | refine G ?_ | refine AW.ret ?_ | (refine GC ?_ ?_ <;> intro h <;> (try simp only [hsB] at h) <;> try (exfalso; first | omega | contradiction)) | (refine GL ?_ ?_ <;> intro h <;> (try simp only [Bool.not_true, Bool.not_false] at h) <;> (try simp only [h]) <;> (try simp only [hsB] at h) <;> try (exfalso; first | omega | contradiction)) | fail)); all_goals clear kxs kk1 kk2 kk3)
  all_goals first | (exfalso; simp_all; done) | (exfalso; omega) | skip
  refine AW.rounds [1, 4, 5, 7] (fun i : Nat => [(1, sv (bs r)), (4, bv false), (5, sv (bs t)), (7, iv .i64 i)]) (fun _ => []) (fun i => i ≤ t.length) (fun i => t.length - i) 0 (Nat.zero_le _) rfl rfl (fun _ _ => Nat.zero_le _) (fun _ _ => rfl) (fun _ _ => rfl) ?_
  intro i hi J hJ
  by_cases hil : i < t.length
  · have hci := hcut i hil
    focus (have kxs := And.intro hci @Nat.sub_zero; have kk1 := uN [] (legacy_Decode (t.take i) (by rw [List.length_take]; omega)); (repeat' (first | refine G ?_ | refine AW.ret ?_ | (refine GC ?_ ?_ <;> intro h <;> (try simp only [hsB] at h) <;> try (exfalso; first | omega | contradiction)) | (refine GL ?_ ?_ <;> intro h <;> (try simp only [Bool.not_true, Bool.not_false] at h) <;> (try simp only [h]) <;> (try simp only [hsB] at h) <;> try (exfalso; first | omega | contradiction)) | fail)); all_goals clear kxs kk1)
    all_goals first | (refine hJ (i + 1) _ _ (by omega) hil rfl rfl) | (exfalso; simp_all; done)
  · focus (have kxs := htr; have kk1 := uN [] (legacy_Decode (t ++ r) (by rw [List.length_append]; omega)); (repeat' (first | refine G ?_ | refine AW.ret ?_ | (refine GC ?_ ?_ <;> intro h <;> (try simp only [hsB] at h) <;> try (exfalso; first | omega | contradiction)) | (refine GL ?_ ?_ <;> intro h <;> (try simp only [Bool.not_true, Bool.not_false] at h) <;> (try simp only [h]) <;> (try simp only [hsB] at h) <;> try (exfalso; first | omega | contradiction)) | fail)); all_goals clear kxs kk1)
    all_goals first | ((all_goals first | exact RetQ.fr 0 | exact RetQ.fn 0 | fail); done) | (exfalso; simp_all; done)
end Go.AW
