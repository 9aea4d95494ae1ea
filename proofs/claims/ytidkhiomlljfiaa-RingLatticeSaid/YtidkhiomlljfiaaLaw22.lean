/-
  Row 22: the laws about texts.
-/
import Derived.Test.YtidkhiomlljfiaaAwNil
import Derived.Test.YtidkhiomlljfiaaRng8
import Derived.Test.YtidkhiomlljfiaaRng9
import Derived.Test.YtidkhiomlljfiaaRng10
import Derived.Test.YtidkhiomlljfiaaMc
namespace Go.AW
open Go Go.Proofs Go.RowKit
set_option maxHeartbeats 4000000
set_option maxRecDepth 10000
set_option linter.unusedSimpArgs false
set_option linter.unusedVariables false
attribute [local irreducible] thenQ blockQ RetQ AL AW AC AOp

theorem awake22 : AC Try.prog 9 [] [] fun x σ => x = bv true ∧ σ = [] := by
  have he : ringe [⟨[110], 1, 1, []⟩] = ([1, 1, 110, 1, 1, 0], 0) := by
    unfold ringe
    rw [if_neg (by decide)]
    have h1 : vput 1 = [1] := by rw [vput_small (by decide)]; rfl
    have h0 : vput 0 = [0] := by rw [vput_small (by decide)]; rfl
    have h2 : ering [⟨[110], 1, 1, []⟩] = vput 1 ++ (((vput 1 ++ [110]) ++ (vput 1 ++ ([1] ++ (vput 0 ++ [])))) ++ []) := rfl
    rw [h2, h1, h0]; rfl
  have hen := ring_Encode [⟨[110], 1, 1, []⟩] ⟨by decide, by simp [Mb.fits]⟩
  rw [he] at hen
  refine AC.walk Try.func9 rfl (by decide) (of_decide_eq_true rfl) ?_
  have hc := AC.nzd [.d (.l 1 [.s (.string ⟨#[110]⟩), .s (.int .u64 1), .s (.int .u8 1), .s (.slice none 0 0)])] hen
  focus (have kxs : 987654321 = 987654320 + 1 := rfl; have kk1 := uL (hc); (repeat' (first | refine G ?_ | refine AW.ret ?_ | (refine GC ?_ ?_ <;> intro h <;> (try simp only [hsB] at h) <;> try (exfalso; first | omega | contradiction)) | (refine GL ?_ ?_ <;> intro h <;> (try simp only [Bool.not_true, Bool.not_false] at h) <;> (try simp only [h]) <;> (try simp only [hsB] at h) <;> try (exfalso; first | omega | contradiction)) | fail)); all_goals clear kxs kk1)
  all_goals first | ((all_goals first | exact RetQ.fr 0 | exact RetQ.fn 0 | fail); done) | (exfalso; simp_all; done)

theorem Ring.fits_of {l : Ring} (h : gring l) : l.fits := by
  obtain ⟨h1, h2⟩ := Ring.check_parts h.1
  exact ⟨by omega, fun x hx => ⟨h.2 x hx, by have := (h2 x hx).1; omega, by have := (h2 x hx).2.2.2.2.1; omega⟩⟩
theorem Ring.fits_nil : Ring.fits [] := ⟨by decide, fun x hx => (List.not_mem_nil hx).elim⟩
theorem ringw_fits (s : List UInt8) : (ringw s).1.fits := by
  by_cases h : (ringw s).2 = 0
  · exact Ring.fits_of (rdw_back trip_ring h).1
  · rw [show (ringw s).1 = [] from rdw_bad h]; exact Ring.fits_nil
theorem ring_fits (c : Cu) : (Cu.ring c).1.fits := by
  by_cases h : (Cu.ring c).2.e = 0
  · exact Ring.fits_of (trip_ring.back c h).1
  · have : (Cu.ring c).1 = [] := if_pos h
    rw [this]; exact Ring.fits_nil
theorem ringe_good {l : Ring} (h : Ring.check l = 0) : ringe l = (ering l, 0) := by unfold ringe; rw [if_neg (by simpa using h)]
theorem ringe_bad {l : Ring} (h : Ring.check l ≠ 0) : ringe l = ([], Ring.check l) := by unfold ringe; rw [if_pos h]

theorem ringDecodes (s : List UInt8) (hs : s.length ≤ 9223372036854775807) : AC Try.prog 5 [sv (bs s)] [] fun x σ => x = bv true ∧ σ = [] := by
  refine AC.walk Try.func5 rfl (by decide) (of_decide_eq_true rfl) ?_
  by_cases h3 : s.length ≤ 5000
  case neg =>
    focus (have kxs : 987654321 = 987654320 + 1 := rfl; have kk1 := uN [] (awake22); (repeat' (first | (refine ADr.nil ?_; try clear hgv) | refine GO ?_ | refine AW.ret ?_ | (refine GC ?_ ?_ <;> intro h <;> (try simp only [hsB] at h) <;> try (exfalso; first | omega | contradiction)) | (refine GD ?_ ?_ <;> intro h <;> (try intro hgv) <;> (try simp only [Bool.not_true, Bool.not_false] at h) <;> (try simp only [h]) <;> (try simp only [hsB] at h) <;> try (exfalso; first | omega | contradiction)) | (refine GL ?_ ?_ <;> intro h <;> (try simp only [Bool.not_true, Bool.not_false] at h) <;> (try simp only [h]) <;> (try simp only [hsB] at h) <;> try (exfalso; first | omega | contradiction)) | fail)); all_goals clear kxs kk1)
    all_goals first | (exfalso; omega) | ((all_goals first | exact RetQ.fr 0 | exact RetQ.fn 0 | fail); done)
  have hfit := ringw_fits s
  have hrf := ring_fits ⟨s, 0, 0⟩
  have hde := ring_Decode s (by omega)
  have hrd := ref22_Decode s (by omega)
  have hok : Cu.Ok ⟨s, 0, 0⟩ := ⟨by show s.length ≤ _; omega, Nat.zero_le _⟩
  have htk := ring_Take s 0 0 hok
  have hrt := ref22_Take s 0 0 hok
  have hnew := @cursor_New s
  have ht2 := hrt
  have hs2 := ref22_Same (Cu.ring ⟨s, 0, 0⟩).1 (Cu.ring ⟨s, 0, 0⟩).1 hrf.1 (fun x hx => (hrf.2 x hx).2.2)
  have hs1 := ref22_Same (ringw s).1 (ringw s).1 hfit.1 (fun x hx => (hfit.2 x hx).2.2)
  rw [show decide ((Cu.ring ⟨s, 0, 0⟩).1 = (Cu.ring ⟨s, 0, 0⟩).1) = true by simp] at hs2
  rw [show decide ((ringw s).1 = (ringw s).1) = true by simp] at hs1
  have hend : (ringw s).2 = 0 → ringe (ringw s).1 = (s, 0) ∧ Ring.check (ringw s).1 = 0 := fun h => by
    obtain ⟨g1, g2⟩ := rdw_back (d := []) trip_ring h
    refine ⟨?_, g1.1⟩
    rw [ringe_good g1.1, ← g2]
  generalize Cu.ring ⟨s, 0, 0⟩ = z at *
  obtain ⟨l, c⟩ := z
  have herr := cursor_Err c.s c.a c.e
  have hat := cursor_At c.s c.a c.e
  generalize ringw s = z at *
  obtain ⟨v, e⟩ := z
  simp only at *
  have hen := ring_Encode v hfit
  have hck := ref22_Check v hfit
  by_cases he : e = 0
  · obtain ⟨g1, g2⟩ := hend he
    rw [g1] at hen
    rw [g2] at hck
    focus (have kxs := he; have kk1 := uN [] (awake22); have kk2 := uN [] (hde); have kk3 := uN [] (hrd); have kk4 := uN [] (hs1); have kk5 := uN [] (hnew); have kk6 := uN [0] (htk); have kk7 := uN [1] (hrt); have kk8 := uN [] (hs2); have kk9 := uN [0] (herr); have kk10 := uN [0] (hat); have kk11 := uN [] (hen); have kk12 := uN [] (hck); (repeat' (first | (refine ADr.nil ?_; try clear hgv) | refine GW ?_ | refine AW.ret ?_ | (refine GC ?_ ?_ <;> intro h <;> (try simp only [hsB] at h) <;> try (exfalso; first | omega | contradiction)) | (refine GD ?_ ?_ <;> intro h <;> (try intro hgv) <;> (try simp only [Bool.not_true, Bool.not_false] at h) <;> (try simp only [h]) <;> (try simp only [hsB] at h) <;> try (exfalso; first | omega | contradiction)) | (refine GL ?_ ?_ <;> intro h <;> (try simp only [Bool.not_true, Bool.not_false] at h) <;> (try simp only [h]) <;> (try simp only [hsB] at h) <;> try (exfalso; first | omega | contradiction)) | fail)); all_goals clear kxs kk1 kk2 kk3 kk4 kk5 kk6 kk7 kk8 kk9 kk10 kk11 kk12)
    all_goals first | ((all_goals first | exact RetQ.fr 0 | exact RetQ.fn 0 | fail); done) | (exfalso; simp_all; done)
  · focus (have kxs : 987654321 = 987654320 + 1 := rfl; have kk1 := uN [] (awake22); have kk2 := uN [] (hde); have kk3 := uN [] (hrd); have kk4 := uN [] (hs1); have kk5 := uN [] (hnew); have kk6 := uN [0] (htk); have kk7 := uN [1] (hrt); have kk8 := uN [] (hs2); have kk9 := uN [0] (herr); have kk10 := uN [0] (hat); (repeat' (first | (refine ADr.nil ?_; try clear hgv) | refine GW ?_ | refine AW.ret ?_ | (refine GC ?_ ?_ <;> intro h <;> (try simp only [hsB] at h) <;> try (exfalso; first | omega | contradiction)) | (refine GD ?_ ?_ <;> intro h <;> (try intro hgv) <;> (try simp only [Bool.not_true, Bool.not_false] at h) <;> (try simp only [h]) <;> (try simp only [hsB] at h) <;> try (exfalso; first | omega | contradiction)) | (refine GL ?_ ?_ <;> intro h <;> (try simp only [Bool.not_true, Bool.not_false] at h) <;> (try simp only [h]) <;> (try simp only [hsB] at h) <;> try (exfalso; first | omega | contradiction)) | fail)); all_goals clear kxs kk1 kk2 kk3 kk4 kk5 kk6 kk7 kk8 kk9 kk10)
    all_goals first | ((all_goals first | exact RetQ.fr 0 | exact RetQ.fn 0 | fail); done) | (exfalso; simp_all; done)

theorem ringCuts (k : Ring) (hk : k.fits) (r : List UInt8) (hr : r.length ≤ 9223372036854775807) : AC Try.prog 4 [.d (.l k.length (ringD k)), sv (bs r)] [] fun x σ => x = bv true ∧ σ = [] := by
  refine AC.walk Try.func4 rfl (by decide) (of_decide_eq_true rfl) ?_
  have hgr' := ref22_Great k hk
  have hen := ref22_Encode k hk
  by_cases hgr : Ring.great k = true
  · rw [hgr] at hgr'
    focus (have kxs : 987654321 = 987654320 + 1 := rfl; have kk1 := uN [] (awake22); have kk2 := uN [] (hgr'); (repeat' (first | refine G ?_ | refine AW.ret ?_ | (refine GC ?_ ?_ <;> intro h <;> (try simp only [hsB] at h) <;> try (exfalso; first | omega | contradiction)) | (refine GL ?_ ?_ <;> intro h <;> (try simp only [Bool.not_true, Bool.not_false] at h) <;> (try simp only [h]) <;> (try simp only [hsB] at h) <;> try (exfalso; first | omega | contradiction)) | fail)); all_goals clear kxs kk1 kk2)
    all_goals first | ((all_goals first | exact RetQ.fr 0 | exact RetQ.fn 0 | fail); done) | (exfalso; simp_all; done)
  have hgr : Ring.great k = false := by simpa using hgr
  rw [hgr] at hgr'
  by_cases hg0 : 0 < r.length ∧ r.length ≤ 100
  case neg =>
    focus (have kxs : 987654321 = 987654320 + 1 := rfl; have kk1 := uN [] (awake22); have kk2 := uN [] (hgr'); (repeat' (first | refine G ?_ | refine AW.ret ?_ | (refine GC ?_ ?_ <;> intro h <;> (try simp only [hsB] at h) <;> try (exfalso; first | omega | contradiction)) | (refine GL ?_ ?_ <;> intro h <;> (try simp only [Bool.not_true, Bool.not_false] at h) <;> (try simp only [h]) <;> (try simp only [hsB] at h) <;> try (exfalso; first | omega | contradiction)) | fail)); all_goals clear kxs kk1 kk2)
    all_goals first | ((all_goals first | exact RetQ.fr 0 | exact RetQ.fn 0 | fail); done) | (exfalso; omega)
  obtain ⟨hr0, hr1⟩ := hg0
  by_cases hc : Ring.check k = 0
  case neg =>
    rw [ringe_bad hc] at hen
    focus (have kxs : 987654321 = 987654320 + 1 := rfl; have kk1 := uN [] (awake22); have kk2 := uN [] (hgr'); have kk3 := uN [] (hen); (repeat' (first | refine G ?_ | refine AW.ret ?_ | (refine GC ?_ ?_ <;> intro h <;> (try simp only [hsB] at h) <;> try (exfalso; first | omega | contradiction)) | (refine GL ?_ ?_ <;> intro h <;> (try simp only [Bool.not_true, Bool.not_false] at h) <;> (try simp only [h]) <;> (try simp only [hsB] at h) <;> try (exfalso; first | omega | contradiction)) | fail)); all_goals clear kxs kk1 kk2 kk3)
    all_goals first | ((all_goals first | exact RetQ.fr 0 | exact RetQ.fn 0 | fail); done) | (exfalso; omega) | (exfalso; simp_all; done)
  have hg : gring k := ⟨hc, fun x hx => (hk.2 x hx).1⟩
  rw [ringe_good hc] at hen
  have hl := ering_len hg
  have htr := rdw_trail (d := []) trip_ring hg (r := r) (List.length_pos_iff.1 hr0)
  have hcut : ∀ i, i < (ering k).length → ringw ((ering k).take i) = ([], 2) := fun i hi => rdw_cut trip_ring hg hi
  have hdt := ring_Decode (ering k ++ r) (by rw [List.length_append]; omega)
  rw [show ringw (ering k ++ r) = _ from htr] at hdt
  generalize ering k = t at *
  simp only at hen hdt
  focus (have kxs : 987654321 = 987654320 + 1 := rfl; have kk1 := uN [] (awake22); have kk2 := uN [] (hgr'); have kk3 := uN [] (hen); (repeat' (first | refine G ?_ | refine AW.ret ?_ | (refine GC ?_ ?_ <;> intro h <;> (try simp only [hsB] at h) <;> try (exfalso; first | omega | contradiction)) | (refine GL ?_ ?_ <;> intro h <;> (try simp only [Bool.not_true, Bool.not_false] at h) <;> (try simp only [h]) <;> (try simp only [hsB] at h) <;> try (exfalso; first | omega | contradiction)) | fail)); all_goals clear kxs kk1 kk2 kk3)
  all_goals first | (exfalso; simp_all; done) | (exfalso; omega) | skip
  refine AW.rounds [1, 4, 5, 7] (fun i : Nat => [(1, sv (bs r)), (4, bv false), (5, sv (bs t)), (7, iv .i64 i)]) (fun _ => []) (fun i => i ≤ t.length) (fun i => t.length - i) 0 (Nat.zero_le _) rfl rfl (fun _ _ => Nat.zero_le _) (fun _ _ => rfl) (fun _ _ => rfl) ?_
  intro i hi J hJ
  by_cases hil : i < t.length
  · have hdc := ring_Decode (t.take i) (by rw [List.length_take]; omega)
    rw [hcut i hil] at hdc
    focus (have kxs := @Nat.sub_zero; have kk1 := uN [] (hdc); (repeat' (first | refine G ?_ | refine AW.ret ?_ | (refine GC ?_ ?_ <;> intro h <;> (try simp only [hsB] at h) <;> try (exfalso; first | omega | contradiction)) | (refine GL ?_ ?_ <;> intro h <;> (try simp only [Bool.not_true, Bool.not_false] at h) <;> (try simp only [h]) <;> (try simp only [hsB] at h) <;> try (exfalso; first | omega | contradiction)) | fail)); all_goals clear kxs kk1)
    all_goals first | (refine hJ (i + 1) _ _ (by omega) hil rfl rfl) | (exfalso; simp_all; done)
  · focus (have kxs : 987654321 = 987654320 + 1 := rfl; have kk1 := uN [] (hdt); (repeat' (first | refine G ?_ | refine AW.ret ?_ | (refine GC ?_ ?_ <;> intro h <;> (try simp only [hsB] at h) <;> try (exfalso; first | omega | contradiction)) | (refine GL ?_ ?_ <;> intro h <;> (try simp only [Bool.not_true, Bool.not_false] at h) <;> (try simp only [h]) <;> (try simp only [hsB] at h) <;> try (exfalso; first | omega | contradiction)) | fail)); all_goals clear kxs kk1)
    all_goals first | ((all_goals first | exact RetQ.fr 0 | exact RetQ.fn 0 | fail); done) | (exfalso; simp_all; done)

theorem ringEncodes (x y : Ring) (hx : x.fits) (hy : y.fits) : AC Try.prog 6 [.d (.l x.length (ringD x)), .d (.l y.length (ringD y))] [] fun x σ => x = bv true ∧ σ = [] := by
  refine AC.walk Try.func6 rfl (by decide) (of_decide_eq_true rfl) ?_
  have hgx' := ref22_Great x hx
  have hgy' := ref22_Great y hy
  by_cases hgx : Ring.great x = true
  · rw [hgx] at hgx'
    focus (have kxs : 987654321 = 987654320 + 1 := rfl; have kk1 := uN [] (awake22); have kk2 := uN [] (hgx'); (repeat' (first | refine G ?_ | refine AW.ret ?_ | (refine GC ?_ ?_ <;> intro h <;> (try simp only [hsB] at h) <;> try (exfalso; first | omega | contradiction)) | (refine GL ?_ ?_ <;> intro h <;> (try simp only [Bool.not_true, Bool.not_false] at h) <;> (try simp only [h]) <;> (try simp only [hsB] at h) <;> try (exfalso; first | omega | contradiction)) | fail)); all_goals clear kxs kk1 kk2)
    all_goals first | ((all_goals first | exact RetQ.fr 0 | exact RetQ.fn 0 | fail); done) | (exfalso; simp_all; done)
  have hgx : Ring.great x = false := by simpa using hgx
  rw [hgx] at hgx'
  by_cases hgy : Ring.great y = true
  · rw [hgy] at hgy'
    focus (have kxs : 987654321 = 987654320 + 1 := rfl; have kk1 := uN [] (awake22); have kk2 := uN [] (hgx'); have kk3 := uN [] (hgy'); (repeat' (first | refine G ?_ | refine AW.ret ?_ | (refine GC ?_ ?_ <;> intro h <;> (try simp only [hsB] at h) <;> try (exfalso; first | omega | contradiction)) | (refine GL ?_ ?_ <;> intro h <;> (try simp only [Bool.not_true, Bool.not_false] at h) <;> (try simp only [h]) <;> (try simp only [hsB] at h) <;> try (exfalso; first | omega | contradiction)) | fail)); all_goals clear kxs kk1 kk2 kk3)
    all_goals first | ((all_goals first | exact RetQ.fr 0 | exact RetQ.fn 0 | fail); done) | (exfalso; simp_all; done)
  have hgy : Ring.great y = false := by simpa using hgy
  rw [hgy] at hgy'
  have hen := ring_Encode x hx
  have hre := ref22_Encode x hx
  have hck := ring_Check x hx
  have hrc := ref22_Check x hx
  have hsa := ring_Same x y hx.1 (fun z hz => (hx.2 z hz).2.2)
  have hsb := ref22_Same x y hx.1 (fun z hz => (hx.2 z hz).2.2)
  have hsx := ref22_Same x x hx.1 (fun z hz => (hx.2 z hz).2.2)
  have hxx : decide (x = x) = true := by simp
  rw [hxx] at hsx
  obtain ⟨s, f, he, hf, hw, hls⟩ : ∃ s f, ringe x = (s, f) ∧ Ring.check x = f ∧ (f = 0 → ringw s = (x, 0)) ∧ s.length ≤ 7000 := by
    by_cases hc : Ring.check x = 0
    · have hg : gring x := ⟨hc, fun z hz => (hx.2 z hz).1⟩
      exact ⟨_, _, ringe_good hc, hc, fun _ => rdw_fore trip_ring hg, ering_len hg⟩
    · exact ⟨_, _, ringe_bad hc, rfl, fun h => absurd h hc, by simp⟩
  have hde := ring_Decode s (by omega)
  rw [he] at hen hre
  rw [hf] at hck hrc
  simp only at hen hre
  generalize decide (x = y) = q at *
  by_cases hf0 : f = 0
  · rw [hw hf0] at hde
    simp only at hde
    subst hf0
    focus (have kxs : 987654321 = 987654320 + 1 := rfl; have kk1 := uN [] (awake22); have kk2 := uN [] (hgx'); have kk3 := uN [] (hgy'); have kk4 := uN [] (hen); have kk5 := uN [] (hre); have kk6 := uN [] (hck); have kk7 := uN [] (hrc); have kk8 := uN [] (hsa); have kk9 := uN [] (hsx); have kk10 := uN [] (hsb); have kk11 := uN [] (hde); (repeat' (first | refine G ?_ | refine AW.ret ?_ | (refine GC ?_ ?_ <;> intro h <;> (try simp only [hsB] at h) <;> try (exfalso; first | omega | contradiction)) | (refine GL ?_ ?_ <;> intro h <;> (try simp only [Bool.not_true, Bool.not_false] at h) <;> (try simp only [h]) <;> (try simp only [hsB] at h) <;> try (exfalso; first | omega | contradiction)) | fail)); all_goals clear kxs kk1 kk2 kk3 kk4 kk5 kk6 kk7 kk8 kk9 kk10 kk11)
    all_goals first | ((all_goals first | exact RetQ.fr 0 | exact RetQ.fn 0 | fail); done) | (exfalso; omega) | (exfalso; simp_all; done)
  · focus (have kxs : 987654321 = 987654320 + 1 := rfl; have kk1 := uN [] (awake22); have kk2 := uN [] (hgx'); have kk3 := uN [] (hgy'); have kk4 := uN [] (hen); have kk5 := uN [] (hre); have kk6 := uN [] (hck); have kk7 := uN [] (hrc); have kk8 := uN [] (hsa); have kk9 := uN [] (hsb); (repeat' (first | refine G ?_ | refine AW.ret ?_ | (refine GC ?_ ?_ <;> intro h <;> (try simp only [hsB] at h) <;> try (exfalso; first | omega | contradiction)) | (refine GL ?_ ?_ <;> intro h <;> (try simp only [Bool.not_true, Bool.not_false] at h) <;> (try simp only [h]) <;> (try simp only [hsB] at h) <;> try (exfalso; first | omega | contradiction)) | fail)); all_goals clear kxs kk1 kk2 kk3 kk4 kk5 kk6 kk7 kk8 kk9)
    all_goals first | ((all_goals first | exact RetQ.fr 0 | exact RetQ.fn 0 | fail); done) | (exfalso; omega) | (exfalso; simp_all; done)
end Go.AW
