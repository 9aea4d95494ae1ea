/-
  a message's parts: the check of a whole message.
-/
import Derived.Test.YtbedecfkincemaaGreatY14
namespace Go.AW
open Go Go.Proofs
set_option maxHeartbeats 4000000
set_option maxRecDepth 10000
set_option linter.unusedSimpArgs false
set_option linter.unusedVariables false
attribute [local irreducible] thenQ blockQ RetQ AL AW AC AOp

theorem parts_none (v k : Nat) (hv : v < 256) (hk : k < 256) (h : has v k = false) : AC Tryz.prog 72 [iv .u8 (v : Nat), iv .u8 (k : Nat)] [] fun y σ => y = .t [.d (.l 0 []), bv false] ∧ σ = [] := by
  refine AC.walk Tryz.func72 rfl (by decide) (of_decide_eq_true rfl) ?_
  have hh : ¬ ((v = 1 ∧ (k = 1 ∨ k = 2 ∨ k = 8)) ∨ (v = 2 ∧ 1 ≤ k ∧ k ≤ 9)) := fun hc => by
    unfold has at h
    split at h
    · simp only [decide_eq_false_iff_not] at h; omega
    · simp only [decide_eq_false_iff_not] at h; omega
  focus (have kxs : 987654321 = 987654320 + 1 := rfl; have kk1 := uN [] (msg_text 128 true 150); have kk2 := uN [] (msg_flag 152); have kk3 := uN [] (msg_text 64 false 153); (repeat' (first | (refine ADr.nil ?_; try clear hgv) | refine GO ?_ | refine AW.ret ?_ | (refine GC ?_ ?_ <;> intro h <;> (try simp only [hsB] at h) <;> try (exfalso; first | omega | contradiction)) | (refine GD ?_ ?_ <;> intro h <;> (try intro hgv) <;> (try simp only [Bool.not_true, Bool.not_false] at h) <;> (try simp only [h]) <;> (try simp only [hsB] at h) <;> try (exfalso; first | omega | contradiction)) | (refine GL ?_ ?_ <;> intro h <;> (try simp only [Bool.not_true, Bool.not_false] at h) <;> (try simp only [h]) <;> (try simp only [hsB] at h) <;> try (exfalso; first | omega | contradiction)) | fail)); all_goals clear kxs kk1 kk2 kk3)
  all_goals first | ((all_goals first | exact RetQ.fr 0 | exact RetQ.fn 0 | fail); done) | (exfalso; omega) | (exfalso; simp_all; done)
theorem which_none (v k : Nat) (hv : v < 256) (hk : k < 256) (h : has v k = false) : AC Tryz.prog 51 [iv .u8 (v : Nat), iv .u8 (k : Nat)] [] fun y σ => y = .t [.d (.l 0 []), iv .i64 (if v ≠ 1 ∧ v ≠ 2 then 10 else 11)] ∧ σ = [] := by
  refine AC.walk Tryz.func51 rfl (by decide) (of_decide_eq_true rfl) ?_
  have hp := parts_none v k hv hk h
  by_cases h0 : v ≠ 1 ∧ v ≠ 2
  · rw [if_pos h0]
    obtain ⟨h1, h2⟩ := h0
    focus (have kxs : 987654321 = 987654320 + 1 := rfl; have kk1 := uN [] (hp); (repeat' (first | refine G ?_ | refine AW.ret ?_ | (refine GC ?_ ?_ <;> intro h <;> (try simp only [hsB] at h) <;> try (exfalso; first | omega | contradiction)) | (refine GL ?_ ?_ <;> intro h <;> (try simp only [Bool.not_true, Bool.not_false] at h) <;> (try simp only [h]) <;> (try simp only [hsB] at h) <;> try (exfalso; first | omega | contradiction)) | fail)); all_goals clear kxs kk1)
    all_goals first | ((all_goals first | exact RetQ.fr 0 | exact RetQ.fn 0 | fail); done) | (exfalso; omega) | (exfalso; simp_all; done)
  · rw [if_neg h0]
    focus (have kxs : 987654321 = 987654320 + 1 := rfl; have kk1 := uN [] (hp); (repeat' (first | refine G ?_ | refine AW.ret ?_ | (refine GC ?_ ?_ <;> intro h <;> (try simp only [hsB] at h) <;> try (exfalso; first | omega | contradiction)) | (refine GL ?_ ?_ <;> intro h <;> (try simp only [Bool.not_true, Bool.not_false] at h) <;> (try simp only [h]) <;> (try simp only [hsB] at h) <;> try (exfalso; first | omega | contradiction)) | fail)); all_goals clear kxs kk1)
    all_goals first | ((all_goals first | exact RetQ.fr 0 | exact RetQ.fn 0 | fail); done) | (exfalso; omega) | (exfalso; simp_all; done)
theorem check_none (v : Nat) (m : Mg) (hv : v < 256) (hk : m.kind < 256) (h : has v m.kind = false) : AC Tryz.prog 20 [iv .u8 (v : Nat), mgV m] [] fun y σ => y = iv .i64 (m.check v) ∧ σ = [] := by
  refine AC.walk Tryz.func20 rfl (by decide) (of_decide_eq_true rfl) ?_
  have hw := which_none v m.kind hv hk h
  have hr : m.check v = if v ≠ 1 ∧ v ≠ 2 then 10 else 11 := by unfold Mg.check; rw [if_pos h]
  have hr0 : m.check v ≠ 0 := by rw [hr]; split <;> decide
  rw [← hr] at hw
  generalize m.check v = r at *
  focus (have kxs : 987654321 = 987654320 + 1 := rfl; have kk1 := uN [] (hw); (repeat' (first | refine G ?_ | refine AW.ret ?_ | (refine GC ?_ ?_ <;> intro h <;> (try simp only [hsB] at h) <;> try (exfalso; first | omega | contradiction)) | (refine GL ?_ ?_ <;> intro h <;> (try simp only [Bool.not_true, Bool.not_false] at h) <;> (try simp only [h]) <;> (try simp only [hsB] at h) <;> try (exfalso; first | omega | contradiction)) | fail)); all_goals clear kxs kk1)
  all_goals first | ((all_goals first | exact RetQ.fr 0 | exact RetQ.fn 0 | fail); done) | (exfalso; omega) | (exfalso; simp_all; done)
theorem check_11 (m : Mg) (hf : m.fits) (hk : m.kind = 1) : AC Tryz.prog 20 [iv .u8 1, mgV m] [] fun y σ => y = iv .i64 (m.check 1) ∧ σ = [] := by
  refine AC.walk Tryz.func20 rfl (by decide) (of_decide_eq_true rfl) ?_
  obtain ⟨knd, id, key, fnd, obj, old, ctx, mt, dd, vl, px, pg, rg, cd, tx⟩ := m
  simp only at hk
  subst hk
  have hw := which_11
  have c0 := check_Key ⟨1, id, key, fnd, obj, old, ctx, mt, dd, vl, px, pg, rg, cd, tx⟩ hf
  have hr : Mg.check 1 ⟨1, id, key, fnd, obj, old, ctx, mt, dd, vl, px, pg, rg, cd, tx⟩ = keychk key := rfl
  rw [hr]
  clear hr
  simp only at c0
  generalize (keychk key) = r0 at *
  focus (have kxs : 987654321 = 987654320 + 1 := rfl; have kk1 := uN [] (hw); (repeat' (first | refine G ?_ | refine AW.ret ?_ | (refine GC ?_ ?_ <;> intro h <;> (try simp only [hsB] at h) <;> try (exfalso; first | omega | contradiction)) | (refine GL ?_ ?_ <;> intro h <;> (try simp only [Bool.not_true, Bool.not_false] at h) <;> (try simp only [h]) <;> (try simp only [hsB] at h) <;> try (exfalso; first | omega | contradiction)) | fail)); all_goals clear kxs kk1)
  all_goals first | (exfalso; omega) | (exfalso; simp_all; done) | skip
  refine AW.rounds [3, 4, 20, 21, 22] (fun i : Nat => [(3, .p 0 0), (4, iv .i64 0), (20, .b 11 0 1), (21, iv .i64 1), (22, iv .i64 (i : Nat))]) (fun _ => [.box 38 (mgC ⟨1, id, key, fnd, obj, old, ctx, mt, dd, vl, px, pg, rg, cd, tx⟩), .box 3 [iv .i64 128], .box 4 [bv true], .box 231 [.f (.func 150) [] []], .box 111 [.f (.func 214) [] [.p 2 0, .p 3 0, .p 1 0], .f (.func 216) [] [.p 1 0, .p 3 0], .f (.func 218) [] [.p 1 0, .p 3 0, .p 2 0], .f (.func 220) [] [.p 3 0]], .box 234 [.f (.func 152) [] []], .box 111 [.f (.func 221) [] [], .f (.func 222) [] [.p 5 0], .f (.func 224) [] [.p 5 0], .f (.func 225) [] [.p 5 0]], .box 3 [iv .i64 64], .box 4 [bv false], .box 231 [.f (.func 153) [] []], .box 111 [.f (.func 214) [] [.p 8 0, .p 9 0, .p 7 0], .f (.func 216) [] [.p 7 0, .p 9 0], .f (.func 218) [] [.p 7 0, .p 9 0, .p 8 0], .f (.func 220) [] [.p 9 0]], .box 111 [.f (.func 214) [] [.p 2 0, .p 3 0, .p 1 0], .f (.func 216) [] [.p 1 0, .p 3 0], .f (.func 218) [] [.p 1 0, .p 3 0, .p 2 0], .f (.func 220) [] [.p 3 0]]])
    (fun i => i ≤ 1 ∧ (1 ≤ i → r0 = 0)) (fun i => 1 - i) 0 ⟨Nat.zero_le _, fun h => absurd h (by decide)⟩ rfl rfl (fun _ _ => Nat.zero_le _) (fun _ _ => rfl) (fun _ _ => rfl) ?_
  rintro i ⟨hi, g0⟩ J hJ
  have hc : i = 0 ∨ i = 1 := by omega
  rcases hc with rfl | rfl
  · clear hw
    by_cases hz : r0 = 0
    · focus (have kxs : 987654321 = 987654320 + 1 := rfl; have kk1 := uN [2, 3, 1] (c0); (repeat' (first | refine G ?_ | refine AW.ret ?_ | (refine GC ?_ ?_ <;> intro h <;> (try simp only [hsB] at h) <;> try (exfalso; first | omega | contradiction)) | (refine GL ?_ ?_ <;> intro h <;> (try simp only [Bool.not_true, Bool.not_false] at h) <;> (try simp only [h]) <;> (try simp only [hsB] at h) <;> try (exfalso; first | omega | contradiction)) | fail)); all_goals clear kxs kk1)
      all_goals first | (refine hJ 1 _ _ (by decide) ⟨by decide, fun h => hz⟩ rfl rfl; done) | (exfalso; omega) | (exfalso; simp_all; done)
    · have hv : (r0) = r0 := by rfl
      rw [hv]
      focus (have kxs : 987654321 = 987654320 + 1 := rfl; have kk1 := uN [2, 3, 1] (c0); (repeat' (first | refine G ?_ | refine AW.ret ?_ | (refine GC ?_ ?_ <;> intro h <;> (try simp only [hsB] at h) <;> try (exfalso; first | omega | contradiction)) | (refine GL ?_ ?_ <;> intro h <;> (try simp only [Bool.not_true, Bool.not_false] at h) <;> (try simp only [h]) <;> (try simp only [hsB] at h) <;> try (exfalso; first | omega | contradiction)) | fail)); all_goals clear kxs kk1)
      all_goals first | ((all_goals first | exact RetQ.fr 0 | exact RetQ.fn 0 | fail); done) | (exfalso; omega) | (exfalso; simp_all; done)
  · clear hw
    have hv : (r0) = 0 := by exact g0 (by decide)
    rw [hv]
    focus (have kxs : 987654321 = 987654320 + 1 := rfl; (repeat' (first | refine G ?_ | refine AW.ret ?_ | (refine GC ?_ ?_ <;> intro h <;> (try simp only [hsB] at h) <;> try (exfalso; first | omega | contradiction)) | (refine GL ?_ ?_ <;> intro h <;> (try simp only [Bool.not_true, Bool.not_false] at h) <;> (try simp only [h]) <;> (try simp only [hsB] at h) <;> try (exfalso; first | omega | contradiction)) | fail)); all_goals clear kxs)
    all_goals first | ((all_goals first | exact RetQ.fr 0 | exact RetQ.fn 0 | fail); done) | (exfalso; omega) | (exfalso; simp_all; done)
theorem check_12 (m : Mg) (hf : m.fits) (hk : m.kind = 2) : AC Tryz.prog 20 [iv .u8 1, mgV m] [] fun y σ => y = iv .i64 (m.check 1) ∧ σ = [] := by
  refine AC.walk Tryz.func20 rfl (by decide) (of_decide_eq_true rfl) ?_
  obtain ⟨knd, id, key, fnd, obj, old, ctx, mt, dd, vl, px, pg, rg, cd, tx⟩ := m
  simp only at hk
  subst hk
  have hw := which_12
  have c0 := check_flag ⟨2, id, key, fnd, obj, old, ctx, mt, dd, vl, px, pg, rg, cd, tx⟩
  have c1 := check_found_old ⟨2, id, key, fnd, obj, old, ctx, mt, dd, vl, px, pg, rg, cd, tx⟩ hf
  have hr : Mg.check 1 ⟨2, id, key, fnd, obj, old, ctx, mt, dd, vl, px, pg, rg, cd, tx⟩ = if fnd = true then old.check else 0 := rfl
  rw [hr]
  clear hr
  simp only at c1
  generalize (if fnd = true then old.check else 0) = r1 at *
  focus (have kxs : 987654321 = 987654320 + 1 := rfl; have kk1 := uN [] (hw); (repeat' (first | refine G ?_ | refine AW.ret ?_ | (refine GC ?_ ?_ <;> intro h <;> (try simp only [hsB] at h) <;> try (exfalso; first | omega | contradiction)) | (refine GL ?_ ?_ <;> intro h <;> (try simp only [Bool.not_true, Bool.not_false] at h) <;> (try simp only [h]) <;> (try simp only [hsB] at h) <;> try (exfalso; first | omega | contradiction)) | fail)); all_goals clear kxs kk1)
  all_goals first | (exfalso; omega) | (exfalso; simp_all; done) | skip
  refine AW.rounds [3, 4, 20, 21, 22] (fun i : Nat => [(3, .p 0 0), (4, iv .i64 0), (20, .b 12 0 2), (21, iv .i64 2), (22, iv .i64 (i : Nat))]) (fun _ => [.box 38 (mgC ⟨2, id, key, fnd, obj, old, ctx, mt, dd, vl, px, pg, rg, cd, tx⟩), .box 3 [iv .i64 128], .box 4 [bv true], .box 231 [.f (.func 150) [] []], .box 111 [.f (.func 214) [] [.p 2 0, .p 3 0, .p 1 0], .f (.func 216) [] [.p 1 0, .p 3 0], .f (.func 218) [] [.p 1 0, .p 3 0, .p 2 0], .f (.func 220) [] [.p 3 0]], .box 234 [.f (.func 152) [] []], .box 111 [.f (.func 221) [] [], .f (.func 222) [] [.p 5 0], .f (.func 224) [] [.p 5 0], .f (.func 225) [] [.p 5 0]], .box 3 [iv .i64 64], .box 4 [bv false], .box 231 [.f (.func 153) [] []], .box 111 [.f (.func 214) [] [.p 8 0, .p 9 0, .p 7 0], .f (.func 216) [] [.p 7 0, .p 9 0], .f (.func 218) [] [.p 7 0, .p 9 0, .p 8 0], .f (.func 220) [] [.p 9 0]], .box 111 [.f (.func 230) [] [], .f (.func 232) [] [], .f (.func 235) [] [], .f (.func 237) [] []], .box 111 [.f (.func 221) [] [], .f (.func 222) [] [.p 5 0], .f (.func 224) [] [.p 5 0], .f (.func 225) [] [.p 5 0], .f (.func 226) [] [.p 11 0], .f (.func 227) [] [.p 11 0], .f (.func 228) [] [.p 11 0], .f (.func 229) [] [.p 11 0]]])
    (fun i => i ≤ 2 ∧ (2 ≤ i → r1 = 0)) (fun i => 2 - i) 0 ⟨Nat.zero_le _, fun h => absurd h (by decide)⟩ rfl rfl (fun _ _ => Nat.zero_le _) (fun _ _ => rfl) (fun _ _ => rfl) ?_
  rintro i ⟨hi, g1⟩ J hJ
  have hc : i = 0 ∨ i = 1 ∨ i = 2 := by omega
  rcases hc with rfl | rfl | rfl
  · clear hw
    focus (have kxs : 987654321 = 987654320 + 1 := rfl; have kk1 := uN [] (c0); (repeat' (first | refine G ?_ | refine AW.ret ?_ | (refine GC ?_ ?_ <;> intro h <;> (try simp only [hsB] at h) <;> try (exfalso; first | omega | contradiction)) | (refine GL ?_ ?_ <;> intro h <;> (try simp only [Bool.not_true, Bool.not_false] at h) <;> (try simp only [h]) <;> (try simp only [hsB] at h) <;> try (exfalso; first | omega | contradiction)) | fail)); all_goals clear kxs kk1)
    all_goals first | (refine hJ 1 _ _ (by decide) ⟨by decide, fun h => absurd h (by decide)⟩ rfl rfl; done) | (exfalso; omega) | (exfalso; simp_all; done)
  · clear hw
    by_cases hz : r1 = 0
    · focus (have kxs : 987654321 = 987654320 + 1 := rfl; have kk1 := uN [11] (c1); (repeat' (first | refine G ?_ | refine AW.ret ?_ | (refine GC ?_ ?_ <;> intro h <;> (try simp only [hsB] at h) <;> try (exfalso; first | omega | contradiction)) | (refine GL ?_ ?_ <;> intro h <;> (try simp only [Bool.not_true, Bool.not_false] at h) <;> (try simp only [h]) <;> (try simp only [hsB] at h) <;> try (exfalso; first | omega | contradiction)) | fail)); all_goals clear kxs kk1)
      all_goals first | (refine hJ 2 _ _ (by decide) ⟨by decide, fun h => hz⟩ rfl rfl; done) | (exfalso; omega) | (exfalso; simp_all; done)
    · have hv : (r1) = r1 := by rfl
      rw [hv]
      focus (have kxs : 987654321 = 987654320 + 1 := rfl; have kk1 := uN [11] (c1); (repeat' (first | refine G ?_ | refine AW.ret ?_ | (refine GC ?_ ?_ <;> intro h <;> (try simp only [hsB] at h) <;> try (exfalso; first | omega | contradiction)) | (refine GL ?_ ?_ <;> intro h <;> (try simp only [Bool.not_true, Bool.not_false] at h) <;> (try simp only [h]) <;> (try simp only [hsB] at h) <;> try (exfalso; first | omega | contradiction)) | fail)); all_goals clear kxs kk1)
      all_goals first | ((all_goals first | exact RetQ.fr 0 | exact RetQ.fn 0 | fail); done) | (exfalso; omega) | (exfalso; simp_all; done)
  · clear hw
    have hv : (r1) = 0 := by exact g1 (by decide)
    rw [hv]
    focus (have kxs : 987654321 = 987654320 + 1 := rfl; (repeat' (first | refine G ?_ | refine AW.ret ?_ | (refine GC ?_ ?_ <;> intro h <;> (try simp only [hsB] at h) <;> try (exfalso; first | omega | contradiction)) | (refine GL ?_ ?_ <;> intro h <;> (try simp only [Bool.not_true, Bool.not_false] at h) <;> (try simp only [h]) <;> (try simp only [hsB] at h) <;> try (exfalso; first | omega | contradiction)) | fail)); all_goals clear kxs)
    all_goals first | ((all_goals first | exact RetQ.fr 0 | exact RetQ.fn 0 | fail); done) | (exfalso; omega) | (exfalso; simp_all; done)
theorem check_18 (m : Mg) (hf : m.fits) (hk : m.kind = 8) : AC Tryz.prog 20 [iv .u8 1, mgV m] [] fun y σ => y = iv .i64 (m.check 1) ∧ σ = [] := by
  refine AC.walk Tryz.func20 rfl (by decide) (of_decide_eq_true rfl) ?_
  obtain ⟨knd, id, key, fnd, obj, old, ctx, mt, dd, vl, px, pg, rg, cd, tx⟩ := m
  simp only at hk
  subst hk
  have hw := which_18
  have c0 := check_code ⟨8, id, key, fnd, obj, old, ctx, mt, dd, vl, px, pg, rg, cd, tx⟩ hf
  have c1 := check_Text ⟨8, id, key, fnd, obj, old, ctx, mt, dd, vl, px, pg, rg, cd, tx⟩ hf
  have hr : Mg.check 1 ⟨8, id, key, fnd, obj, old, ctx, mt, dd, vl, px, pg, rg, cd, tx⟩ = fst0 (codechk cd) (longchk tx 64) := rfl
  rw [hr]
  clear hr
  simp only at c0
  generalize (codechk cd) = r0 at *
  simp only at c1
  generalize (longchk tx 64) = r1 at *
  focus (have kxs : 987654321 = 987654320 + 1 := rfl; have kk1 := uN [] (hw); (repeat' (first | refine G ?_ | refine AW.ret ?_ | (refine GC ?_ ?_ <;> intro h <;> (try simp only [hsB] at h) <;> try (exfalso; first | omega | contradiction)) | (refine GL ?_ ?_ <;> intro h <;> (try simp only [Bool.not_true, Bool.not_false] at h) <;> (try simp only [h]) <;> (try simp only [hsB] at h) <;> try (exfalso; first | omega | contradiction)) | fail)); all_goals clear kxs kk1)
  all_goals first | (exfalso; omega) | (exfalso; simp_all; done) | skip
  refine AW.rounds [3, 4, 20, 21, 22] (fun i : Nat => [(3, .p 0 0), (4, iv .i64 0), (20, .b 11 0 2), (21, iv .i64 2), (22, iv .i64 (i : Nat))]) (fun _ => [.box 38 (mgC ⟨8, id, key, fnd, obj, old, ctx, mt, dd, vl, px, pg, rg, cd, tx⟩), .box 3 [iv .i64 128], .box 4 [bv true], .box 231 [.f (.func 150) [] []], .box 111 [.f (.func 214) [] [.p 2 0, .p 3 0, .p 1 0], .f (.func 216) [] [.p 1 0, .p 3 0], .f (.func 218) [] [.p 1 0, .p 3 0, .p 2 0], .f (.func 220) [] [.p 3 0]], .box 234 [.f (.func 152) [] []], .box 111 [.f (.func 221) [] [], .f (.func 222) [] [.p 5 0], .f (.func 224) [] [.p 5 0], .f (.func 225) [] [.p 5 0]], .box 3 [iv .i64 64], .box 4 [bv false], .box 231 [.f (.func 153) [] []], .box 111 [.f (.func 214) [] [.p 8 0, .p 9 0, .p 7 0], .f (.func 216) [] [.p 7 0, .p 9 0], .f (.func 218) [] [.p 7 0, .p 9 0, .p 8 0], .f (.func 220) [] [.p 9 0]], .box 111 [.f (.func 247) [] [], .f (.func 248) [] [], .f (.func 250) [] [], .f (.func 251) [] [], .f (.func 214) [] [.p 8 0, .p 9 0, .p 7 0], .f (.func 216) [] [.p 7 0, .p 9 0], .f (.func 218) [] [.p 7 0, .p 9 0, .p 8 0], .f (.func 220) [] [.p 9 0]]])
    (fun i => i ≤ 2 ∧ (1 ≤ i → r0 = 0) ∧ (2 ≤ i → r1 = 0)) (fun i => 2 - i) 0 ⟨Nat.zero_le _, fun h => absurd h (by decide), fun h => absurd h (by decide)⟩ rfl rfl (fun _ _ => Nat.zero_le _) (fun _ _ => rfl) (fun _ _ => rfl) ?_
  rintro i ⟨hi, g0, g1⟩ J hJ
  have hc : i = 0 ∨ i = 1 ∨ i = 2 := by omega
  rcases hc with rfl | rfl | rfl
  · clear hw
    by_cases hz : r0 = 0
    · focus (have kxs : 987654321 = 987654320 + 1 := rfl; have kk1 := uN [] (c0); (repeat' (first | refine G ?_ | refine AW.ret ?_ | (refine GC ?_ ?_ <;> intro h <;> (try simp only [hsB] at h) <;> try (exfalso; first | omega | contradiction)) | (refine GL ?_ ?_ <;> intro h <;> (try simp only [Bool.not_true, Bool.not_false] at h) <;> (try simp only [h]) <;> (try simp only [hsB] at h) <;> try (exfalso; first | omega | contradiction)) | fail)); all_goals clear kxs kk1)
      all_goals first | (refine hJ 1 _ _ (by decide) ⟨by decide, fun h => hz, fun h => absurd h (by decide)⟩ rfl rfl; done) | (exfalso; omega) | (exfalso; simp_all; done)
    · have hv : (fst0 r0 r1) = r0 := by simp [fst0, hz]
      rw [hv]
      focus (have kxs : 987654321 = 987654320 + 1 := rfl; have kk1 := uN [] (c0); (repeat' (first | refine G ?_ | refine AW.ret ?_ | (refine GC ?_ ?_ <;> intro h <;> (try simp only [hsB] at h) <;> try (exfalso; first | omega | contradiction)) | (refine GL ?_ ?_ <;> intro h <;> (try simp only [Bool.not_true, Bool.not_false] at h) <;> (try simp only [h]) <;> (try simp only [hsB] at h) <;> try (exfalso; first | omega | contradiction)) | fail)); all_goals clear kxs kk1)
      all_goals first | ((all_goals first | exact RetQ.fr 0 | exact RetQ.fn 0 | fail); done) | (exfalso; omega) | (exfalso; simp_all; done)
  · clear hw
    by_cases hz : r1 = 0
    · focus (have kxs : 987654321 = 987654320 + 1 := rfl; have kk1 := uN [8, 9, 7] (c1); (repeat' (first | refine G ?_ | refine AW.ret ?_ | (refine GC ?_ ?_ <;> intro h <;> (try simp only [hsB] at h) <;> try (exfalso; first | omega | contradiction)) | (refine GL ?_ ?_ <;> intro h <;> (try simp only [Bool.not_true, Bool.not_false] at h) <;> (try simp only [h]) <;> (try simp only [hsB] at h) <;> try (exfalso; first | omega | contradiction)) | fail)); all_goals clear kxs kk1)
      all_goals first | (refine hJ 2 _ _ (by decide) ⟨by decide, fun h => g0 (by decide), fun h => hz⟩ rfl rfl; done) | (exfalso; omega) | (exfalso; simp_all; done)
    · have hv : (fst0 r0 r1) = r1 := by simp [fst0, g0 (by decide), hz]
      rw [hv]
      focus (have kxs : 987654321 = 987654320 + 1 := rfl; have kk1 := uN [8, 9, 7] (c1); (repeat' (first | refine G ?_ | refine AW.ret ?_ | (refine GC ?_ ?_ <;> intro h <;> (try simp only [hsB] at h) <;> try (exfalso; first | omega | contradiction)) | (refine GL ?_ ?_ <;> intro h <;> (try simp only [Bool.not_true, Bool.not_false] at h) <;> (try simp only [h]) <;> (try simp only [hsB] at h) <;> try (exfalso; first | omega | contradiction)) | fail)); all_goals clear kxs kk1)
      all_goals first | ((all_goals first | exact RetQ.fr 0 | exact RetQ.fn 0 | fail); done) | (exfalso; omega) | (exfalso; simp_all; done)
  · clear hw
    have hv : (fst0 r0 r1) = 0 := by simp [fst0, g0 (by decide), g1 (by decide)]
    rw [hv]
    focus (have kxs : 987654321 = 987654320 + 1 := rfl; (repeat' (first | refine G ?_ | refine AW.ret ?_ | (refine GC ?_ ?_ <;> intro h <;> (try simp only [hsB] at h) <;> try (exfalso; first | omega | contradiction)) | (refine GL ?_ ?_ <;> intro h <;> (try simp only [Bool.not_true, Bool.not_false] at h) <;> (try simp only [h]) <;> (try simp only [hsB] at h) <;> try (exfalso; first | omega | contradiction)) | fail)); all_goals clear kxs)
    all_goals first | ((all_goals first | exact RetQ.fr 0 | exact RetQ.fn 0 | fail); done) | (exfalso; omega) | (exfalso; simp_all; done)
theorem check_21 (m : Mg) (hf : m.fits) (hk : m.kind = 1) : AC Tryz.prog 20 [iv .u8 2, mgV m] [] fun y σ => y = iv .i64 (m.check 2) ∧ σ = [] := by
  refine AC.walk Tryz.func20 rfl (by decide) (of_decide_eq_true rfl) ?_
  obtain ⟨knd, id, key, fnd, obj, old, ctx, mt, dd, vl, px, pg, rg, cd, tx⟩ := m
  simp only at hk
  subst hk
  have hw := which_21
  have c0 := check_Key ⟨1, id, key, fnd, obj, old, ctx, mt, dd, vl, px, pg, rg, cd, tx⟩ hf
  have hr : Mg.check 2 ⟨1, id, key, fnd, obj, old, ctx, mt, dd, vl, px, pg, rg, cd, tx⟩ = keychk key := rfl
  rw [hr]
  clear hr
  simp only at c0
  generalize (keychk key) = r0 at *
  focus (have kxs : 987654321 = 987654320 + 1 := rfl; have kk1 := uN [] (hw); (repeat' (first | refine G ?_ | refine AW.ret ?_ | (refine GC ?_ ?_ <;> intro h <;> (try simp only [hsB] at h) <;> try (exfalso; first | omega | contradiction)) | (refine GL ?_ ?_ <;> intro h <;> (try simp only [Bool.not_true, Bool.not_false] at h) <;> (try simp only [h]) <;> (try simp only [hsB] at h) <;> try (exfalso; first | omega | contradiction)) | fail)); all_goals clear kxs kk1)
  all_goals first | (exfalso; omega) | (exfalso; simp_all; done) | skip
  refine AW.rounds [3, 4, 20, 21, 22] (fun i : Nat => [(3, .p 0 0), (4, iv .i64 0), (20, .b 11 0 1), (21, iv .i64 1), (22, iv .i64 (i : Nat))]) (fun _ => [.box 38 (mgC ⟨1, id, key, fnd, obj, old, ctx, mt, dd, vl, px, pg, rg, cd, tx⟩), .box 3 [iv .i64 128], .box 4 [bv true], .box 231 [.f (.func 150) [] []], .box 111 [.f (.func 214) [] [.p 2 0, .p 3 0, .p 1 0], .f (.func 216) [] [.p 1 0, .p 3 0], .f (.func 218) [] [.p 1 0, .p 3 0, .p 2 0], .f (.func 220) [] [.p 3 0]], .box 234 [.f (.func 152) [] []], .box 111 [.f (.func 221) [] [], .f (.func 222) [] [.p 5 0], .f (.func 224) [] [.p 5 0], .f (.func 225) [] [.p 5 0]], .box 3 [iv .i64 64], .box 4 [bv false], .box 231 [.f (.func 153) [] []], .box 111 [.f (.func 214) [] [.p 8 0, .p 9 0, .p 7 0], .f (.func 216) [] [.p 7 0, .p 9 0], .f (.func 218) [] [.p 7 0, .p 9 0, .p 8 0], .f (.func 220) [] [.p 9 0]], .box 111 [.f (.func 214) [] [.p 2 0, .p 3 0, .p 1 0], .f (.func 216) [] [.p 1 0, .p 3 0], .f (.func 218) [] [.p 1 0, .p 3 0, .p 2 0], .f (.func 220) [] [.p 3 0]]])
    (fun i => i ≤ 1 ∧ (1 ≤ i → r0 = 0)) (fun i => 1 - i) 0 ⟨Nat.zero_le _, fun h => absurd h (by decide)⟩ rfl rfl (fun _ _ => Nat.zero_le _) (fun _ _ => rfl) (fun _ _ => rfl) ?_
  rintro i ⟨hi, g0⟩ J hJ
  have hc : i = 0 ∨ i = 1 := by omega
  rcases hc with rfl | rfl
  · clear hw
    by_cases hz : r0 = 0
    · focus (have kxs : 987654321 = 987654320 + 1 := rfl; have kk1 := uN [2, 3, 1] (c0); (repeat' (first | refine G ?_ | refine AW.ret ?_ | (refine GC ?_ ?_ <;> intro h <;> (try simp only [hsB] at h) <;> try (exfalso; first | omega | contradiction)) | (refine GL ?_ ?_ <;> intro h <;> (try simp only [Bool.not_true, Bool.not_false] at h) <;> (try simp only [h]) <;> (try simp only [hsB] at h) <;> try (exfalso; first | omega | contradiction)) | fail)); all_goals clear kxs kk1)
      all_goals first | (refine hJ 1 _ _ (by decide) ⟨by decide, fun h => hz⟩ rfl rfl; done) | (exfalso; omega) | (exfalso; simp_all; done)
    · have hv : (r0) = r0 := by rfl
      rw [hv]
      focus (have kxs : 987654321 = 987654320 + 1 := rfl; have kk1 := uN [2, 3, 1] (c0); (repeat' (first | refine G ?_ | refine AW.ret ?_ | (refine GC ?_ ?_ <;> intro h <;> (try simp only [hsB] at h) <;> try (exfalso; first | omega | contradiction)) | (refine GL ?_ ?_ <;> intro h <;> (try simp only [Bool.not_true, Bool.not_false] at h) <;> (try simp only [h]) <;> (try simp only [hsB] at h) <;> try (exfalso; first | omega | contradiction)) | fail)); all_goals clear kxs kk1)
      all_goals first | ((all_goals first | exact RetQ.fr 0 | exact RetQ.fn 0 | fail); done) | (exfalso; omega) | (exfalso; simp_all; done)
  · clear hw
    have hv : (r0) = 0 := by exact g0 (by decide)
    rw [hv]
    focus (have kxs : 987654321 = 987654320 + 1 := rfl; (repeat' (first | refine G ?_ | refine AW.ret ?_ | (refine GC ?_ ?_ <;> intro h <;> (try simp only [hsB] at h) <;> try (exfalso; first | omega | contradiction)) | (refine GL ?_ ?_ <;> intro h <;> (try simp only [Bool.not_true, Bool.not_false] at h) <;> (try simp only [h]) <;> (try simp only [hsB] at h) <;> try (exfalso; first | omega | contradiction)) | fail)); all_goals clear kxs)
    all_goals first | ((all_goals first | exact RetQ.fr 0 | exact RetQ.fn 0 | fail); done) | (exfalso; omega) | (exfalso; simp_all; done)
theorem check_22 (m : Mg) (hf : m.fits) (hk : m.kind = 2) : AC Tryz.prog 20 [iv .u8 2, mgV m] [] fun y σ => y = iv .i64 (m.check 2) ∧ σ = [] := by
  refine AC.walk Tryz.func20 rfl (by decide) (of_decide_eq_true rfl) ?_
  obtain ⟨knd, id, key, fnd, obj, old, ctx, mt, dd, vl, px, pg, rg, cd, tx⟩ := m
  simp only at hk
  subst hk
  have hw := which_22
  have c0 := check_flag ⟨2, id, key, fnd, obj, old, ctx, mt, dd, vl, px, pg, rg, cd, tx⟩
  have c1 := check_found_object ⟨2, id, key, fnd, obj, old, ctx, mt, dd, vl, px, pg, rg, cd, tx⟩ hf
  have hr : Mg.check 2 ⟨2, id, key, fnd, obj, old, ctx, mt, dd, vl, px, pg, rg, cd, tx⟩ = if fnd = true then obj.check else 0 := rfl
  rw [hr]
  clear hr
  simp only at c1
  generalize (if fnd = true then obj.check else 0) = r1 at *
  focus (have kxs : 987654321 = 987654320 + 1 := rfl; have kk1 := uN [] (hw); (repeat' (first | refine G ?_ | refine AW.ret ?_ | (refine GC ?_ ?_ <;> intro h <;> (try simp only [hsB] at h) <;> try (exfalso; first | omega | contradiction)) | (refine GL ?_ ?_ <;> intro h <;> (try simp only [Bool.not_true, Bool.not_false] at h) <;> (try simp only [h]) <;> (try simp only [hsB] at h) <;> try (exfalso; first | omega | contradiction)) | fail)); all_goals clear kxs kk1)
  all_goals first | (exfalso; omega) | (exfalso; simp_all; done) | skip
  refine AW.rounds [3, 4, 20, 21, 22] (fun i : Nat => [(3, .p 0 0), (4, iv .i64 0), (20, .b 12 0 2), (21, iv .i64 2), (22, iv .i64 (i : Nat))]) (fun _ => [.box 38 (mgC ⟨2, id, key, fnd, obj, old, ctx, mt, dd, vl, px, pg, rg, cd, tx⟩), .box 3 [iv .i64 128], .box 4 [bv true], .box 231 [.f (.func 150) [] []], .box 111 [.f (.func 214) [] [.p 2 0, .p 3 0, .p 1 0], .f (.func 216) [] [.p 1 0, .p 3 0], .f (.func 218) [] [.p 1 0, .p 3 0, .p 2 0], .f (.func 220) [] [.p 3 0]], .box 234 [.f (.func 152) [] []], .box 111 [.f (.func 221) [] [], .f (.func 222) [] [.p 5 0], .f (.func 224) [] [.p 5 0], .f (.func 225) [] [.p 5 0]], .box 3 [iv .i64 64], .box 4 [bv false], .box 231 [.f (.func 153) [] []], .box 111 [.f (.func 214) [] [.p 8 0, .p 9 0, .p 7 0], .f (.func 216) [] [.p 7 0, .p 9 0], .f (.func 218) [] [.p 7 0, .p 9 0, .p 8 0], .f (.func 220) [] [.p 9 0]], .box 111 [.f (.func 239) [] [], .f (.func 241) [] [], .f (.func 243) [] [], .f (.func 245) [] []], .box 111 [.f (.func 221) [] [], .f (.func 222) [] [.p 5 0], .f (.func 224) [] [.p 5 0], .f (.func 225) [] [.p 5 0], .f (.func 226) [] [.p 11 0], .f (.func 227) [] [.p 11 0], .f (.func 228) [] [.p 11 0], .f (.func 229) [] [.p 11 0]]])
    (fun i => i ≤ 2 ∧ (2 ≤ i → r1 = 0)) (fun i => 2 - i) 0 ⟨Nat.zero_le _, fun h => absurd h (by decide)⟩ rfl rfl (fun _ _ => Nat.zero_le _) (fun _ _ => rfl) (fun _ _ => rfl) ?_
  rintro i ⟨hi, g1⟩ J hJ
  have hc : i = 0 ∨ i = 1 ∨ i = 2 := by omega
  rcases hc with rfl | rfl | rfl
  · clear hw
    focus (have kxs : 987654321 = 987654320 + 1 := rfl; have kk1 := uN [] (c0); (repeat' (first | refine G ?_ | refine AW.ret ?_ | (refine GC ?_ ?_ <;> intro h <;> (try simp only [hsB] at h) <;> try (exfalso; first | omega | contradiction)) | (refine GL ?_ ?_ <;> intro h <;> (try simp only [Bool.not_true, Bool.not_false] at h) <;> (try simp only [h]) <;> (try simp only [hsB] at h) <;> try (exfalso; first | omega | contradiction)) | fail)); all_goals clear kxs kk1)
    all_goals first | (refine hJ 1 _ _ (by decide) ⟨by decide, fun h => absurd h (by decide)⟩ rfl rfl; done) | (exfalso; omega) | (exfalso; simp_all; done)
  · clear hw
    by_cases hz : r1 = 0
    · focus (have kxs : 987654321 = 987654320 + 1 := rfl; have kk1 := uN [11] (c1); (repeat' (first | refine G ?_ | refine AW.ret ?_ | (refine GC ?_ ?_ <;> intro h <;> (try simp only [hsB] at h) <;> try (exfalso; first | omega | contradiction)) | (refine GL ?_ ?_ <;> intro h <;> (try simp only [Bool.not_true, Bool.not_false] at h) <;> (try simp only [h]) <;> (try simp only [hsB] at h) <;> try (exfalso; first | omega | contradiction)) | fail)); all_goals clear kxs kk1)
      all_goals first | (refine hJ 2 _ _ (by decide) ⟨by decide, fun h => hz⟩ rfl rfl; done) | (exfalso; omega) | (exfalso; simp_all; done)
    · have hv : (r1) = r1 := by rfl
      rw [hv]
      focus (have kxs : 987654321 = 987654320 + 1 := rfl; have kk1 := uN [11] (c1); (repeat' (first | refine G ?_ | refine AW.ret ?_ | (refine GC ?_ ?_ <;> intro h <;> (try simp only [hsB] at h) <;> try (exfalso; first | omega | contradiction)) | (refine GL ?_ ?_ <;> intro h <;> (try simp only [Bool.not_true, Bool.not_false] at h) <;> (try simp only [h]) <;> (try simp only [hsB] at h) <;> try (exfalso; first | omega | contradiction)) | fail)); all_goals clear kxs kk1)
      all_goals first | ((all_goals first | exact RetQ.fr 0 | exact RetQ.fn 0 | fail); done) | (exfalso; omega) | (exfalso; simp_all; done)
  · clear hw
    have hv : (r1) = 0 := by exact g1 (by decide)
    rw [hv]
    focus (have kxs : 987654321 = 987654320 + 1 := rfl; (repeat' (first | refine G ?_ | refine AW.ret ?_ | (refine GC ?_ ?_ <;> intro h <;> (try simp only [hsB] at h) <;> try (exfalso; first | omega | contradiction)) | (refine GL ?_ ?_ <;> intro h <;> (try simp only [Bool.not_true, Bool.not_false] at h) <;> (try simp only [h]) <;> (try simp only [hsB] at h) <;> try (exfalso; first | omega | contradiction)) | fail)); all_goals clear kxs)
    all_goals first | ((all_goals first | exact RetQ.fr 0 | exact RetQ.fn 0 | fail); done) | (exfalso; omega) | (exfalso; simp_all; done)
theorem check_23 (m : Mg) (hf : m.fits) (hk : m.kind = 3) : AC Tryz.prog 20 [iv .u8 2, mgV m] [] fun y σ => y = iv .i64 (m.check 2) ∧ σ = [] := by
  refine AC.walk Tryz.func20 rfl (by decide) (of_decide_eq_true rfl) ?_
  obtain ⟨knd, id, key, fnd, obj, old, ctx, mt, dd, vl, px, pg, rg, cd, tx⟩ := m
  simp only at hk
  subst hk
  have hw := which_23
  have c0 := check_Key ⟨3, id, key, fnd, obj, old, ctx, mt, dd, vl, px, pg, rg, cd, tx⟩ hf
  have c1 := check_ctx ⟨3, id, key, fnd, obj, old, ctx, mt, dd, vl, px, pg, rg, cd, tx⟩ hf
  have c2 := check_meta ⟨3, id, key, fnd, obj, old, ctx, mt, dd, vl, px, pg, rg, cd, tx⟩ hf
  have c3 := check_flag ⟨3, id, key, fnd, obj, old, ctx, mt, dd, vl, px, pg, rg, cd, tx⟩
  have c4 := check_Value ⟨3, id, key, fnd, obj, old, ctx, mt, dd, vl, px, pg, rg, cd, tx⟩ hf
  have hr : Mg.check 2 ⟨3, id, key, fnd, obj, old, ctx, mt, dd, vl, px, pg, rg, cd, tx⟩ = fst0 (keychk key) (fst0 (Vec.check ctx) (fst0 (Prs.check mt) (longchk vl 32768))) := rfl
  rw [hr]
  clear hr
  simp only at c0
  generalize (keychk key) = r0 at *
  simp only at c1
  generalize (Vec.check ctx) = r1 at *
  simp only at c2
  generalize (Prs.check mt) = r2 at *
  simp only at c4
  generalize (longchk vl 32768) = r4 at *
  focus (have kxs : 987654321 = 987654320 + 1 := rfl; have kk1 := uN [] (hw); (repeat' (first | refine G ?_ | refine AW.ret ?_ | (refine GC ?_ ?_ <;> intro h <;> (try simp only [hsB] at h) <;> try (exfalso; first | omega | contradiction)) | (refine GL ?_ ?_ <;> intro h <;> (try simp only [Bool.not_true, Bool.not_false] at h) <;> (try simp only [h]) <;> (try simp only [hsB] at h) <;> try (exfalso; first | omega | contradiction)) | fail)); all_goals clear kxs kk1)
  all_goals first | (exfalso; omega) | (exfalso; simp_all; done) | skip
  refine AW.rounds [3, 4, 20, 21, 22] (fun i : Nat => [(3, .p 0 0), (4, iv .i64 0), (20, .b 16 0 5), (21, iv .i64 5), (22, iv .i64 (i : Nat))]) (fun _ => [.box 38 (mgC ⟨3, id, key, fnd, obj, old, ctx, mt, dd, vl, px, pg, rg, cd, tx⟩), .box 3 [iv .i64 128], .box 4 [bv true], .box 231 [.f (.func 150) [] []], .box 111 [.f (.func 214) [] [.p 2 0, .p 3 0, .p 1 0], .f (.func 216) [] [.p 1 0, .p 3 0], .f (.func 218) [] [.p 1 0, .p 3 0, .p 2 0], .f (.func 220) [] [.p 3 0]], .box 234 [.f (.func 152) [] []], .box 111 [.f (.func 221) [] [], .f (.func 222) [] [.p 5 0], .f (.func 224) [] [.p 5 0], .f (.func 225) [] [.p 5 0]], .box 3 [iv .i64 64], .box 4 [bv false], .box 231 [.f (.func 153) [] []], .box 111 [.f (.func 214) [] [.p 8 0, .p 9 0, .p 7 0], .f (.func 216) [] [.p 7 0, .p 9 0], .f (.func 218) [] [.p 7 0, .p 9 0, .p 8 0], .f (.func 220) [] [.p 9 0]], .box 234 [.f (.func 158) [] []], .box 111 [.f (.func 221) [] [], .f (.func 222) [] [.p 11 0], .f (.func 224) [] [.p 11 0], .f (.func 225) [] [.p 11 0]], .box 3 [iv .i64 32768], .box 4 [bv false], .box 231 [.f (.func 161) [] []], .box 111 [.f (.func 214) [] [.p 2 0, .p 3 0, .p 1 0], .f (.func 216) [] [.p 1 0, .p 3 0], .f (.func 218) [] [.p 1 0, .p 3 0, .p 2 0], .f (.func 220) [] [.p 3 0], .f (.func 252) [] [], .f (.func 254) [] [], .f (.func 256) [] [], .f (.func 257) [] [], .f (.func 258) [] [], .f (.func 260) [] [], .f (.func 262) [] [], .f (.func 263) [] [], .f (.func 221) [] [], .f (.func 222) [] [.p 11 0], .f (.func 224) [] [.p 11 0], .f (.func 225) [] [.p 11 0], .f (.func 214) [] [.p 14 0, .p 15 0, .p 13 0], .f (.func 216) [] [.p 13 0, .p 15 0], .f (.func 218) [] [.p 13 0, .p 15 0, .p 14 0], .f (.func 220) [] [.p 15 0]]])
    (fun i => i ≤ 5 ∧ (1 ≤ i → r0 = 0) ∧ (2 ≤ i → r1 = 0) ∧ (3 ≤ i → r2 = 0) ∧ (5 ≤ i → r4 = 0)) (fun i => 5 - i) 0 ⟨Nat.zero_le _, fun h => absurd h (by decide), fun h => absurd h (by decide), fun h => absurd h (by decide), fun h => absurd h (by decide)⟩ rfl rfl (fun _ _ => Nat.zero_le _) (fun _ _ => rfl) (fun _ _ => rfl) ?_
  rintro i ⟨hi, g0, g1, g2, g4⟩ J hJ
  have hc : i = 0 ∨ i = 1 ∨ i = 2 ∨ i = 3 ∨ i = 4 ∨ i = 5 := by omega
  rcases hc with rfl | rfl | rfl | rfl | rfl | rfl
  · clear hw
    by_cases hz : r0 = 0
    · focus (have kxs : 987654321 = 987654320 + 1 := rfl; have kk1 := uN [2, 3, 1] (c0); (repeat' (first | refine G ?_ | refine AW.ret ?_ | (refine GC ?_ ?_ <;> intro h <;> (try simp only [hsB] at h) <;> try (exfalso; first | omega | contradiction)) | (refine GL ?_ ?_ <;> intro h <;> (try simp only [Bool.not_true, Bool.not_false] at h) <;> (try simp only [h]) <;> (try simp only [hsB] at h) <;> try (exfalso; first | omega | contradiction)) | fail)); all_goals clear kxs kk1)
      all_goals first | (refine hJ 1 _ _ (by decide) ⟨by decide, fun h => hz, fun h => absurd h (by decide), fun h => absurd h (by decide), fun h => absurd h (by decide)⟩ rfl rfl; done) | (exfalso; omega) | (exfalso; simp_all; done)
    · have hv : (fst0 r0 (fst0 r1 (fst0 r2 r4))) = r0 := by simp [fst0, hz]
      rw [hv]
      focus (have kxs : 987654321 = 987654320 + 1 := rfl; have kk1 := uN [2, 3, 1] (c0); (repeat' (first | refine G ?_ | refine AW.ret ?_ | (refine GC ?_ ?_ <;> intro h <;> (try simp only [hsB] at h) <;> try (exfalso; first | omega | contradiction)) | (refine GL ?_ ?_ <;> intro h <;> (try simp only [Bool.not_true, Bool.not_false] at h) <;> (try simp only [h]) <;> (try simp only [hsB] at h) <;> try (exfalso; first | omega | contradiction)) | fail)); all_goals clear kxs kk1)
      all_goals first | ((all_goals first | exact RetQ.fr 0 | exact RetQ.fn 0 | fail); done) | (exfalso; omega) | (exfalso; simp_all; done)
  · clear hw
    by_cases hz : r1 = 0
    · focus (have kxs : 987654321 = 987654320 + 1 := rfl; have kk1 := uN [] (c1); (repeat' (first | refine G ?_ | refine AW.ret ?_ | (refine GC ?_ ?_ <;> intro h <;> (try simp only [hsB] at h) <;> try (exfalso; first | omega | contradiction)) | (refine GL ?_ ?_ <;> intro h <;> (try simp only [Bool.not_true, Bool.not_false] at h) <;> (try simp only [h]) <;> (try simp only [hsB] at h) <;> try (exfalso; first | omega | contradiction)) | fail)); all_goals clear kxs kk1)
      all_goals first | (refine hJ 2 _ _ (by decide) ⟨by decide, fun h => g0 (by decide), fun h => hz, fun h => absurd h (by decide), fun h => absurd h (by decide)⟩ rfl rfl; done) | (exfalso; omega) | (exfalso; simp_all; done)
    · have hv : (fst0 r0 (fst0 r1 (fst0 r2 r4))) = r1 := by simp [fst0, g0 (by decide), hz]
      rw [hv]
      focus (have kxs : 987654321 = 987654320 + 1 := rfl; have kk1 := uN [] (c1); (repeat' (first | refine G ?_ | refine AW.ret ?_ | (refine GC ?_ ?_ <;> intro h <;> (try simp only [hsB] at h) <;> try (exfalso; first | omega | contradiction)) | (refine GL ?_ ?_ <;> intro h <;> (try simp only [Bool.not_true, Bool.not_false] at h) <;> (try simp only [h]) <;> (try simp only [hsB] at h) <;> try (exfalso; first | omega | contradiction)) | fail)); all_goals clear kxs kk1)
      all_goals first | ((all_goals first | exact RetQ.fr 0 | exact RetQ.fn 0 | fail); done) | (exfalso; omega) | (exfalso; simp_all; done)
  · clear hw
    by_cases hz : r2 = 0
    · focus (have kxs : 987654321 = 987654320 + 1 := rfl; have kk1 := uN [] (c2); (repeat' (first | refine G ?_ | refine AW.ret ?_ | (refine GC ?_ ?_ <;> intro h <;> (try simp only [hsB] at h) <;> try (exfalso; first | omega | contradiction)) | (refine GL ?_ ?_ <;> intro h <;> (try simp only [Bool.not_true, Bool.not_false] at h) <;> (try simp only [h]) <;> (try simp only [hsB] at h) <;> try (exfalso; first | omega | contradiction)) | fail)); all_goals clear kxs kk1)
      all_goals first | (refine hJ 3 _ _ (by decide) ⟨by decide, fun h => g0 (by decide), fun h => g1 (by decide), fun h => hz, fun h => absurd h (by decide)⟩ rfl rfl; done) | (exfalso; omega) | (exfalso; simp_all; done)
    · have hv : (fst0 r0 (fst0 r1 (fst0 r2 r4))) = r2 := by simp [fst0, g0 (by decide), g1 (by decide), hz]
      rw [hv]
      focus (have kxs : 987654321 = 987654320 + 1 := rfl; have kk1 := uN [] (c2); (repeat' (first | refine G ?_ | refine AW.ret ?_ | (refine GC ?_ ?_ <;> intro h <;> (try simp only [hsB] at h) <;> try (exfalso; first | omega | contradiction)) | (refine GL ?_ ?_ <;> intro h <;> (try simp only [Bool.not_true, Bool.not_false] at h) <;> (try simp only [h]) <;> (try simp only [hsB] at h) <;> try (exfalso; first | omega | contradiction)) | fail)); all_goals clear kxs kk1)
      all_goals first | ((all_goals first | exact RetQ.fr 0 | exact RetQ.fn 0 | fail); done) | (exfalso; omega) | (exfalso; simp_all; done)
  · clear hw
    focus (have kxs : 987654321 = 987654320 + 1 := rfl; have kk1 := uN [] (c3); (repeat' (first | refine G ?_ | refine AW.ret ?_ | (refine GC ?_ ?_ <;> intro h <;> (try simp only [hsB] at h) <;> try (exfalso; first | omega | contradiction)) | (refine GL ?_ ?_ <;> intro h <;> (try simp only [Bool.not_true, Bool.not_false] at h) <;> (try simp only [h]) <;> (try simp only [hsB] at h) <;> try (exfalso; first | omega | contradiction)) | fail)); all_goals clear kxs kk1)
    all_goals first | (refine hJ 4 _ _ (by decide) ⟨by decide, fun h => g0 (by omega), fun h => g1 (by omega), fun h => g2 (by omega), fun h => absurd h (by decide)⟩ rfl rfl; done) | (exfalso; omega) | (exfalso; simp_all; done)
  · clear hw
    by_cases hz : r4 = 0
    · focus (have kxs : 987654321 = 987654320 + 1 := rfl; have kk1 := uN [14, 15, 13] (c4); (repeat' (first | refine G ?_ | refine AW.ret ?_ | (refine GC ?_ ?_ <;> intro h <;> (try simp only [hsB] at h) <;> try (exfalso; first | omega | contradiction)) | (refine GL ?_ ?_ <;> intro h <;> (try simp only [Bool.not_true, Bool.not_false] at h) <;> (try simp only [h]) <;> (try simp only [hsB] at h) <;> try (exfalso; first | omega | contradiction)) | fail)); all_goals clear kxs kk1)
      all_goals first | (refine hJ 5 _ _ (by decide) ⟨by decide, fun h => g0 (by decide), fun h => g1 (by decide), fun h => g2 (by decide), fun h => hz⟩ rfl rfl; done) | (exfalso; omega) | (exfalso; simp_all; done)
    · have hv : (fst0 r0 (fst0 r1 (fst0 r2 r4))) = r4 := by simp [fst0, g0 (by decide), g1 (by decide), g2 (by decide), hz]
      rw [hv]
      focus (have kxs : 987654321 = 987654320 + 1 := rfl; have kk1 := uN [14, 15, 13] (c4); (repeat' (first | refine G ?_ | refine AW.ret ?_ | (refine GC ?_ ?_ <;> intro h <;> (try simp only [hsB] at h) <;> try (exfalso; first | omega | contradiction)) | (refine GL ?_ ?_ <;> intro h <;> (try simp only [Bool.not_true, Bool.not_false] at h) <;> (try simp only [h]) <;> (try simp only [hsB] at h) <;> try (exfalso; first | omega | contradiction)) | fail)); all_goals clear kxs kk1)
      all_goals first | ((all_goals first | exact RetQ.fr 0 | exact RetQ.fn 0 | fail); done) | (exfalso; omega) | (exfalso; simp_all; done)
  · clear hw
    have hv : (fst0 r0 (fst0 r1 (fst0 r2 r4))) = 0 := by simp [fst0, g0 (by decide), g1 (by decide), g2 (by decide), g4 (by decide)]
    rw [hv]
    focus (have kxs : 987654321 = 987654320 + 1 := rfl; (repeat' (first | refine G ?_ | refine AW.ret ?_ | (refine GC ?_ ?_ <;> intro h <;> (try simp only [hsB] at h) <;> try (exfalso; first | omega | contradiction)) | (refine GL ?_ ?_ <;> intro h <;> (try simp only [Bool.not_true, Bool.not_false] at h) <;> (try simp only [h]) <;> (try simp only [hsB] at h) <;> try (exfalso; first | omega | contradiction)) | fail)); all_goals clear kxs)
    all_goals first | ((all_goals first | exact RetQ.fr 0 | exact RetQ.fn 0 | fail); done) | (exfalso; omega) | (exfalso; simp_all; done)
theorem check_24 (m : Mg) (hf : m.fits) (hk : m.kind = 4) : AC Tryz.prog 20 [iv .u8 2, mgV m] [] fun y σ => y = iv .i64 (m.check 2) ∧ σ = [] := by
  refine AC.walk Tryz.func20 rfl (by decide) (of_decide_eq_true rfl) ?_
  obtain ⟨knd, id, key, fnd, obj, old, ctx, mt, dd, vl, px, pg, rg, cd, tx⟩ := m
  simp only at hk
  subst hk
  have hw := which_24
  have c0 := check_ctx ⟨4, id, key, fnd, obj, old, ctx, mt, dd, vl, px, pg, rg, cd, tx⟩ hf
  have hr : Mg.check 2 ⟨4, id, key, fnd, obj, old, ctx, mt, dd, vl, px, pg, rg, cd, tx⟩ = Vec.check ctx := rfl
  rw [hr]
  clear hr
  simp only at c0
  generalize (Vec.check ctx) = r0 at *
  focus (have kxs : 987654321 = 987654320 + 1 := rfl; have kk1 := uN [] (hw); (repeat' (first | refine G ?_ | refine AW.ret ?_ | (refine GC ?_ ?_ <;> intro h <;> (try simp only [hsB] at h) <;> try (exfalso; first | omega | contradiction)) | (refine GL ?_ ?_ <;> intro h <;> (try simp only [Bool.not_true, Bool.not_false] at h) <;> (try simp only [h]) <;> (try simp only [hsB] at h) <;> try (exfalso; first | omega | contradiction)) | fail)); all_goals clear kxs kk1)
  all_goals first | (exfalso; omega) | (exfalso; simp_all; done) | skip
  refine AW.rounds [3, 4, 20, 21, 22] (fun i : Nat => [(3, .p 0 0), (4, iv .i64 0), (20, .b 11 0 1), (21, iv .i64 1), (22, iv .i64 (i : Nat))]) (fun _ => [.box 38 (mgC ⟨4, id, key, fnd, obj, old, ctx, mt, dd, vl, px, pg, rg, cd, tx⟩), .box 3 [iv .i64 128], .box 4 [bv true], .box 231 [.f (.func 150) [] []], .box 111 [.f (.func 214) [] [.p 2 0, .p 3 0, .p 1 0], .f (.func 216) [] [.p 1 0, .p 3 0], .f (.func 218) [] [.p 1 0, .p 3 0, .p 2 0], .f (.func 220) [] [.p 3 0]], .box 234 [.f (.func 152) [] []], .box 111 [.f (.func 221) [] [], .f (.func 222) [] [.p 5 0], .f (.func 224) [] [.p 5 0], .f (.func 225) [] [.p 5 0]], .box 3 [iv .i64 64], .box 4 [bv false], .box 231 [.f (.func 153) [] []], .box 111 [.f (.func 214) [] [.p 8 0, .p 9 0, .p 7 0], .f (.func 216) [] [.p 7 0, .p 9 0], .f (.func 218) [] [.p 7 0, .p 9 0, .p 8 0], .f (.func 220) [] [.p 9 0]], .box 111 [.f (.func 252) [] [], .f (.func 254) [] [], .f (.func 256) [] [], .f (.func 257) [] []]])
    (fun i => i ≤ 1 ∧ (1 ≤ i → r0 = 0)) (fun i => 1 - i) 0 ⟨Nat.zero_le _, fun h => absurd h (by decide)⟩ rfl rfl (fun _ _ => Nat.zero_le _) (fun _ _ => rfl) (fun _ _ => rfl) ?_
  rintro i ⟨hi, g0⟩ J hJ
  have hc : i = 0 ∨ i = 1 := by omega
  rcases hc with rfl | rfl
  · clear hw
    by_cases hz : r0 = 0
    · focus (have kxs : 987654321 = 987654320 + 1 := rfl; have kk1 := uN [] (c0); (repeat' (first | refine G ?_ | refine AW.ret ?_ | (refine GC ?_ ?_ <;> intro h <;> (try simp only [hsB] at h) <;> try (exfalso; first | omega | contradiction)) | (refine GL ?_ ?_ <;> intro h <;> (try simp only [Bool.not_true, Bool.not_false] at h) <;> (try simp only [h]) <;> (try simp only [hsB] at h) <;> try (exfalso; first | omega | contradiction)) | fail)); all_goals clear kxs kk1)
      all_goals first | (refine hJ 1 _ _ (by decide) ⟨by decide, fun h => hz⟩ rfl rfl; done) | (exfalso; omega) | (exfalso; simp_all; done)
    · have hv : (r0) = r0 := by rfl
      rw [hv]
      focus (have kxs : 987654321 = 987654320 + 1 := rfl; have kk1 := uN [] (c0); (repeat' (first | refine G ?_ | refine AW.ret ?_ | (refine GC ?_ ?_ <;> intro h <;> (try simp only [hsB] at h) <;> try (exfalso; first | omega | contradiction)) | (refine GL ?_ ?_ <;> intro h <;> (try simp only [Bool.not_true, Bool.not_false] at h) <;> (try simp only [h]) <;> (try simp only [hsB] at h) <;> try (exfalso; first | omega | contradiction)) | fail)); all_goals clear kxs kk1)
      all_goals first | ((all_goals first | exact RetQ.fr 0 | exact RetQ.fn 0 | fail); done) | (exfalso; omega) | (exfalso; simp_all; done)
  · clear hw
    have hv : (r0) = 0 := by exact g0 (by decide)
    rw [hv]
    focus (have kxs : 987654321 = 987654320 + 1 := rfl; (repeat' (first | refine G ?_ | refine AW.ret ?_ | (refine GC ?_ ?_ <;> intro h <;> (try simp only [hsB] at h) <;> try (exfalso; first | omega | contradiction)) | (refine GL ?_ ?_ <;> intro h <;> (try simp only [Bool.not_true, Bool.not_false] at h) <;> (try simp only [h]) <;> (try simp only [hsB] at h) <;> try (exfalso; first | omega | contradiction)) | fail)); all_goals clear kxs)
    all_goals first | ((all_goals first | exact RetQ.fr 0 | exact RetQ.fn 0 | fail); done) | (exfalso; omega) | (exfalso; simp_all; done)
theorem check_25 (m : Mg) (hf : m.fits) (hk : m.kind = 5) : AC Tryz.prog 20 [iv .u8 2, mgV m] [] fun y σ => y = iv .i64 (m.check 2) ∧ σ = [] := by
  refine AC.walk Tryz.func20 rfl (by decide) (of_decide_eq_true rfl) ?_
  obtain ⟨knd, id, key, fnd, obj, old, ctx, mt, dd, vl, px, pg, rg, cd, tx⟩ := m
  simp only at hk
  subst hk
  have hw := which_25
  have c0 := check_Prefix ⟨5, id, key, fnd, obj, old, ctx, mt, dd, vl, px, pg, rg, cd, tx⟩ hf
  have hr : Mg.check 2 ⟨5, id, key, fnd, obj, old, ctx, mt, dd, vl, px, pg, rg, cd, tx⟩ = longchk px 31 := rfl
  rw [hr]
  clear hr
  simp only at c0
  generalize (longchk px 31) = r0 at *
  focus (have kxs : 987654321 = 987654320 + 1 := rfl; have kk1 := uN [] (hw); (repeat' (first | refine G ?_ | refine AW.ret ?_ | (refine GC ?_ ?_ <;> intro h <;> (try simp only [hsB] at h) <;> try (exfalso; first | omega | contradiction)) | (refine GL ?_ ?_ <;> intro h <;> (try simp only [Bool.not_true, Bool.not_false] at h) <;> (try simp only [h]) <;> (try simp only [hsB] at h) <;> try (exfalso; first | omega | contradiction)) | fail)); all_goals clear kxs kk1)
  all_goals first | (exfalso; omega) | (exfalso; simp_all; done) | skip
  refine AW.rounds [3, 4, 20, 21, 22] (fun i : Nat => [(3, .p 0 0), (4, iv .i64 0), (20, .b 14 0 1), (21, iv .i64 1), (22, iv .i64 (i : Nat))]) (fun _ => [.box 38 (mgC ⟨5, id, key, fnd, obj, old, ctx, mt, dd, vl, px, pg, rg, cd, tx⟩), .box 3 [iv .i64 128], .box 4 [bv true], .box 231 [.f (.func 150) [] []], .box 111 [.f (.func 214) [] [.p 2 0, .p 3 0, .p 1 0], .f (.func 216) [] [.p 1 0, .p 3 0], .f (.func 218) [] [.p 1 0, .p 3 0, .p 2 0], .f (.func 220) [] [.p 3 0]], .box 234 [.f (.func 152) [] []], .box 111 [.f (.func 221) [] [], .f (.func 222) [] [.p 5 0], .f (.func 224) [] [.p 5 0], .f (.func 225) [] [.p 5 0]], .box 3 [iv .i64 64], .box 4 [bv false], .box 231 [.f (.func 153) [] []], .box 111 [.f (.func 214) [] [.p 8 0, .p 9 0, .p 7 0], .f (.func 216) [] [.p 7 0, .p 9 0], .f (.func 218) [] [.p 7 0, .p 9 0, .p 8 0], .f (.func 220) [] [.p 9 0]], .box 3 [iv .i64 31], .box 4 [bv false], .box 231 [.f (.func 162) [] []], .box 111 [.f (.func 214) [] [.p 12 0, .p 13 0, .p 11 0], .f (.func 216) [] [.p 11 0, .p 13 0], .f (.func 218) [] [.p 11 0, .p 13 0, .p 12 0], .f (.func 220) [] [.p 13 0]]])
    (fun i => i ≤ 1 ∧ (1 ≤ i → r0 = 0)) (fun i => 1 - i) 0 ⟨Nat.zero_le _, fun h => absurd h (by decide)⟩ rfl rfl (fun _ _ => Nat.zero_le _) (fun _ _ => rfl) (fun _ _ => rfl) ?_
  rintro i ⟨hi, g0⟩ J hJ
  have hc : i = 0 ∨ i = 1 := by omega
  rcases hc with rfl | rfl
  · clear hw
    by_cases hz : r0 = 0
    · focus (have kxs : 987654321 = 987654320 + 1 := rfl; have kk1 := uN [12, 13, 11] (c0); (repeat' (first | refine G ?_ | refine AW.ret ?_ | (refine GC ?_ ?_ <;> intro h <;> (try simp only [hsB] at h) <;> try (exfalso; first | omega | contradiction)) | (refine GL ?_ ?_ <;> intro h <;> (try simp only [Bool.not_true, Bool.not_false] at h) <;> (try simp only [h]) <;> (try simp only [hsB] at h) <;> try (exfalso; first | omega | contradiction)) | fail)); all_goals clear kxs kk1)
      all_goals first | (refine hJ 1 _ _ (by decide) ⟨by decide, fun h => hz⟩ rfl rfl; done) | (exfalso; omega) | (exfalso; simp_all; done)
    · have hv : (r0) = r0 := by rfl
      rw [hv]
      focus (have kxs : 987654321 = 987654320 + 1 := rfl; have kk1 := uN [12, 13, 11] (c0); (repeat' (first | refine G ?_ | refine AW.ret ?_ | (refine GC ?_ ?_ <;> intro h <;> (try simp only [hsB] at h) <;> try (exfalso; first | omega | contradiction)) | (refine GL ?_ ?_ <;> intro h <;> (try simp only [Bool.not_true, Bool.not_false] at h) <;> (try simp only [h]) <;> (try simp only [hsB] at h) <;> try (exfalso; first | omega | contradiction)) | fail)); all_goals clear kxs kk1)
      all_goals first | ((all_goals first | exact RetQ.fr 0 | exact RetQ.fn 0 | fail); done) | (exfalso; omega) | (exfalso; simp_all; done)
  · clear hw
    have hv : (r0) = 0 := by exact g0 (by decide)
    rw [hv]
    focus (have kxs : 987654321 = 987654320 + 1 := rfl; (repeat' (first | refine G ?_ | refine AW.ret ?_ | (refine GC ?_ ?_ <;> intro h <;> (try simp only [hsB] at h) <;> try (exfalso; first | omega | contradiction)) | (refine GL ?_ ?_ <;> intro h <;> (try simp only [Bool.not_true, Bool.not_false] at h) <;> (try simp only [h]) <;> (try simp only [hsB] at h) <;> try (exfalso; first | omega | contradiction)) | fail)); all_goals clear kxs)
    all_goals first | ((all_goals first | exact RetQ.fr 0 | exact RetQ.fn 0 | fail); done) | (exfalso; omega) | (exfalso; simp_all; done)
theorem check_26 (m : Mg) (hf : m.fits) (hk : m.kind = 6) : AC Tryz.prog 20 [iv .u8 2, mgV m] [] fun y σ => y = iv .i64 (m.check 2) ∧ σ = [] := by
  refine AC.walk Tryz.func20 rfl (by decide) (of_decide_eq_true rfl) ?_
  obtain ⟨knd, id, key, fnd, obj, old, ctx, mt, dd, vl, px, pg, rg, cd, tx⟩ := m
  simp only at hk
  subst hk
  have hw := which_26
  have c0 := check_page ⟨6, id, key, fnd, obj, old, ctx, mt, dd, vl, px, pg, rg, cd, tx⟩ hf
  have hr : Mg.check 2 ⟨6, id, key, fnd, obj, old, ctx, mt, dd, vl, px, pg, rg, cd, tx⟩ = pg.check := rfl
  rw [hr]
  clear hr
  simp only at c0
  generalize (pg.check) = r0 at *
  focus (have kxs : 987654321 = 987654320 + 1 := rfl; have kk1 := uN [] (hw); (repeat' (first | refine G ?_ | refine AW.ret ?_ | (refine GC ?_ ?_ <;> intro h <;> (try simp only [hsB] at h) <;> try (exfalso; first | omega | contradiction)) | (refine GL ?_ ?_ <;> intro h <;> (try simp only [Bool.not_true, Bool.not_false] at h) <;> (try simp only [h]) <;> (try simp only [hsB] at h) <;> try (exfalso; first | omega | contradiction)) | fail)); all_goals clear kxs kk1)
  all_goals first | (exfalso; omega) | (exfalso; simp_all; done) | skip
  refine AW.rounds [3, 4, 20, 21, 22] (fun i : Nat => [(3, .p 0 0), (4, iv .i64 0), (20, .b 11 0 1), (21, iv .i64 1), (22, iv .i64 (i : Nat))]) (fun _ => [.box 38 (mgC ⟨6, id, key, fnd, obj, old, ctx, mt, dd, vl, px, pg, rg, cd, tx⟩), .box 3 [iv .i64 128], .box 4 [bv true], .box 231 [.f (.func 150) [] []], .box 111 [.f (.func 214) [] [.p 2 0, .p 3 0, .p 1 0], .f (.func 216) [] [.p 1 0, .p 3 0], .f (.func 218) [] [.p 1 0, .p 3 0, .p 2 0], .f (.func 220) [] [.p 3 0]], .box 234 [.f (.func 152) [] []], .box 111 [.f (.func 221) [] [], .f (.func 222) [] [.p 5 0], .f (.func 224) [] [.p 5 0], .f (.func 225) [] [.p 5 0]], .box 3 [iv .i64 64], .box 4 [bv false], .box 231 [.f (.func 153) [] []], .box 111 [.f (.func 214) [] [.p 8 0, .p 9 0, .p 7 0], .f (.func 216) [] [.p 7 0, .p 9 0], .f (.func 218) [] [.p 7 0, .p 9 0, .p 8 0], .f (.func 220) [] [.p 9 0]], .box 111 [.f (.func 265) [] [], .f (.func 267) [] [], .f (.func 269) [] [], .f (.func 270) [] []]])
    (fun i => i ≤ 1 ∧ (1 ≤ i → r0 = 0)) (fun i => 1 - i) 0 ⟨Nat.zero_le _, fun h => absurd h (by decide)⟩ rfl rfl (fun _ _ => Nat.zero_le _) (fun _ _ => rfl) (fun _ _ => rfl) ?_
  rintro i ⟨hi, g0⟩ J hJ
  have hc : i = 0 ∨ i = 1 := by omega
  rcases hc with rfl | rfl
  · clear hw
    by_cases hz : r0 = 0
    · focus (have kxs : 987654321 = 987654320 + 1 := rfl; have kk1 := uN [] (c0); (repeat' (first | refine G ?_ | refine AW.ret ?_ | (refine GC ?_ ?_ <;> intro h <;> (try simp only [hsB] at h) <;> try (exfalso; first | omega | contradiction)) | (refine GL ?_ ?_ <;> intro h <;> (try simp only [Bool.not_true, Bool.not_false] at h) <;> (try simp only [h]) <;> (try simp only [hsB] at h) <;> try (exfalso; first | omega | contradiction)) | fail)); all_goals clear kxs kk1)
      all_goals first | (refine hJ 1 _ _ (by decide) ⟨by decide, fun h => hz⟩ rfl rfl; done) | (exfalso; omega) | (exfalso; simp_all; done)
    · have hv : (r0) = r0 := by rfl
      rw [hv]
      focus (have kxs : 987654321 = 987654320 + 1 := rfl; have kk1 := uN [] (c0); (repeat' (first | refine G ?_ | refine AW.ret ?_ | (refine GC ?_ ?_ <;> intro h <;> (try simp only [hsB] at h) <;> try (exfalso; first | omega | contradiction)) | (refine GL ?_ ?_ <;> intro h <;> (try simp only [Bool.not_true, Bool.not_false] at h) <;> (try simp only [h]) <;> (try simp only [hsB] at h) <;> try (exfalso; first | omega | contradiction)) | fail)); all_goals clear kxs kk1)
      all_goals first | ((all_goals first | exact RetQ.fr 0 | exact RetQ.fn 0 | fail); done) | (exfalso; omega) | (exfalso; simp_all; done)
  · clear hw
    have hv : (r0) = 0 := by exact g0 (by decide)
    rw [hv]
    focus (have kxs : 987654321 = 987654320 + 1 := rfl; (repeat' (first | refine G ?_ | refine AW.ret ?_ | (refine GC ?_ ?_ <;> intro h <;> (try simp only [hsB] at h) <;> try (exfalso; first | omega | contradiction)) | (refine GL ?_ ?_ <;> intro h <;> (try simp only [Bool.not_true, Bool.not_false] at h) <;> (try simp only [h]) <;> (try simp only [hsB] at h) <;> try (exfalso; first | omega | contradiction)) | fail)); all_goals clear kxs)
    all_goals first | ((all_goals first | exact RetQ.fr 0 | exact RetQ.fn 0 | fail); done) | (exfalso; omega) | (exfalso; simp_all; done)
theorem check_27 (m : Mg) (hf : m.fits) (hk : m.kind = 7) : AC Tryz.prog 20 [iv .u8 2, mgV m] [] fun y σ => y = iv .i64 (m.check 2) ∧ σ = [] := by
  refine AC.walk Tryz.func20 rfl (by decide) (of_decide_eq_true rfl) ?_
  obtain ⟨knd, id, key, fnd, obj, old, ctx, mt, dd, vl, px, pg, rg, cd, tx⟩ := m
  simp only at hk
  subst hk
  have hw := which_27
  have c0 := check_ring ⟨7, id, key, fnd, obj, old, ctx, mt, dd, vl, px, pg, rg, cd, tx⟩ hf
  have hr : Mg.check 2 ⟨7, id, key, fnd, obj, old, ctx, mt, dd, vl, px, pg, rg, cd, tx⟩ = Ring.check rg := rfl
  rw [hr]
  clear hr
  simp only at c0
  generalize (Ring.check rg) = r0 at *
  focus (have kxs : 987654321 = 987654320 + 1 := rfl; have kk1 := uN [] (hw); (repeat' (first | refine G ?_ | refine AW.ret ?_ | (refine GC ?_ ?_ <;> intro h <;> (try simp only [hsB] at h) <;> try (exfalso; first | omega | contradiction)) | (refine GL ?_ ?_ <;> intro h <;> (try simp only [Bool.not_true, Bool.not_false] at h) <;> (try simp only [h]) <;> (try simp only [hsB] at h) <;> try (exfalso; first | omega | contradiction)) | fail)); all_goals clear kxs kk1)
  all_goals first | (exfalso; omega) | (exfalso; simp_all; done) | skip
  refine AW.rounds [3, 4, 20, 21, 22] (fun i : Nat => [(3, .p 0 0), (4, iv .i64 0), (20, .b 11 0 1), (21, iv .i64 1), (22, iv .i64 (i : Nat))]) (fun _ => [.box 38 (mgC ⟨7, id, key, fnd, obj, old, ctx, mt, dd, vl, px, pg, rg, cd, tx⟩), .box 3 [iv .i64 128], .box 4 [bv true], .box 231 [.f (.func 150) [] []], .box 111 [.f (.func 214) [] [.p 2 0, .p 3 0, .p 1 0], .f (.func 216) [] [.p 1 0, .p 3 0], .f (.func 218) [] [.p 1 0, .p 3 0, .p 2 0], .f (.func 220) [] [.p 3 0]], .box 234 [.f (.func 152) [] []], .box 111 [.f (.func 221) [] [], .f (.func 222) [] [.p 5 0], .f (.func 224) [] [.p 5 0], .f (.func 225) [] [.p 5 0]], .box 3 [iv .i64 64], .box 4 [bv false], .box 231 [.f (.func 153) [] []], .box 111 [.f (.func 214) [] [.p 8 0, .p 9 0, .p 7 0], .f (.func 216) [] [.p 7 0, .p 9 0], .f (.func 218) [] [.p 7 0, .p 9 0, .p 8 0], .f (.func 220) [] [.p 9 0]], .box 111 [.f (.func 273) [] [], .f (.func 275) [] [], .f (.func 278) [] [], .f (.func 279) [] []]])
    (fun i => i ≤ 1 ∧ (1 ≤ i → r0 = 0)) (fun i => 1 - i) 0 ⟨Nat.zero_le _, fun h => absurd h (by decide)⟩ rfl rfl (fun _ _ => Nat.zero_le _) (fun _ _ => rfl) (fun _ _ => rfl) ?_
  rintro i ⟨hi, g0⟩ J hJ
  have hc : i = 0 ∨ i = 1 := by omega
  rcases hc with rfl | rfl
  · clear hw
    by_cases hz : r0 = 0
    · focus (have kxs : 987654321 = 987654320 + 1 := rfl; have kk1 := uN [] (c0); (repeat' (first | refine G ?_ | refine AW.ret ?_ | (refine GC ?_ ?_ <;> intro h <;> (try simp only [hsB] at h) <;> try (exfalso; first | omega | contradiction)) | (refine GL ?_ ?_ <;> intro h <;> (try simp only [Bool.not_true, Bool.not_false] at h) <;> (try simp only [h]) <;> (try simp only [hsB] at h) <;> try (exfalso; first | omega | contradiction)) | fail)); all_goals clear kxs kk1)
      all_goals first | (refine hJ 1 _ _ (by decide) ⟨by decide, fun h => hz⟩ rfl rfl; done) | (exfalso; omega) | (exfalso; simp_all; done)
    · have hv : (r0) = r0 := by rfl
      rw [hv]
      focus (have kxs : 987654321 = 987654320 + 1 := rfl; have kk1 := uN [] (c0); (repeat' (first | refine G ?_ | refine AW.ret ?_ | (refine GC ?_ ?_ <;> intro h <;> (try simp only [hsB] at h) <;> try (exfalso; first | omega | contradiction)) | (refine GL ?_ ?_ <;> intro h <;> (try simp only [Bool.not_true, Bool.not_false] at h) <;> (try simp only [h]) <;> (try simp only [hsB] at h) <;> try (exfalso; first | omega | contradiction)) | fail)); all_goals clear kxs kk1)
      all_goals first | ((all_goals first | exact RetQ.fr 0 | exact RetQ.fn 0 | fail); done) | (exfalso; omega) | (exfalso; simp_all; done)
  · clear hw
    have hv : (r0) = 0 := by exact g0 (by decide)
    rw [hv]
    focus (have kxs : 987654321 = 987654320 + 1 := rfl; (repeat' (first | refine G ?_ | refine AW.ret ?_ | (refine GC ?_ ?_ <;> intro h <;> (try simp only [hsB] at h) <;> try (exfalso; first | omega | contradiction)) | (refine GL ?_ ?_ <;> intro h <;> (try simp only [Bool.not_true, Bool.not_false] at h) <;> (try simp only [h]) <;> (try simp only [hsB] at h) <;> try (exfalso; first | omega | contradiction)) | fail)); all_goals clear kxs)
    all_goals first | ((all_goals first | exact RetQ.fr 0 | exact RetQ.fn 0 | fail); done) | (exfalso; omega) | (exfalso; simp_all; done)
theorem check_28 (m : Mg) (hf : m.fits) (hk : m.kind = 8) : AC Tryz.prog 20 [iv .u8 2, mgV m] [] fun y σ => y = iv .i64 (m.check 2) ∧ σ = [] := by
  refine AC.walk Tryz.func20 rfl (by decide) (of_decide_eq_true rfl) ?_
  obtain ⟨knd, id, key, fnd, obj, old, ctx, mt, dd, vl, px, pg, rg, cd, tx⟩ := m
  simp only at hk
  subst hk
  have hw := which_28
  have c0 := check_code ⟨8, id, key, fnd, obj, old, ctx, mt, dd, vl, px, pg, rg, cd, tx⟩ hf
  have c1 := check_Text ⟨8, id, key, fnd, obj, old, ctx, mt, dd, vl, px, pg, rg, cd, tx⟩ hf
  have hr : Mg.check 2 ⟨8, id, key, fnd, obj, old, ctx, mt, dd, vl, px, pg, rg, cd, tx⟩ = fst0 (codechk cd) (longchk tx 64) := rfl
  rw [hr]
  clear hr
  simp only at c0
  generalize (codechk cd) = r0 at *
  simp only at c1
  generalize (longchk tx 64) = r1 at *
  focus (have kxs : 987654321 = 987654320 + 1 := rfl; have kk1 := uN [] (hw); (repeat' (first | refine G ?_ | refine AW.ret ?_ | (refine GC ?_ ?_ <;> intro h <;> (try simp only [hsB] at h) <;> try (exfalso; first | omega | contradiction)) | (refine GL ?_ ?_ <;> intro h <;> (try simp only [Bool.not_true, Bool.not_false] at h) <;> (try simp only [h]) <;> (try simp only [hsB] at h) <;> try (exfalso; first | omega | contradiction)) | fail)); all_goals clear kxs kk1)
  all_goals first | (exfalso; omega) | (exfalso; simp_all; done) | skip
  refine AW.rounds [3, 4, 20, 21, 22] (fun i : Nat => [(3, .p 0 0), (4, iv .i64 0), (20, .b 11 0 2), (21, iv .i64 2), (22, iv .i64 (i : Nat))]) (fun _ => [.box 38 (mgC ⟨8, id, key, fnd, obj, old, ctx, mt, dd, vl, px, pg, rg, cd, tx⟩), .box 3 [iv .i64 128], .box 4 [bv true], .box 231 [.f (.func 150) [] []], .box 111 [.f (.func 214) [] [.p 2 0, .p 3 0, .p 1 0], .f (.func 216) [] [.p 1 0, .p 3 0], .f (.func 218) [] [.p 1 0, .p 3 0, .p 2 0], .f (.func 220) [] [.p 3 0]], .box 234 [.f (.func 152) [] []], .box 111 [.f (.func 221) [] [], .f (.func 222) [] [.p 5 0], .f (.func 224) [] [.p 5 0], .f (.func 225) [] [.p 5 0]], .box 3 [iv .i64 64], .box 4 [bv false], .box 231 [.f (.func 153) [] []], .box 111 [.f (.func 214) [] [.p 8 0, .p 9 0, .p 7 0], .f (.func 216) [] [.p 7 0, .p 9 0], .f (.func 218) [] [.p 7 0, .p 9 0, .p 8 0], .f (.func 220) [] [.p 9 0]], .box 111 [.f (.func 247) [] [], .f (.func 248) [] [], .f (.func 250) [] [], .f (.func 251) [] [], .f (.func 214) [] [.p 8 0, .p 9 0, .p 7 0], .f (.func 216) [] [.p 7 0, .p 9 0], .f (.func 218) [] [.p 7 0, .p 9 0, .p 8 0], .f (.func 220) [] [.p 9 0]]])
    (fun i => i ≤ 2 ∧ (1 ≤ i → r0 = 0) ∧ (2 ≤ i → r1 = 0)) (fun i => 2 - i) 0 ⟨Nat.zero_le _, fun h => absurd h (by decide), fun h => absurd h (by decide)⟩ rfl rfl (fun _ _ => Nat.zero_le _) (fun _ _ => rfl) (fun _ _ => rfl) ?_
  rintro i ⟨hi, g0, g1⟩ J hJ
  have hc : i = 0 ∨ i = 1 ∨ i = 2 := by omega
  rcases hc with rfl | rfl | rfl
  · clear hw
    by_cases hz : r0 = 0
    · focus (have kxs : 987654321 = 987654320 + 1 := rfl; have kk1 := uN [] (c0); (repeat' (first | refine G ?_ | refine AW.ret ?_ | (refine GC ?_ ?_ <;> intro h <;> (try simp only [hsB] at h) <;> try (exfalso; first | omega | contradiction)) | (refine GL ?_ ?_ <;> intro h <;> (try simp only [Bool.not_true, Bool.not_false] at h) <;> (try simp only [h]) <;> (try simp only [hsB] at h) <;> try (exfalso; first | omega | contradiction)) | fail)); all_goals clear kxs kk1)
      all_goals first | (refine hJ 1 _ _ (by decide) ⟨by decide, fun h => hz, fun h => absurd h (by decide)⟩ rfl rfl; done) | (exfalso; omega) | (exfalso; simp_all; done)
    · have hv : (fst0 r0 r1) = r0 := by simp [fst0, hz]
      rw [hv]
      focus (have kxs : 987654321 = 987654320 + 1 := rfl; have kk1 := uN [] (c0); (repeat' (first | refine G ?_ | refine AW.ret ?_ | (refine GC ?_ ?_ <;> intro h <;> (try simp only [hsB] at h) <;> try (exfalso; first | omega | contradiction)) | (refine GL ?_ ?_ <;> intro h <;> (try simp only [Bool.not_true, Bool.not_false] at h) <;> (try simp only [h]) <;> (try simp only [hsB] at h) <;> try (exfalso; first | omega | contradiction)) | fail)); all_goals clear kxs kk1)
      all_goals first | ((all_goals first | exact RetQ.fr 0 | exact RetQ.fn 0 | fail); done) | (exfalso; omega) | (exfalso; simp_all; done)
  · clear hw
    by_cases hz : r1 = 0
    · focus (have kxs : 987654321 = 987654320 + 1 := rfl; have kk1 := uN [8, 9, 7] (c1); (repeat' (first | refine G ?_ | refine AW.ret ?_ | (refine GC ?_ ?_ <;> intro h <;> (try simp only [hsB] at h) <;> try (exfalso; first | omega | contradiction)) | (refine GL ?_ ?_ <;> intro h <;> (try simp only [Bool.not_true, Bool.not_false] at h) <;> (try simp only [h]) <;> (try simp only [hsB] at h) <;> try (exfalso; first | omega | contradiction)) | fail)); all_goals clear kxs kk1)
      all_goals first | (refine hJ 2 _ _ (by decide) ⟨by decide, fun h => g0 (by decide), fun h => hz⟩ rfl rfl; done) | (exfalso; omega) | (exfalso; simp_all; done)
    · have hv : (fst0 r0 r1) = r1 := by simp [fst0, g0 (by decide), hz]
      rw [hv]
      focus (have kxs : 987654321 = 987654320 + 1 := rfl; have kk1 := uN [8, 9, 7] (c1); (repeat' (first | refine G ?_ | refine AW.ret ?_ | (refine GC ?_ ?_ <;> intro h <;> (try simp only [hsB] at h) <;> try (exfalso; first | omega | contradiction)) | (refine GL ?_ ?_ <;> intro h <;> (try simp only [Bool.not_true, Bool.not_false] at h) <;> (try simp only [h]) <;> (try simp only [hsB] at h) <;> try (exfalso; first | omega | contradiction)) | fail)); all_goals clear kxs kk1)
      all_goals first | ((all_goals first | exact RetQ.fr 0 | exact RetQ.fn 0 | fail); done) | (exfalso; omega) | (exfalso; simp_all; done)
  · clear hw
    have hv : (fst0 r0 r1) = 0 := by simp [fst0, g0 (by decide), g1 (by decide)]
    rw [hv]
    focus (have kxs : 987654321 = 987654320 + 1 := rfl; (repeat' (first | refine G ?_ | refine AW.ret ?_ | (refine GC ?_ ?_ <;> intro h <;> (try simp only [hsB] at h) <;> try (exfalso; first | omega | contradiction)) | (refine GL ?_ ?_ <;> intro h <;> (try simp only [Bool.not_true, Bool.not_false] at h) <;> (try simp only [h]) <;> (try simp only [hsB] at h) <;> try (exfalso; first | omega | contradiction)) | fail)); all_goals clear kxs)
    all_goals first | ((all_goals first | exact RetQ.fr 0 | exact RetQ.fn 0 | fail); done) | (exfalso; omega) | (exfalso; simp_all; done)
theorem check_29 (m : Mg) (hf : m.fits) (hk : m.kind = 9) : AC Tryz.prog 20 [iv .u8 2, mgV m] [] fun y σ => y = iv .i64 (m.check 2) ∧ σ = [] := by
  refine AC.walk Tryz.func20 rfl (by decide) (of_decide_eq_true rfl) ?_
  obtain ⟨knd, id, key, fnd, obj, old, ctx, mt, dd, vl, px, pg, rg, cd, tx⟩ := m
  simp only at hk
  subst hk
  have hw := which_29
  have c0 := check_object ⟨9, id, key, fnd, obj, old, ctx, mt, dd, vl, px, pg, rg, cd, tx⟩ hf
  have hr : Mg.check 2 ⟨9, id, key, fnd, obj, old, ctx, mt, dd, vl, px, pg, rg, cd, tx⟩ = obj.check := rfl
  rw [hr]
  clear hr
  simp only at c0
  generalize (obj.check) = r0 at *
  focus (have kxs : 987654321 = 987654320 + 1 := rfl; have kk1 := uN [] (hw); (repeat' (first | refine G ?_ | refine AW.ret ?_ | (refine GC ?_ ?_ <;> intro h <;> (try simp only [hsB] at h) <;> try (exfalso; first | omega | contradiction)) | (refine GL ?_ ?_ <;> intro h <;> (try simp only [Bool.not_true, Bool.not_false] at h) <;> (try simp only [h]) <;> (try simp only [hsB] at h) <;> try (exfalso; first | omega | contradiction)) | fail)); all_goals clear kxs kk1)
  all_goals first | (exfalso; omega) | (exfalso; simp_all; done) | skip
  refine AW.rounds [3, 4, 20, 21, 22] (fun i : Nat => [(3, .p 0 0), (4, iv .i64 0), (20, .b 11 0 1), (21, iv .i64 1), (22, iv .i64 (i : Nat))]) (fun _ => [.box 38 (mgC ⟨9, id, key, fnd, obj, old, ctx, mt, dd, vl, px, pg, rg, cd, tx⟩), .box 3 [iv .i64 128], .box 4 [bv true], .box 231 [.f (.func 150) [] []], .box 111 [.f (.func 214) [] [.p 2 0, .p 3 0, .p 1 0], .f (.func 216) [] [.p 1 0, .p 3 0], .f (.func 218) [] [.p 1 0, .p 3 0, .p 2 0], .f (.func 220) [] [.p 3 0]], .box 234 [.f (.func 152) [] []], .box 111 [.f (.func 221) [] [], .f (.func 222) [] [.p 5 0], .f (.func 224) [] [.p 5 0], .f (.func 225) [] [.p 5 0]], .box 3 [iv .i64 64], .box 4 [bv false], .box 231 [.f (.func 153) [] []], .box 111 [.f (.func 214) [] [.p 8 0, .p 9 0, .p 7 0], .f (.func 216) [] [.p 7 0, .p 9 0], .f (.func 218) [] [.p 7 0, .p 9 0, .p 8 0], .f (.func 220) [] [.p 9 0]], .box 111 [.f (.func 239) [] [], .f (.func 241) [] [], .f (.func 243) [] [], .f (.func 245) [] []]])
    (fun i => i ≤ 1 ∧ (1 ≤ i → r0 = 0)) (fun i => 1 - i) 0 ⟨Nat.zero_le _, fun h => absurd h (by decide)⟩ rfl rfl (fun _ _ => Nat.zero_le _) (fun _ _ => rfl) (fun _ _ => rfl) ?_
  rintro i ⟨hi, g0⟩ J hJ
  have hc : i = 0 ∨ i = 1 := by omega
  rcases hc with rfl | rfl
  · clear hw
    by_cases hz : r0 = 0
    · focus (have kxs : 987654321 = 987654320 + 1 := rfl; have kk1 := uN [] (c0); (repeat' (first | refine G ?_ | refine AW.ret ?_ | (refine GC ?_ ?_ <;> intro h <;> (try simp only [hsB] at h) <;> try (exfalso; first | omega | contradiction)) | (refine GL ?_ ?_ <;> intro h <;> (try simp only [Bool.not_true, Bool.not_false] at h) <;> (try simp only [h]) <;> (try simp only [hsB] at h) <;> try (exfalso; first | omega | contradiction)) | fail)); all_goals clear kxs kk1)
      all_goals first | (refine hJ 1 _ _ (by decide) ⟨by decide, fun h => hz⟩ rfl rfl; done) | (exfalso; omega) | (exfalso; simp_all; done)
    · have hv : (r0) = r0 := by rfl
      rw [hv]
      focus (have kxs : 987654321 = 987654320 + 1 := rfl; have kk1 := uN [] (c0); (repeat' (first | refine G ?_ | refine AW.ret ?_ | (refine GC ?_ ?_ <;> intro h <;> (try simp only [hsB] at h) <;> try (exfalso; first | omega | contradiction)) | (refine GL ?_ ?_ <;> intro h <;> (try simp only [Bool.not_true, Bool.not_false] at h) <;> (try simp only [h]) <;> (try simp only [hsB] at h) <;> try (exfalso; first | omega | contradiction)) | fail)); all_goals clear kxs kk1)
      all_goals first | ((all_goals first | exact RetQ.fr 0 | exact RetQ.fn 0 | fail); done) | (exfalso; omega) | (exfalso; simp_all; done)
  · clear hw
    have hv : (r0) = 0 := by exact g0 (by decide)
    rw [hv]
    focus (have kxs : 987654321 = 987654320 + 1 := rfl; (repeat' (first | refine G ?_ | refine AW.ret ?_ | (refine GC ?_ ?_ <;> intro h <;> (try simp only [hsB] at h) <;> try (exfalso; first | omega | contradiction)) | (refine GL ?_ ?_ <;> intro h <;> (try simp only [Bool.not_true, Bool.not_false] at h) <;> (try simp only [h]) <;> (try simp only [hsB] at h) <;> try (exfalso; first | omega | contradiction)) | fail)); all_goals clear kxs)
    all_goals first | ((all_goals first | exact RetQ.fr 0 | exact RetQ.fn 0 | fail); done) | (exfalso; omega) | (exfalso; simp_all; done)
end Go.AW
