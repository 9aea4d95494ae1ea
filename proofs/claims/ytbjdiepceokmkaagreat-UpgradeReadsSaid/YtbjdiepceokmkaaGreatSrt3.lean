/-
  the object of siblings: the document's.
-/
import Derived.Test.YtbjdiepceokmkaaGreatSrt2
namespace Go.AW
open Go Go.Proofs
set_option maxHeartbeats 2000000
set_option maxRecDepth 10000
set_option linter.unusedSimpArgs false
set_option linter.unusedVariables false
attribute [local irreducible] thenQ blockQ RetQ AL AW AC AOp

theorem without_perm {α : Type} {l r : List α} {x : α} {k : Nat} (h : l.drop k = x :: r) : (x :: (l.take k ++ l.drop (k + 1))).Perm l := by
  rw [next_drop h]
  conv => rhs; rw [← List.take_append_drop k l, h]
  exact List.perm_middle.symm
theorem flat_take7 {α β : Type} {f : α → List β} {sz : Nat} (hf : ∀ x, (f x).length = sz) : ∀ (l : List α) (i : Nat), ((l.map f).flatten).take (i * sz) = ((l.take i).map f).flatten
  | [], i => by simp
  | x :: l, 0 => by simp
  | x :: l, i + 1 => by
    simp only [List.map_cons, List.flatten_cons, List.take_succ_cons]
    rw [show (i + 1) * sz = (f x).length + i * sz by rw [hf, Nat.add_mul]; omega, List.take_length_add_append, flat_take7 hf l i]
theorem sbs_without (l : List Sb) (k : Nat) : (sbsD l).take (k * 7) ++ (sbsD l).drop ((k + 1) * 7) = sbsD (l.take k ++ l.drop (k + 1)) := by
  rw [sbsD, flat_take7 (f := sbD) (sz := 7) (fun _ => rfl), flat_drop (f := sbD) (sz := 7) (fun _ => rfl), sbsD, List.map_append, List.flatten_append]

theorem ref16_Sort (key : List UInt8) (l : List Sb) (hk : key.length ≤ 9223372036854775807) (hl : l.length ≤ 9223372036854775807) (hf : ∀ x ∈ l, x.fits) :
    AC Tryz.prog 66 [sv (bs key), .d (.l l.length (sbsD l))] [] fun x σ => x = .t [ojV (osort key l).1, iv .i64 (osort key l).2] ∧ σ = [] := by
  refine AC.walk Tryz.func66 rfl (by decide) (of_decide_eq_true rfl) ?_
  by_cases hout : outside key l.length = 0
  case neg =>
    rw [osort_out hout]
    focus (have kxs : 987654321 = 987654320 + 1 := rfl; have kk1 := uN [] (ref16_outside key l.length hk hl); (repeat' (first | (refine ADr.nil ?_; try clear hgv) | refine GO ?_ | refine AW.ret ?_ | (refine GC ?_ ?_ <;> intro h <;> (try simp only [hsB] at h) <;> try (exfalso; first | omega | contradiction)) | (refine GD ?_ ?_ <;> intro h <;> (try intro hgv) <;> (try simp only [Bool.not_true, Bool.not_false] at h) <;> (try simp only [h]) <;> (try simp only [hsB] at h) <;> try (exfalso; first | omega | contradiction)) | (refine GL ?_ ?_ <;> intro h <;> (try simp only [Bool.not_true, Bool.not_false] at h) <;> (try simp only [h]) <;> (try simp only [hsB] at h) <;> try (exfalso; first | omega | contradiction)) | fail)); all_goals clear kxs kk1)
    all_goals first | (((all_goals first | refine RetQ.r 0 rfl (Nat.le_of_ble_eq_true rfl) rfl (by first | rfl | (simp only [go_sem, ↓reduceIte, Nat.reduceLT, Nat.lt_irrefl])) ⟨?_, ?_⟩ | refine RetQ.n 0 rfl (Nat.le_of_ble_eq_true rfl) rfl (by first | rfl | (simp only [go_sem, ↓reduceIte, Nat.reduceLT, Nat.lt_irrefl])) ⟨?_, ?_⟩); (all_goals first | rfl | (simp [oj0, *]; done) | ((simp only [go_sem, ↓reduceIte, Nat.reduceLT, oj0]; (repeat' split)) <;> first | rfl | (exfalso; omega) | (simp_all; done) | (simp_all; omega)))); done) | (exfalso; simp_all; done)
  obtain ⟨k1, k2, k3, k4⟩ := outside_zero.1 hout
  focus (have kxs := hout; have kk1 := uN [] (ref16_outside key l.length hk hl); (repeat' (first | (refine ADr.nil ?_; try clear hgv) | refine GO ?_ | refine AW.ret ?_ | (refine GC ?_ ?_ <;> intro h <;> (try simp only [hsB] at h) <;> try (exfalso; first | omega | contradiction)) | (refine GD ?_ ?_ <;> intro h <;> (try intro hgv) <;> (try simp only [Bool.not_true, Bool.not_false] at h) <;> (try simp only [h]) <;> (try simp only [hsB] at h) <;> try (exfalso; first | omega | contradiction)) | (refine GL ?_ ?_ <;> intro h <;> (try simp only [Bool.not_true, Bool.not_false] at h) <;> (try simp only [h]) <;> (try simp only [hsB] at h) <;> try (exfalso; first | omega | contradiction)) | fail)); all_goals clear kxs kk1)
  all_goals first | (exfalso; simp_all; done) | skip
  refine AW.rounds [0, 1, 4, 5, 7] (fun i : Nat => [(0, sv (bs key)), (1, .d (.l l.length (sbsD l))), (4, .p 0 0), (5, iv .i64 0), (7, iv .i64 i)])
    (fun i => [.box 25 [sv (bs []), .d (.s (.slice none 0 0))]])
    (fun i => i ≤ l.length ∧ schecks (l.take i) = 0) (fun i => l.length - i) 0 ⟨Nat.zero_le _, rfl⟩ rfl rfl (fun _ _ => Nat.zero_le _) (fun _ _ => rfl) (fun _ _ => rfl) ?_
  rintro i ⟨hi, hs⟩ J hJ
  by_cases hil : i < l.length
  · obtain ⟨x, r, hd⟩ := next_at hil
    have hcd := sbs_drop hd
    have hfx := hf x (next_mem hd)
    by_cases hxc : x.check = 0
    case neg =>
      have hsc := schecks_at hd hs hxc
      rw [osort_check hout (by rw [hsc]; exact hxc), hsc]
      focus (have kxs := hcd; have kk1 := uN [] (ref15_Check x hfx); (repeat' (first | (refine ADr.nil ?_; try clear hgv) | refine GO ?_ | refine AW.ret ?_ | (refine GC ?_ ?_ <;> intro h <;> (try simp only [hsB] at h) <;> try (exfalso; first | omega | contradiction)) | (refine GD ?_ ?_ <;> intro h <;> (try intro hgv) <;> (try simp only [Bool.not_true, Bool.not_false] at h) <;> (try simp only [h]) <;> (try simp only [hsB] at h) <;> try (exfalso; first | omega | contradiction)) | (refine GL ?_ ?_ <;> intro h <;> (try simp only [Bool.not_true, Bool.not_false] at h) <;> (try simp only [h]) <;> (try simp only [hsB] at h) <;> try (exfalso; first | omega | contradiction)) | fail)); all_goals clear kxs kk1)
      all_goals first | (((all_goals first | refine RetQ.r 0 rfl (Nat.le_of_ble_eq_true rfl) rfl (by first | rfl | (simp only [go_sem, ↓reduceIte, Nat.reduceLT, Nat.lt_irrefl])) ⟨?_, ?_⟩ | refine RetQ.n 0 rfl (Nat.le_of_ble_eq_true rfl) rfl (by first | rfl | (simp only [go_sem, ↓reduceIte, Nat.reduceLT, Nat.lt_irrefl])) ⟨?_, ?_⟩); (all_goals first | rfl | (simp [oj0, *]; done) | ((simp only [go_sem, ↓reduceIte, Nat.reduceLT, oj0]; (repeat' split)) <;> first | rfl | (exfalso; omega) | (simp_all; done) | (simp_all; omega)))); done) | (exfalso; simp_all; done)
    have hst := schecks_step hd hs hxc
    focus (have kxs := And.intro hcd hxc; have kk1 := uN [] (ref15_Check x hfx); (repeat' (first | (refine ADr.nil ?_; try clear hgv) | refine GO ?_ | refine AW.ret ?_ | (refine GC ?_ ?_ <;> intro h <;> (try simp only [hsB] at h) <;> try (exfalso; first | omega | contradiction)) | (refine GD ?_ ?_ <;> intro h <;> (try intro hgv) <;> (try simp only [Bool.not_true, Bool.not_false] at h) <;> (try simp only [h]) <;> (try simp only [hsB] at h) <;> try (exfalso; first | omega | contradiction)) | (refine GL ?_ ?_ <;> intro h <;> (try simp only [Bool.not_true, Bool.not_false] at h) <;> (try simp only [h]) <;> (try simp only [hsB] at h) <;> try (exfalso; first | omega | contradiction)) | fail)); all_goals clear kxs kk1)
    all_goals first | (refine hJ (i + 1) _ _ (by omega) ⟨hil, hst⟩ rfl rfl) | (exfalso; simp_all; done)
  have hi2 : i = l.length := by omega
  rw [hi2, List.take_length] at hs
  rw [hi2]
  have hz := schecks_zero.1 hs
  have hol : (sbsD l).length = l.length * 7 := flat_len (f := sbD) (sz := 7) (fun _ => rfl) l
  have hon : onesD (sbsD l) = true := onesD_flat sbD (fun _ => rfl) l
  focus (have kxs := hon; (repeat' (first | (refine ADr.nil ?_; try clear hgv) | refine GW ?_ | refine AW.ret ?_ | (refine GC ?_ ?_ <;> intro h <;> (try simp only [hsB] at h) <;> try (exfalso; first | omega | contradiction)) | (refine GD ?_ ?_ <;> intro h <;> (try intro hgv) <;> (try simp only [Bool.not_true, Bool.not_false] at h) <;> (try simp only [h]) <;> (try simp only [hsB] at h) <;> try (exfalso; first | omega | contradiction)) | (refine GL ?_ ?_ <;> intro h <;> (try simp only [Bool.not_true, Bool.not_false] at h) <;> (try simp only [h]) <;> (try simp only [hsB] at h) <;> try (exfalso; first | omega | contradiction)) | fail)); all_goals clear kxs)
  all_goals first | (exfalso; omega) | skip
  refine AW.freeze [4, 5, 9, 10] 2 (Nat.zero_le _) rfl (by first | rfl | simp [go_sem]) ?_
  refine AW.birth 57 7 [] [(1, 1)] ?_
  refine AW.roundsF [4, 5, 9, 10] (fun y : List Sb × List Sb => [(4, .p 0 0), (5, iv .i64 0), (9, .p 1 0), (10, .d (.l y.2.length (sbsD y.2)))])
    (fun y => [.box 25 [sv (bs []), .d (.s (.slice none 0 0))], .box 25 [sv (bs key), .o 2 y.1.length], .row 57 7 y.1.length (sbsD y.1)])
    (fun y => (y.1 ++ y.2).Perm l ∧ y.1.Pairwise (fun a b => lessB (skey a) (skey b) = true) ∧ ∀ x ∈ y.1, ∀ z ∈ y.2, lessB (skey z) (skey x) = false) (fun y => y.2.length) ([], l)
    ⟨List.Perm.refl _, List.Pairwise.nil, fun x hx => (List.not_mem_nil hx).elim⟩ (by first | rfl | simp [go_sem]) (by first | rfl | simp [go_sem]) (fun _ _ => Nat.zero_le _) (fun _ _ => rfl) (fun _ _ => rfl) ?_
  rintro ⟨m, left⟩ ⟨hp, hm, hle⟩ J' hJ'
  simp only at hp hm hle ⊢
  have hpl := hp.length_eq
  rw [List.length_append] at hpl
  by_cases hleft : 0 < left.length
  case neg =>
    have hle0 : left = [] := List.length_eq_zero_iff.1 (by omega)
    subst hle0
    rw [List.append_nil] at hp
    rw [osort_done hout hs hp hm]
    focus (have kxs : 987654321 = 987654320 + 1 := rfl; (repeat' (first | (refine ADr.nil ?_; try clear hgv) | refine GO ?_ | refine AW.ret ?_ | (refine GC ?_ ?_ <;> intro h <;> (try simp only [hsB] at h) <;> try (exfalso; first | omega | contradiction)) | (refine GD ?_ ?_ <;> intro h <;> (try intro hgv) <;> (try simp only [Bool.not_true, Bool.not_false] at h) <;> (try simp only [h]) <;> (try simp only [hsB] at h) <;> try (exfalso; first | omega | contradiction)) | (refine GL ?_ ?_ <;> intro h <;> (try simp only [Bool.not_true, Bool.not_false] at h) <;> (try simp only [h]) <;> (try simp only [hsB] at h) <;> try (exfalso; first | omega | contradiction)) | fail)); all_goals clear kxs)
    all_goals first | (((all_goals first | refine RetQ.r 0 (xs := [.a [sv (bs key), .o 2 m.length], iv .i64 0]) rfl (Nat.le_of_ble_eq_true rfl) rfl (by first | rfl | (simp only [go_sem, ↓reduceIte, Nat.reduceLT, Nat.lt_irrefl])) ⟨?_, ?_⟩ | refine RetQ.n 0 (xs := [.a [sv (bs key), .o 2 m.length], iv .i64 0]) rfl (Nat.le_of_ble_eq_true rfl) rfl (by first | rfl | (simp only [go_sem, ↓reduceIte, Nat.reduceLT, Nat.lt_irrefl])) ⟨?_, ?_⟩); (all_goals first | rfl | (simp [*]; done) | ((simp only [go_sem, ↓reduceIte, Nat.reduceLT]; (repeat' split)) <;> first | rfl | (exfalso; omega) | (simp_all; done) | (simp_all; omega)))); done) | (exfalso; omega) | (exfalso; simp_all; done)
  have hmemL : ∀ y ∈ left, y ∈ l := fun y hy => hp.mem_iff.1 (List.mem_append_right _ hy)
  have hmemM : ∀ y ∈ m, y ∈ l := fun y hy => hp.mem_iff.1 (List.mem_append_left _ hy)
  have hkey : ∀ y ∈ l, (skey y).length ≤ 4060 := fun y hy => Sb.key_len (Sb.good_of (hz y hy) (hf y hy))
  focus (have kxs : 987654321 = 987654320 + 1 := rfl; (repeat' (first | (refine ADr.nil ?_; try clear hgv) | refine GO ?_ | refine AW.ret ?_ | (refine GC ?_ ?_ <;> intro h <;> (try simp only [hsB] at h) <;> try (exfalso; first | omega | contradiction)) | (refine GD ?_ ?_ <;> intro h <;> (try intro hgv) <;> (try simp only [Bool.not_true, Bool.not_false] at h) <;> (try simp only [h]) <;> (try simp only [hsB] at h) <;> try (exfalso; first | omega | contradiction)) | (refine GL ?_ ?_ <;> intro h <;> (try simp only [Bool.not_true, Bool.not_false] at h) <;> (try simp only [h]) <;> (try simp only [hsB] at h) <;> try (exfalso; first | omega | contradiction)) | fail)); all_goals clear kxs)
  all_goals first | (exfalso; omega) | skip
  refine AW.rounds [4, 5, 9, 10, 11, 12] (fun y : Nat × Nat => [(4, .p 0 0), (5, iv .i64 0), (9, .p 1 0), (10, .d (.l left.length (sbsD left))), (11, iv .i64 y.1), (12, iv .i64 y.2)])
    (fun _ => [.box 25 [sv (bs []), .d (.s (.slice none 0 0))], .box 25 [sv (bs key), .o 2 m.length], .row 57 7 m.length (sbsD m)])
    (fun y => y.1 < y.2 ∧ y.2 ≤ left.length ∧ ∃ z r, left.drop y.1 = z :: r ∧ ∀ u ∈ left.take y.2, lessB (skey u) (skey z) = false) (fun y => left.length - y.2) (0, 1)
    ⟨Nat.zero_lt_one, hleft, by obtain ⟨z, r, h⟩ := next_at hleft; exact ⟨z, r, h, fun u hu => by rw [next_take h] at hu; simp at hu; rw [hu, less_irr]⟩⟩ rfl rfl (fun _ _ => Nat.zero_le _) (fun _ _ => rfl) (fun _ _ => rfl) ?_
  rintro ⟨k, i⟩ ⟨hki, hin, z, rz, hdz, hmin⟩ J2 hJ2
  simp only at hki hin hdz hmin ⊢
  have hcz := sbs_drop hdz
  have hzl := hmemL z (next_mem hdz)
  by_cases hil2 : i < left.length
  · obtain ⟨x, r, hd⟩ := next_at hil2
    have hcx := sbs_drop hd
    have hxl := hmemL x (next_mem hd)
    have hkx := hkey x hxl
    have hkz := hkey z hzl
    by_cases hls : lessB (skey x) (skey z) = true
    · have hls' : Op.bytesLess (skey x) (skey z) = true := hls
      have hmin2 : ∀ u ∈ left.take (i + 1), lessB (skey u) (skey x) = false := fun u hu => by
        rw [next_take hd] at hu
        rcases List.mem_append.1 hu with hu | hu
        · exact less_le_trans (hmin u hu) (less_asym hls)
        · rw [List.mem_singleton.1 hu, less_irr]
      focus (have kxs := And.intro hcx (And.intro hcz hls'); have kk1 := uN [] (ref16_key x (hf x hxl) (hz x hxl)); have kk2 := uN [] (ref16_key z (hf z hzl) (hz z hzl)); have kk3 := uN [] (ref06_Below (skey x) (skey z) (by omega) (by omega)); (repeat' (first | (refine ADr.nil ?_; try clear hgv) | refine GO ?_ | refine AW.ret ?_ | (refine GC ?_ ?_ <;> intro h <;> (try simp only [hsB] at h) <;> try (exfalso; first | omega | contradiction)) | (refine GD ?_ ?_ <;> intro h <;> (try intro hgv) <;> (try simp only [Bool.not_true, Bool.not_false] at h) <;> (try simp only [h]) <;> (try simp only [hsB] at h) <;> try (exfalso; first | omega | contradiction)) | (refine GL ?_ ?_ <;> intro h <;> (try simp only [Bool.not_true, Bool.not_false] at h) <;> (try simp only [h]) <;> (try simp only [hsB] at h) <;> try (exfalso; first | omega | contradiction)) | fail)); all_goals clear kxs kk1 kk2 kk3)
      all_goals first | (refine hJ2 (i, i + 1) _ _ (by simp only; omega) ⟨Nat.lt_succ_self i, hil2, x, r, hd, hmin2⟩ rfl rfl) | (exfalso; omega) | (exfalso; simp_all; done)
    · have hls : lessB (skey x) (skey z) = false := by simpa using hls
      have hls' : Op.bytesLess (skey x) (skey z) = false := hls
      have hmin2 : ∀ u ∈ left.take (i + 1), lessB (skey u) (skey z) = false := fun u hu => by
        rw [next_take hd] at hu
        rcases List.mem_append.1 hu with hu | hu
        · exact hmin u hu
        · rw [List.mem_singleton.1 hu]; exact hls
      focus (have kxs := And.intro hcx (And.intro hcz hls'); have kk1 := uN [] (ref16_key x (hf x hxl) (hz x hxl)); have kk2 := uN [] (ref16_key z (hf z hzl) (hz z hzl)); have kk3 := uN [] (ref06_Below (skey x) (skey z) (by omega) (by omega)); (repeat' (first | (refine ADr.nil ?_; try clear hgv) | refine GO ?_ | refine AW.ret ?_ | (refine GC ?_ ?_ <;> intro h <;> (try simp only [hsB] at h) <;> try (exfalso; first | omega | contradiction)) | (refine GD ?_ ?_ <;> intro h <;> (try intro hgv) <;> (try simp only [Bool.not_true, Bool.not_false] at h) <;> (try simp only [h]) <;> (try simp only [hsB] at h) <;> try (exfalso; first | omega | contradiction)) | (refine GL ?_ ?_ <;> intro h <;> (try simp only [Bool.not_true, Bool.not_false] at h) <;> (try simp only [h]) <;> (try simp only [hsB] at h) <;> try (exfalso; first | omega | contradiction)) | fail)); all_goals clear kxs kk1 kk2 kk3)
      all_goals first | (refine hJ2 (k, i + 1) _ _ (by simp only; omega) ⟨by omega, hil2, z, rz, hdz, hmin2⟩ rfl rfl) | (exfalso; omega) | (exfalso; simp_all; done)
  have hie : i = left.length := by omega
  rw [hie, List.take_length] at hmin
  clear hJ2
  have hwp := without_perm hdz
  have hsw := sbs_without left k
  have holl : (sbsD left).length = left.length * 7 := flat_len (f := sbD) (sz := 7) (fun _ => rfl) left
  have honl : onesD (sbsD left) = true := onesD_flat sbD (fun _ => rfl) left
  have hont : onesD ((sbsD left).take (k * 7)) = true := by rw [sbsD, flat_take7 (f := sbD) (sz := 7) (fun _ => rfl)]; exact onesD_flat sbD (fun _ => rfl) _
  have hond : onesD ((sbsD left).drop ((k + 1) * 7)) = true := by rw [sbsD, flat_drop (f := sbD) (sz := 7) (fun _ => rfl)]; exact onesD_flat sbD (fun _ => rfl) _
  have hkl : k < left.length := by omega
  have htl : ((sbsD left).take (k * 7)).length = k * 7 := by rw [List.length_take, holl]; omega
  have hdl : ((sbsD left).drop ((k + 1) * 7)).length = (left.length - (k + 1)) * 7 := by rw [List.length_drop, holl]; omega
  have hk1 : ((k : Int) + 1).toNat = k + 1 := by omega
  have hsn := sbs_snoc m z
  have hln : (m ++ [z]).length = m.length + 1 := by simp
  have hlw : (left.take k ++ left.drop (k + 1)).length = k + (left.length - (k + 1)) := by rw [List.length_append, List.length_take, List.length_drop]; omega
  have hmv : ((m ++ [z]) ++ (left.take k ++ left.drop (k + 1))).Perm l := by
    rw [List.append_assoc]
    exact (hwp.append_left m).trans hp
  by_cases hm0 : m = []
  · subst hm0
    have hnext : ([z] : List Sb).Pairwise (fun a b => lessB (skey a) (skey b) = true) := List.pairwise_singleton _ _
    have hle2 : ∀ x ∈ [z], ∀ u ∈ left.take k ++ left.drop (k + 1), lessB (skey u) (skey x) = false := fun x hx u hu => by
      rw [List.mem_singleton.1 hx]; exact hmin u (hwp.mem_iff.1 (List.mem_cons_of_mem _ hu))
    focus (have kxs := And.intro hcz (And.intro hk1 (And.intro hont hond)); (repeat' (first | (refine ADr.nil ?_; try clear hgv) | refine GW ?_ | refine AW.ret ?_ | (refine GC ?_ ?_ <;> intro h <;> (try simp only [hsB] at h) <;> try (exfalso; first | omega | contradiction)) | (refine GD ?_ ?_ <;> intro h <;> (try intro hgv) <;> (try simp only [Bool.not_true, Bool.not_false] at h) <;> (try simp only [h]) <;> (try simp only [hsB] at h) <;> try (exfalso; first | omega | contradiction)) | (refine GL ?_ ?_ <;> intro h <;> (try simp only [Bool.not_true, Bool.not_false] at h) <;> (try simp only [h]) <;> (try simp only [hsB] at h) <;> try (exfalso; first | omega | contradiction)) | fail)); all_goals clear kxs)
    all_goals first | (refine hJ' ([z], left.take k ++ left.drop (k + 1)) _ _ (by simp only [hlw]; omega) ⟨hmv, hnext, hle2⟩ (by simp only [hlw, ← hsw]; first | rfl | simp [go_sem]) (by first | rfl | (simp only [hln, ← hsn]; rfl))) | (exfalso; omega) | (exfalso; simp_all; done)
  · obtain ⟨m', y, rfl⟩ : ∃ m' y, m = m' ++ [y] := by
      obtain ⟨a, b, h⟩ := (List.eq_nil_or_concat m).resolve_left hm0
      exact ⟨a, b, by rw [h, List.concat_eq_append]⟩
    have hyl : y ∈ l := hmemM y (by simp)
    have hlst : (m' ++ [y]).drop ((m' ++ [y]).length - 1) = y :: [] := by simp
    have hcy := sbs_drop hlst
    have hpos : 0 < (m' ++ [y]).length := by simp
    have hmm : (((m' ++ [y]).length : Int) - 1).toNat = (m' ++ [y]).length - 1 := by omega
    have hyz := hle y (by simp) z (next_mem hdz)
    have hone : onesD (sbsD (m' ++ [y])) = true := onesD_flat sbD (fun _ => rfl) _
    by_cases hq : skey y = skey z
    · have hnd : ¬ (l.map skey).Nodup := fun h => by
        have h1 := ((hp.map skey).nodup_iff).2 h
        rw [List.map_append, List.nodup_append] at h1
        exact h1.2.2 (skey y) (List.mem_map.2 ⟨y, by simp, rfl⟩) (skey z) (List.mem_map.2 ⟨z, next_mem hdz, rfl⟩) hq
      rw [osort_twice hout hs hnd]
      generalize m' ++ [y] = m at *
      focus (have kxs := And.intro hcz (And.intro hcy (And.intro hmm hq)); have kk1 := uN [] (ref16_key y (hf y hyl) (hz y hyl)); have kk2 := uN [] (ref16_key z (hf z hzl) (hz z hzl)); (repeat' (first | (refine ADr.nil ?_; try clear hgv) | refine GW ?_ | refine AW.ret ?_ | (refine GC ?_ ?_ <;> intro h <;> (try simp only [hsB] at h) <;> try (exfalso; first | omega | contradiction)) | (refine GD ?_ ?_ <;> intro h <;> (try intro hgv) <;> (try simp only [Bool.not_true, Bool.not_false] at h) <;> (try simp only [h]) <;> (try simp only [hsB] at h) <;> try (exfalso; first | omega | contradiction)) | (refine GL ?_ ?_ <;> intro h <;> (try simp only [Bool.not_true, Bool.not_false] at h) <;> (try simp only [h]) <;> (try simp only [hsB] at h) <;> try (exfalso; first | omega | contradiction)) | fail)); all_goals clear kxs kk1 kk2)
      all_goals first | (((all_goals first | refine RetQ.r 0 rfl (Nat.le_of_ble_eq_true rfl) rfl (by first | rfl | (simp only [go_sem, ↓reduceIte, Nat.reduceLT, Nat.lt_irrefl])) ⟨?_, ?_⟩ | refine RetQ.n 0 rfl (Nat.le_of_ble_eq_true rfl) rfl (by first | rfl | (simp only [go_sem, ↓reduceIte, Nat.reduceLT, Nat.lt_irrefl])) ⟨?_, ?_⟩); (all_goals first | rfl | (simp [oj0, *]; done) | ((simp only [go_sem, ↓reduceIte, Nat.reduceLT, oj0]; (repeat' split)) <;> first | rfl | (exfalso; omega) | (simp_all; done) | (simp_all; omega)))); done) | (exfalso; omega) | (exfalso; simp_all; done)
    · have hyz2 : lessB (skey y) (skey z) = true := (less_total hyz).resolve_left hq
      have hnext : ((m' ++ [y]) ++ [z]).Pairwise (fun a b => lessB (skey a) (skey b) = true) := by
        rw [List.pairwise_append]
        refine ⟨hm, List.pairwise_singleton _ _, fun a ha b hb => ?_⟩
        rw [List.mem_singleton.1 hb]
        rcases List.mem_append.1 ha with ha | ha
        · exact less_trans ((List.pairwise_append.1 hm).2.2 a ha y (by simp)) hyz2
        · rw [List.mem_singleton.1 ha]; exact hyz2
      have hle2 : ∀ x ∈ (m' ++ [y]) ++ [z], ∀ u ∈ left.take k ++ left.drop (k + 1), lessB (skey u) (skey x) = false := fun x hx u hu => by
        have hul : u ∈ left := hwp.mem_iff.1 (List.mem_cons_of_mem _ hu)
        rcases List.mem_append.1 hx with hx | hx
        · exact hle x hx u hul
        · rw [List.mem_singleton.1 hx]; exact hmin u hul
      generalize m' ++ [y] = m at *
      focus (have kxs := And.intro hcz (And.intro hcy (And.intro hmm (And.intro hk1 (And.intro hont hond)))); have kk1 := uN [] (ref16_key y (hf y hyl) (hz y hyl)); have kk2 := uN [] (ref16_key z (hf z hzl) (hz z hzl)); (repeat' (first | (refine ADr.nil ?_; try clear hgv) | refine GW ?_ | refine AW.ret ?_ | (refine GC ?_ ?_ <;> intro h <;> (try simp only [hsB] at h) <;> try (exfalso; first | omega | contradiction)) | (refine GD ?_ ?_ <;> intro h <;> (try intro hgv) <;> (try simp only [Bool.not_true, Bool.not_false] at h) <;> (try simp only [h]) <;> (try simp only [hsB] at h) <;> try (exfalso; first | omega | contradiction)) | (refine GL ?_ ?_ <;> intro h <;> (try simp only [Bool.not_true, Bool.not_false] at h) <;> (try simp only [h]) <;> (try simp only [hsB] at h) <;> try (exfalso; first | omega | contradiction)) | fail)); all_goals clear kxs kk1 kk2)
      all_goals first | (refine hJ' (m ++ [z], left.take k ++ left.drop (k + 1)) _ _ (by simp only [hlw]; omega) ⟨hmv, hnext, hle2⟩ (by simp only [hlw, ← hsw]; first | rfl | simp [go_sem]) (by simp only [hln, ← hsn]; rfl)) | (exfalso; omega) | (exfalso; simp_all; done)
end Go.AW
