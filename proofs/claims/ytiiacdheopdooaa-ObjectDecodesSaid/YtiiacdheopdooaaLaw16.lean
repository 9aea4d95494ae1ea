/-
  Row 16: the laws.
-/
import Derived.Test.YtiiacdheopdooaaObj4
namespace Go.AW
open Go Go.Proofs Go.RowKit
set_option maxHeartbeats 2000000
set_option maxRecDepth 10000
set_option linter.unusedSimpArgs false
set_option linter.unusedVariables false
attribute [local irreducible] thenQ blockQ RetQ AL AW AC AOp

mutual
def nzD : D → D
  | .s (.slice none 0 0) => .l 0 []
  | .l n xs => .l n (nzDs xs)
  | x => x
def nzDs : List D → List D
  | [] => []
  | x :: xs => nzD x :: nzDs xs
end
mutual
theorem nzD_ok {F : Nat → Prop} {w : World} : ∀ (x : D) (v : Value), DR F w x v → DR F w (nzD x) v
  | .s u, v, h => by
    unfold nzD
    split
    · rename_i e
      cases e
      simp only [DR] at h ⊢
      exact ⟨none, 0, h, Nat.le_refl _, .inl (by simp)⟩
    · rename_i e; cases e
    · exact h
  | .l n xs, v, h => by
    simp only [nzD, DR] at h ⊢
    obtain ⟨A, cap, hv, hn, ⟨rfl, h⟩ | ⟨b, off, vs, hA, hb, hF, hc, hd⟩⟩ := h
    · exact ⟨A, cap, hv, hn, .inl ⟨rfl, h⟩⟩
    · exact ⟨A, cap, hv, hn, .inr ⟨b, off, vs, hA, hb, hF, hc, nzDs_ok xs vs hd⟩⟩
theorem nzDs_ok {F : Nat → Prop} {w : World} : ∀ (xs : List D) (vs : List Value), DRs F w xs vs → DRs F w (nzDs xs) vs
  | [], vs, h => h
  | x :: xs, vs, h => by
    simp only [nzDs, DRs] at h ⊢
    obtain ⟨v, us, hv, h1, h2⟩ := h
    exact ⟨v, us, hv, nzD_ok x v h1, nzDs_ok xs us h2⟩
end
mutual
def nzV : V → V
  | .d x => .d (nzD x)
  | .a xs => .a (nzVs xs)
  | x => x
def nzVs : List V → List V
  | [] => []
  | x :: xs => nzV x :: nzVs xs
end
mutual
theorem nzV_ok {F : Nat → Prop} {σ : List Ob} {μ : List Value} {w : World} : ∀ (x : V) (v : Value), VR F σ μ w x v → VR F σ μ w (nzV x) v
  | .d x, v, h => by simp only [nzV, VR] at h ⊢; exact nzD_ok x v h
  | .a xs, v, h => by
    simp only [nzV, VR] at h ⊢
    obtain ⟨cs, hv, h⟩ := h
    exact ⟨cs, hv, nzVs_ok xs _ h⟩
  | .t _, v, h => h
  | .p _ _, v, h => h
  | .c _, v, h => h
  | .o _ _, v, h => h
  | .e _ _ _, v, h => h
  | .f _ _ _, v, h => h
  | .u, v, h => h
theorem nzVs_ok {F : Nat → Prop} {σ : List Ob} {μ : List Value} {w : World} : ∀ (xs : List V) (vs : List Value), VRs F σ μ w xs vs → VRs F σ μ w (nzVs xs) vs
  | [], vs, h => h
  | x :: xs, vs, h => by
    simp only [nzVs, VRs] at h ⊢
    obtain ⟨v, us, hv, h1, h2⟩ := h
    exact ⟨v, us, hv, nzV_ok x v h1, nzVs_ok xs us h2⟩
end
theorem AC.nzd {P : Program} {f : FuncId} {σ : List Ob} {Q : V → List Ob → Prop} (args : List V) (h : AC P f (nzVs args) σ Q) : AC P f args σ Q := by
  unfold AC at h ⊢
  exact ⟨h.1, fun F μ w vals st hv => h.2 F μ w vals st (nzVs_ok args vals hv)⟩

theorem awake16 : AC Try.prog 130 [] [] fun x σ => x = bv true ∧ σ = [] := by
  have hg : gobj ⟨[107], [⟨ck0, [], false, [118]⟩]⟩ := by
    refine ⟨?_, by simp [gnum, ck0]⟩
    have h1 : lessB [] (eclk ck0) = true := skey_first ⟨ck0, [], false, [118]⟩
    unfold Oj.check jcheck
    rw [if_neg (by decide), if_neg (by decide), if_neg (by rw [h1]; decide)]
    rfl
  have he : obje ⟨[107], [⟨ck0, [], false, [118]⟩]⟩ = ([1, 107, 1, 0, 0, 0, 0, 1, 118], 0) := by
    have h1 : vput 1 = [1] := by rw [vput_small (by decide)]; rfl
    have h0 : vput 0 = [0] := by rw [vput_small (by decide)]; rfl
    have h2 : eobj ⟨[107], [⟨ck0, [], false, [118]⟩]⟩ = (vput 1 ++ [107]) ++ (vput 1 ++ ((((vput 0 ++ []) ++ ([0] ++ [])) ++ ((vput 0 ++ []) ++ ([0] ++ (vput 1 ++ [118])))) ++ [])) := rfl
    rw [h1, h0] at h2
    unfold obje
    rw [wre_fit pens_obj hg.1 (by rw [h2]; decide), h2]; rfl
  refine AC.walk Try.func130 rfl (by decide) (of_decide_eq_true rfl) ?_
  have hc := AC.nzd [.a [.d (.s (.string ⟨#[107]⟩)), .d (.l 1 [.s (.slice none 0 0), .s (.bool false), .s (.string ⟨#[]⟩), .s (.int .u64 0), .s (.slice none 0 0), .s (.bool false), .s (.string ⟨#[118]⟩)])]] (object_Encode ⟨[107], [⟨ck0, [], false, [118]⟩]⟩ ⟨by decide, by decide, by simp [Sb.fits, Ck.fits, Vec.fits, Prs.fits, ck0]⟩)
  focus (have kxs := he; have kk1 := uN [] (hc); (repeat' (first | refine G ?_ | refine AW.ret ?_ | (refine GC ?_ ?_ <;> intro h <;> (try simp only [hsB] at h) <;> try (exfalso; first | omega | contradiction)) | (refine GL ?_ ?_ <;> intro h <;> (try simp only [Bool.not_true, Bool.not_false] at h) <;> (try simp only [h]) <;> (try simp only [hsB] at h) <;> try (exfalso; first | omega | contradiction)) | fail)); all_goals clear kxs kk1)
  all_goals first | ((all_goals first | exact RetQ.fr 0 | exact RetQ.fn 0 | fail); done) | (exfalso; simp_all; done)

theorem Oj.good_of {o : Oj} (h : o.check = 0) (hf : o.fits) : gobj o := ⟨h, fun x hx => ⟨(hf.2.2 x hx).1.1.2.2, (hf.2.2 x hx).1.2.2⟩⟩
theorem Oj.fits_of {o : Oj} (h : gobj o) : o.fits := by
  obtain ⟨h1, h2⟩ := Oj.check_parts h.1
  obtain ⟨k1, k2, k3, k4⟩ := outside_zero.1 h1
  exact ⟨by omega, by omega, fun x hx => Sb.fits_of ⟨jcheck_parts _ _ h2 x hx, (h.2 x hx).1, (h.2 x hx).2⟩⟩
theorem oj0_fits : oj0.fits := ⟨by decide, by decide, fun x hx => (List.not_mem_nil hx).elim⟩
theorem Oj.w_fits (s : List UInt8) : (objw s).1.fits := by
  by_cases h : (objw s).2 = 0
  · exact Oj.fits_of (rdw_back trip_obj h).1
  · have : (objw s).1 = oj0 := rdw_bad h
    rw [this]; exact oj0_fits
theorem Oj.fits_len {o : Oj} (h : o.fits) : ∀ x ∈ o.sibs, x.clk.ctx.length ≤ 9223372036854775807 ∧ x.meta_.length ≤ 9223372036854775807 := fun x hx => ⟨(h.2.2 x hx).1.1.1, (h.2.2 x hx).2.1.1⟩
theorem Oj.take_fits (c : Cu) : c.obj.1.fits := by
  by_cases h : c.obj.2.e = 0
  · exact Oj.fits_of (trip_obj.back c h).1
  · have : c.obj.1 = oj0 := by unfold Cu.obj at h ⊢; rw [if_pos h]
    rw [this]; exact oj0_fits

theorem objectDecodes (s : List UInt8) (hs : s.length ≤ 9223372036854775807) : AC Try.prog 32 [sv (bs s)] [] fun x σ => x = bv true ∧ σ = [] := by
  refine AC.walk Try.func32 rfl (by decide) (of_decide_eq_true rfl) ?_
  by_cases h3 : s.length ≤ 3000
  case neg =>
    focus (have kxs : 987654321 = 987654320 + 1 := rfl; have kk1 := uN [] (awake16); (repeat' (first | (refine ADr.nil ?_; try clear hgv) | refine GO ?_ | refine AW.ret ?_ | (refine GC ?_ ?_ <;> intro h <;> (try simp only [hsB] at h) <;> try (exfalso; first | omega | contradiction)) | (refine GD ?_ ?_ <;> intro h <;> (try intro hgv) <;> (try simp only [Bool.not_true, Bool.not_false] at h) <;> (try simp only [h]) <;> (try simp only [hsB] at h) <;> try (exfalso; first | omega | contradiction)) | (refine GL ?_ ?_ <;> intro h <;> (try simp only [Bool.not_true, Bool.not_false] at h) <;> (try simp only [h]) <;> (try simp only [hsB] at h) <;> try (exfalso; first | omega | contradiction)) | fail)); all_goals clear kxs kk1)
    all_goals first | (exfalso; omega) | ((all_goals first | exact RetQ.fr 0 | exact RetQ.fn 0 | fail); done)
  have hfit := Oj.w_fits s
  have hfl := Oj.fits_len hfit
  have h0 : Cu.Ok ⟨s, 0, 0⟩ := ⟨by show s.length ≤ _; omega, Nat.zero_le _⟩
  have htf := Oj.take_fits ⟨s, 0, 0⟩
  have htl := Oj.fits_len htf
  have ht2 := htf.2.1
  by_cases he : (objw s).2 = 0
  · obtain ⟨hg, hs2⟩ := rdw_back trip_obj he
    have hen : obje (objw s).1 = (s, 0) := by
      have h1 := wre_fit pens_obj hg.1 (by rw [← hs2]; omega)
      rw [← hs2] at h1
      exact h1
    have hck := hg.1
    clear hs2 hg htf
    generalize hy : Cu.obj ⟨s, 0, 0⟩ = y at *
    generalize hz : objw s = z at *
    obtain ⟨v, e⟩ := z
    obtain ⟨u, c⟩ := y
    simp only at *
    focus (have kxs := And.intro hz (And.intro hy (And.intro hen (And.intro he hck))); have kk1 := uN [] (awake16); have kk2 := uN [] (object_Decode s (by omega)); have kk3 := uN [] (ref16_Decode s (by omega)); have kk4 := uN [] (ref16_Same v v hfit.2.1 hfl); have kk5 := uN [] (cursor_New s); have kk6 := uN [2] (object_Take ⟨s, 0, 0⟩ h0); have kk7 := uN [3] (ref16_Take ⟨s, 0, 0⟩ h0); have kk8 := uN [] (ref16_Same u u ht2 htl); have kuc1 := fun za zb zc => uN [2] (cursor_Err za zb zc); have kuc2 := fun za zb zc => uN [2] (cursor_At za zb zc); have kk9 := uN [] (object_Encode v hfit); have kk10 := uN [] (ref16_Check v hfit); (repeat' (first | (refine ADr.nil ?_; try clear hgv) | refine GW ?_ | refine AW.ret ?_ | (refine GC ?_ ?_ <;> intro h <;> (try simp only [hsB] at h) <;> try (exfalso; first | omega | contradiction)) | (refine GD ?_ ?_ <;> intro h <;> (try intro hgv) <;> (try simp only [Bool.not_true, Bool.not_false] at h) <;> (try simp only [h]) <;> (try simp only [hsB] at h) <;> try (exfalso; first | omega | contradiction)) | (refine GL ?_ ?_ <;> intro h <;> (try simp only [Bool.not_true, Bool.not_false] at h) <;> (try simp only [h]) <;> (try simp only [hsB] at h) <;> try (exfalso; first | omega | contradiction)) | fail)); all_goals clear kxs kk1 kk2 kk3 kk4 kk5 kk6 kk7 kk8 kuc1 kuc2 kk9 kk10)
    all_goals first | ((all_goals first | exact RetQ.fr 0 | exact RetQ.fn 0 | fail); done) | (exfalso; simp_all; done)
  · have hb : (objw s).1 = oj0 := rdw_bad he
    clear htf
    generalize hy : Cu.obj ⟨s, 0, 0⟩ = y at *
    generalize hz : objw s = z at *
    obtain ⟨v, e⟩ := z
    obtain ⟨u, c⟩ := y
    simp only at *
    clear hb
    focus (have kxs := And.intro hz hy; have kk1 := uN [] (awake16); have kk2 := uN [] (object_Decode s (by omega)); have kk3 := uN [] (ref16_Decode s (by omega)); have kk4 := uN [] (ref16_Same v v hfit.2.1 hfl); have kk5 := uN [] (cursor_New s); have kk6 := uN [2] (object_Take ⟨s, 0, 0⟩ h0); have kk7 := uN [3] (ref16_Take ⟨s, 0, 0⟩ h0); have kk8 := uN [] (ref16_Same u u ht2 htl); have kuc1 := fun za zb zc => uN [2] (cursor_Err za zb zc); have kuc2 := fun za zb zc => uN [2] (cursor_At za zb zc); (repeat' (first | (refine ADr.nil ?_; try clear hgv) | refine GW ?_ | refine AW.ret ?_ | (refine GC ?_ ?_ <;> intro h <;> (try simp only [hsB] at h) <;> try (exfalso; first | omega | contradiction)) | (refine GD ?_ ?_ <;> intro h <;> (try intro hgv) <;> (try simp only [Bool.not_true, Bool.not_false] at h) <;> (try simp only [h]) <;> (try simp only [hsB] at h) <;> try (exfalso; first | omega | contradiction)) | (refine GL ?_ ?_ <;> intro h <;> (try simp only [Bool.not_true, Bool.not_false] at h) <;> (try simp only [h]) <;> (try simp only [hsB] at h) <;> try (exfalso; first | omega | contradiction)) | fail)); all_goals clear kxs kk1 kk2 kk3 kk4 kk5 kk6 kk7 kk8 kuc1 kuc2)
    all_goals first | ((all_goals first | exact RetQ.fr 0 | exact RetQ.fn 0 | fail); done) | (exfalso; simp_all; done)

theorem objectCuts (k : Oj) (hk : k.fits) (r : List UInt8) (hr : r.length ≤ 9223372036854775807) : AC Try.prog 30 [ojV k, sv (bs r)] [] fun x σ => x = bv true ∧ σ = [] := by
  refine AC.walk Try.func30 rfl (by decide) (of_decide_eq_true rfl) ?_
  by_cases hgr : k.great = true
  · focus (have kxs := hgr; have kk1 := uN [] (awake16); have kk2 := uN [] (ref16_Great k hk); (repeat' (first | refine G ?_ | refine AW.ret ?_ | (refine GC ?_ ?_ <;> intro h <;> (try simp only [hsB] at h) <;> try (exfalso; first | omega | contradiction)) | (refine GL ?_ ?_ <;> intro h <;> (try simp only [Bool.not_true, Bool.not_false] at h) <;> (try simp only [h]) <;> (try simp only [hsB] at h) <;> try (exfalso; first | omega | contradiction)) | fail)); all_goals clear kxs kk1 kk2)
    all_goals first | ((all_goals first | exact RetQ.fr 0 | exact RetQ.fn 0 | fail); done) | (exfalso; simp_all; done)
  have hgr : k.great = false := by simpa using hgr
  by_cases hg0 : 0 < r.length ∧ r.length ≤ 100
  case neg =>
    focus (have kxs := hgr; have kk1 := uN [] (awake16); have kk2 := uN [] (ref16_Great k hk); (repeat' (first | refine G ?_ | refine AW.ret ?_ | (refine GC ?_ ?_ <;> intro h <;> (try simp only [hsB] at h) <;> try (exfalso; first | omega | contradiction)) | (refine GL ?_ ?_ <;> intro h <;> (try simp only [Bool.not_true, Bool.not_false] at h) <;> (try simp only [h]) <;> (try simp only [hsB] at h) <;> try (exfalso; first | omega | contradiction)) | fail)); all_goals clear kxs kk1 kk2)
    all_goals first | ((all_goals first | exact RetQ.fr 0 | exact RetQ.fn 0 | fail); done) | (exfalso; omega)
  obtain ⟨hr0, hr1⟩ := hg0
  by_cases hz : (obje k).2 = 0
  case neg =>
    generalize hy : obje k = y at *
    obtain ⟨t, e⟩ := y
    simp only at hz
    focus (have kxs := And.intro hy hgr; have kk1 := uN [] (awake16); have kk2 := uN [] (ref16_Great k hk); have kk3 := uN [] (ref16_Encode k hk); (repeat' (first | refine G ?_ | refine AW.ret ?_ | (refine GC ?_ ?_ <;> intro h <;> (try simp only [hsB] at h) <;> try (exfalso; first | omega | contradiction)) | (refine GL ?_ ?_ <;> intro h <;> (try simp only [Bool.not_true, Bool.not_false] at h) <;> (try simp only [h]) <;> (try simp only [hsB] at h) <;> try (exfalso; first | omega | contradiction)) | fail)); all_goals clear kxs kk1 kk2 kk3)
    all_goals first | ((all_goals first | exact RetQ.fr 0 | exact RetQ.fn 0 | fail); done) | (exfalso; simp_all; done)
  obtain ⟨hc, h1, hl⟩ := wre_yes pens_obj hz
  have he : obje k = (eobj k, 0) := Prod.ext h1 hz
  have hg := Oj.good_of hc hk
  have htr := rdw_trail (d := oj0) trip_obj hg (r := r) (List.length_pos_iff.1 hr0)
  have hcut : ∀ i, i < (eobj k).length → objw ((eobj k).take i) = (oj0, 2) := fun i hi => rdw_cut trip_obj hg hi
  clear h1 hz
  generalize eobj k = t at *
  by_cases hl6 : t.length ≤ 6000
  case neg =>
    focus (have kxs := And.intro he hgr; have kk1 := uN [] (awake16); have kk2 := uN [] (ref16_Great k hk); have kk3 := uN [] (ref16_Encode k hk); (repeat' (first | refine G ?_ | refine AW.ret ?_ | (refine GC ?_ ?_ <;> intro h <;> (try simp only [hsB] at h) <;> try (exfalso; first | omega | contradiction)) | (refine GL ?_ ?_ <;> intro h <;> (try simp only [Bool.not_true, Bool.not_false] at h) <;> (try simp only [h]) <;> (try simp only [hsB] at h) <;> try (exfalso; first | omega | contradiction)) | fail)); all_goals clear kxs kk1 kk2 kk3)
    all_goals first | ((all_goals first | exact RetQ.fr 0 | exact RetQ.fn 0 | fail); done) | (exfalso; omega) | (exfalso; simp_all; done)
  focus (have kxs := And.intro he hgr; have kk1 := uN [] (awake16); have kk2 := uN [] (ref16_Great k hk); have kk3 := uN [] (ref16_Encode k hk); (repeat' (first | refine G ?_ | refine AW.ret ?_ | (refine GC ?_ ?_ <;> intro h <;> (try simp only [hsB] at h) <;> try (exfalso; first | omega | contradiction)) | (refine GL ?_ ?_ <;> intro h <;> (try simp only [Bool.not_true, Bool.not_false] at h) <;> (try simp only [h]) <;> (try simp only [hsB] at h) <;> try (exfalso; first | omega | contradiction)) | fail)); all_goals clear kxs kk1 kk2 kk3)
  all_goals first | (exfalso; simp_all; done) | (exfalso; omega) | skip
  refine AW.rounds [1, 4, 5, 7] (fun i : Nat => [(1, sv (bs r)), (4, bv false), (5, sv (bs t)), (7, iv .i64 i)]) (fun _ => []) (fun i => i ≤ t.length) (fun i => t.length - i) 0 (Nat.zero_le _) rfl rfl (fun _ _ => Nat.zero_le _) (fun _ _ => rfl) (fun _ _ => rfl) ?_
  intro i hi J hJ
  by_cases hil : i < t.length
  · have hci := hcut i hil
    focus (have kxs := And.intro hci @Nat.sub_zero; have kk1 := uN [] (object_Decode (t.take i) (by rw [List.length_take]; omega)); (repeat' (first | refine G ?_ | refine AW.ret ?_ | (refine GC ?_ ?_ <;> intro h <;> (try simp only [hsB] at h) <;> try (exfalso; first | omega | contradiction)) | (refine GL ?_ ?_ <;> intro h <;> (try simp only [Bool.not_true, Bool.not_false] at h) <;> (try simp only [h]) <;> (try simp only [hsB] at h) <;> try (exfalso; first | omega | contradiction)) | fail)); all_goals clear kxs kk1)
    all_goals first | (refine hJ (i + 1) _ _ (by omega) hil rfl rfl) | (exfalso; simp_all; done)
  · focus (have kxs := htr; have kk1 := uN [] (object_Decode (t ++ r) (by rw [List.length_append]; omega)); (repeat' (first | refine G ?_ | refine AW.ret ?_ | (refine GC ?_ ?_ <;> intro h <;> (try simp only [hsB] at h) <;> try (exfalso; first | omega | contradiction)) | (refine GL ?_ ?_ <;> intro h <;> (try simp only [Bool.not_true, Bool.not_false] at h) <;> (try simp only [h]) <;> (try simp only [hsB] at h) <;> try (exfalso; first | omega | contradiction)) | fail)); all_goals clear kxs kk1)
    all_goals first | ((all_goals first | exact RetQ.fr 0 | exact RetQ.fn 0 | fail); done) | (exfalso; simp_all; done)
end Go.AW
