/-
  the object of siblings: the program's.
-/
import Derived.Test.YtbjdiepceokmkaaGreatSrt1
import Derived.Test.YtbjdiepceokmkaaGreatObj2
namespace Go.AW
open Go Go.Proofs
set_option maxHeartbeats 2000000
set_option maxRecDepth 10000
set_option linter.unusedSimpArgs false
set_option linter.unusedVariables false
attribute [local irreducible] thenQ blockQ RetQ AL AW AC AOp

theorem schecks_append : ∀ (a b : List Sb), schecks a = 0 → schecks (a ++ b) = schecks b
  | [], b, _ => rfl
  | x :: a, b, h => by
    unfold schecks at h
    split at h
    · rename_i h1; exact absurd h h1
    · rename_i h1
      rw [List.cons_append]
      conv => lhs; unfold schecks
      rw [if_neg h1]
      exact schecks_append a b h
theorem schecks_at {l r : List Sb} {x : Sb} {i : Nat} (h : l.drop i = x :: r) (h0 : schecks (l.take i) = 0) (hx : x.check ≠ 0) : schecks l = x.check := by
  have e : l = l.take i ++ (x :: r) := by rw [← h, List.take_append_drop]
  rw [e, schecks_append _ _ h0]
  unfold schecks
  rw [if_pos hx]
theorem schecks_step {l r : List Sb} {x : Sb} {i : Nat} (h : l.drop i = x :: r) (h0 : schecks (l.take i) = 0) (hx : x.check = 0) : schecks (l.take (i + 1)) = 0 := by
  rw [next_take h, schecks_append _ _ h0]
  unfold schecks
  rw [if_neg (by simpa using hx)]; rfl
theorem Sb.small {x : Sb} (h : x.check = 0) : x.clk.ctx.length ≤ 64 ∧ x.meta_.length ≤ 8 := by
  obtain ⟨h1, h2, h3⟩ := Sb.check_parts h
  exact ⟨(Vec.check_len (Ck.check_parts h1).1).1, (Prs.check_len h2).1⟩

theorem object_Sort (key : List UInt8) (l : List Sb) (hk : key.length ≤ 9223372036854775807) (hl : l.length ≤ 9223372036854775807) (hf : ∀ x ∈ l, x.fits) :
    AC Tryz.prog 28 [sv (bs key), .d (.l l.length (sbsD l))] [] fun x σ => x = .t [ojV (osort key l).1, iv .i64 (osort key l).2] ∧ σ = [] := by
  refine AC.walk Tryz.func28 rfl (by decide) (of_decide_eq_true rfl) ?_
  by_cases hout : outside key l.length = 0
  case neg =>
    rw [osort_out hout]
    focus (have kxs : 987654321 = 987654320 + 1 := rfl; have kk1 := uN [] (object_outside key l.length hk hl); (repeat' (first | (refine ADr.nil ?_; try clear hgv) | refine GO ?_ | refine AW.ret ?_ | (refine GC ?_ ?_ <;> intro h <;> (try simp only [hsB] at h) <;> try (exfalso; first | omega | contradiction)) | (refine GD ?_ ?_ <;> intro h <;> (try intro hgv) <;> (try simp only [Bool.not_true, Bool.not_false] at h) <;> (try simp only [h]) <;> (try simp only [hsB] at h) <;> try (exfalso; first | omega | contradiction)) | (refine GL ?_ ?_ <;> intro h <;> (try simp only [Bool.not_true, Bool.not_false] at h) <;> (try simp only [h]) <;> (try simp only [hsB] at h) <;> try (exfalso; first | omega | contradiction)) | fail)); all_goals clear kxs kk1)
    all_goals first | (((all_goals first | refine RetQ.r 0 rfl (Nat.le_of_ble_eq_true rfl) rfl (by first | rfl | (simp only [go_sem, ↓reduceIte, Nat.reduceLT, Nat.lt_irrefl])) ⟨?_, ?_⟩ | refine RetQ.n 0 rfl (Nat.le_of_ble_eq_true rfl) rfl (by first | rfl | (simp only [go_sem, ↓reduceIte, Nat.reduceLT, Nat.lt_irrefl])) ⟨?_, ?_⟩); (all_goals first | rfl | (simp [oj0, *]; done) | ((simp only [go_sem, ↓reduceIte, Nat.reduceLT, oj0]; (repeat' split)) <;> first | rfl | (exfalso; omega) | (simp_all; done) | (simp_all; omega)))); done) | (exfalso; simp_all; done)
  obtain ⟨k1, k2, k3, k4⟩ := outside_zero.1 hout
  focus (have kxs := hout; have kk1 := uN [] (object_outside key l.length hk hl); (repeat' (first | (refine ADr.nil ?_; try clear hgv) | refine GO ?_ | refine AW.ret ?_ | (refine GC ?_ ?_ <;> intro h <;> (try simp only [hsB] at h) <;> try (exfalso; first | omega | contradiction)) | (refine GD ?_ ?_ <;> intro h <;> (try intro hgv) <;> (try simp only [Bool.not_true, Bool.not_false] at h) <;> (try simp only [h]) <;> (try simp only [hsB] at h) <;> try (exfalso; first | omega | contradiction)) | (refine GL ?_ ?_ <;> intro h <;> (try simp only [Bool.not_true, Bool.not_false] at h) <;> (try simp only [h]) <;> (try simp only [hsB] at h) <;> try (exfalso; first | omega | contradiction)) | fail)); all_goals clear kxs kk1)
  all_goals first | (exfalso; simp_all; done) | skip
  refine AW.birth 57 7 [] [(1, 1)] ?_
  refine AW.rounds [4, 5, 7, 22, 23, 24] (fun i : Nat => [(4, .p 0 0), (5, iv .i64 0), (7, .p 1 0), (22, .d (.l l.length (sbsD l))), (23, iv .i64 l.length), (24, iv .i64 i)])
    (fun i => [.box 25 [sv (bs []), .d (.s (.slice none 0 0))], .box 25 [sv (bs key), .o 2 i], .row 57 7 i (sbsD (l.take i))])
    (fun i => i ≤ l.length ∧ schecks (l.take i) = 0) (fun i => l.length - i) 0 ⟨Nat.zero_le _, rfl⟩ rfl rfl (fun _ _ => Nat.zero_le _) (fun _ _ => rfl) (fun _ _ => rfl) ?_
  rintro i ⟨hi, hs⟩ J hJ
  by_cases hil : i < l.length
  · obtain ⟨x, r, hd⟩ := next_at hil
    have hcd := sbs_drop hd
    have hfx := hf x (next_mem hd)
    by_cases hxc : x.check = 0
    case neg =>
      have hsc := schecks_at hd hs hxc
      rw [osort_check hout (by rw [hsc]; exact hxc), hsc]
      focus (have kxs := hcd; have kk1 := uN [] (sibling_Check x hfx); (repeat' (first | (refine ADr.nil ?_; try clear hgv) | refine GO ?_ | refine AW.ret ?_ | (refine GC ?_ ?_ <;> intro h <;> (try simp only [hsB] at h) <;> try (exfalso; first | omega | contradiction)) | (refine GD ?_ ?_ <;> intro h <;> (try intro hgv) <;> (try simp only [Bool.not_true, Bool.not_false] at h) <;> (try simp only [h]) <;> (try simp only [hsB] at h) <;> try (exfalso; first | omega | contradiction)) | (refine GL ?_ ?_ <;> intro h <;> (try simp only [Bool.not_true, Bool.not_false] at h) <;> (try simp only [h]) <;> (try simp only [hsB] at h) <;> try (exfalso; first | omega | contradiction)) | fail)); all_goals clear kxs kk1)
      all_goals first | (((all_goals first | refine RetQ.r 0 rfl (Nat.le_of_ble_eq_true rfl) rfl (by first | rfl | (simp only [go_sem, ↓reduceIte, Nat.reduceLT, Nat.lt_irrefl])) ⟨?_, ?_⟩ | refine RetQ.n 0 rfl (Nat.le_of_ble_eq_true rfl) rfl (by first | rfl | (simp only [go_sem, ↓reduceIte, Nat.reduceLT, Nat.lt_irrefl])) ⟨?_, ?_⟩); (all_goals first | rfl | (simp [oj0, *]; done) | ((simp only [go_sem, ↓reduceIte, Nat.reduceLT, oj0]; (repeat' split)) <;> first | rfl | (exfalso; omega) | (simp_all; done) | (simp_all; omega)))); done) | (exfalso; simp_all; done)
    have hst := schecks_step hd hs hxc
    obtain ⟨hm1, hm2⟩ := Sb.small hxc
    have hsn := sbs_snoc (l.take i) x
    rw [← next_take hd] at hsn
    have hon : onesD [D.l x.clk.ctx.length (vecD x.clk.ctx), .s (.bool x.clk.dotted), .s (.string ⟨x.clk.dot.1.toArray⟩), .s (.int .u64 x.clk.dot.2), .l x.meta_.length (prsD x.meta_), .s (.bool x.dead), .s (.string ⟨x.val.toArray⟩)] = true := rfl
    focus (have kxs := And.intro hcd (And.intro hxc hon); have kk1 := uN [] (sibling_Check x hfx); have kk2 := uN [] (sibling_Copy x (by omega) (by omega)); (repeat' (first | (refine ADr.nil ?_; try clear hgv) | refine GW ?_ | refine AW.ret ?_ | (refine GC ?_ ?_ <;> intro h <;> (try simp only [hsB] at h) <;> try (exfalso; first | omega | contradiction)) | (refine GD ?_ ?_ <;> intro h <;> (try intro hgv) <;> (try simp only [Bool.not_true, Bool.not_false] at h) <;> (try simp only [h]) <;> (try simp only [hsB] at h) <;> try (exfalso; first | omega | contradiction)) | (refine GL ?_ ?_ <;> intro h <;> (try simp only [Bool.not_true, Bool.not_false] at h) <;> (try simp only [h]) <;> (try simp only [hsB] at h) <;> try (exfalso; first | omega | contradiction)) | fail)); all_goals clear kxs kk1 kk2)
    all_goals first | (refine hJ (i + 1) _ _ (by omega) ⟨hil, hst⟩ rfl ?_; rw [← hsn]; rfl) | (exfalso; simp_all; done)
  · have hi2 : i = l.length := by omega
    rw [hi2, List.take_length] at hs ⊢
    have hz := schecks_zero.1 hs
    have hlen := isort_len slt l
    have hfit : Oj.fits ⟨key, isort slt l⟩ := ⟨hk, by simp only [hlen]; omega, fun x hx => hf x ((mem_isort slt).1 hx)⟩
    have hsort := sort_Sb l k3 74 (fun x hx y hy => object_less x y (hf x hx) (hf y hy) (hz x hx) (hz y hy))
    have hchk := object_Check ⟨key, isort slt l⟩ hfit
    simp only [ojV, hlen] at hchk
    by_cases h4 : Oj.check ⟨key, isort slt l⟩ = 0
    · rw [osort_whole hout hs, if_neg (by simpa using h4)]
      focus (have kxs := h4; have kk1 := uN [2] (hsort); have kk2 := uL (hchk); (repeat' (first | (refine ADr.nil ?_; try clear hgv) | refine GO ?_ | refine AW.ret ?_ | (refine GC ?_ ?_ <;> intro h <;> (try simp only [hsB] at h) <;> try (exfalso; first | omega | contradiction)) | (refine GD ?_ ?_ <;> intro h <;> (try intro hgv) <;> (try simp only [Bool.not_true, Bool.not_false] at h) <;> (try simp only [h]) <;> (try simp only [hsB] at h) <;> try (exfalso; first | omega | contradiction)) | (refine GL ?_ ?_ <;> intro h <;> (try simp only [Bool.not_true, Bool.not_false] at h) <;> (try simp only [h]) <;> (try simp only [hsB] at h) <;> try (exfalso; first | omega | contradiction)) | fail)); all_goals clear kxs kk1 kk2)
      all_goals first | (((all_goals first | refine RetQ.r 0 (xs := [.a [sv (bs key), .o 2 l.length], iv .i64 0]) rfl (Nat.le_of_ble_eq_true rfl) rfl (by first | rfl | (simp only [go_sem, ↓reduceIte, Nat.reduceLT, Nat.lt_irrefl])) ⟨?_, ?_⟩ | refine RetQ.n 0 (xs := [.a [sv (bs key), .o 2 l.length], iv .i64 0]) rfl (Nat.le_of_ble_eq_true rfl) rfl (by first | rfl | (simp only [go_sem, ↓reduceIte, Nat.reduceLT, Nat.lt_irrefl])) ⟨?_, ?_⟩); (all_goals first | rfl | (simp [*]; done) | ((simp only [go_sem, ↓reduceIte, Nat.reduceLT]; (repeat' split)) <;> first | rfl | (exfalso; omega) | (simp_all; done) | (simp_all; omega)))); done) | (exfalso; simp_all; done)
    · rw [osort_whole hout hs, if_pos h4]
      focus (have kxs : 987654321 = 987654320 + 1 := rfl; have kk1 := uN [2] (hsort); have kk2 := uL (hchk); (repeat' (first | (refine ADr.nil ?_; try clear hgv) | refine GO ?_ | refine AW.ret ?_ | (refine GC ?_ ?_ <;> intro h <;> (try simp only [hsB] at h) <;> try (exfalso; first | omega | contradiction)) | (refine GD ?_ ?_ <;> intro h <;> (try intro hgv) <;> (try simp only [Bool.not_true, Bool.not_false] at h) <;> (try simp only [h]) <;> (try simp only [hsB] at h) <;> try (exfalso; first | omega | contradiction)) | (refine GL ?_ ?_ <;> intro h <;> (try simp only [Bool.not_true, Bool.not_false] at h) <;> (try simp only [h]) <;> (try simp only [hsB] at h) <;> try (exfalso; first | omega | contradiction)) | fail)); all_goals clear kxs kk1 kk2)
      all_goals first | (((all_goals first | refine RetQ.r 0 rfl (Nat.le_of_ble_eq_true rfl) rfl (by first | rfl | (simp only [go_sem, ↓reduceIte, Nat.reduceLT, Nat.lt_irrefl])) ⟨?_, ?_⟩ | refine RetQ.n 0 rfl (Nat.le_of_ble_eq_true rfl) rfl (by first | rfl | (simp only [go_sem, ↓reduceIte, Nat.reduceLT, Nat.lt_irrefl])) ⟨?_, ?_⟩); (all_goals first | rfl | (simp [oj0, *]; done) | ((simp only [go_sem, ↓reduceIte, Nat.reduceLT, oj0]; (repeat' split)) <;> first | rfl | (exfalso; omega) | (simp_all; done) | (simp_all; omega)))); done) | (exfalso; simp_all; done)
end Go.AW
