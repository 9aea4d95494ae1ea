/-
  a message's parts: a whole message is written.
-/
import Derived.Test.YtbedecfkincemaaGreatZ08
import Derived.Test.YtbedecfkincemaaGreatZ07
import Derived.Test.YtbedecfkincemaaGreatZ05
import Derived.Test.YtbedecfkincemaaGreatZ03
import Derived.Test.YtbedecfkincemaaGreatZ04
import Derived.Laws.Externs
import Derived.Lib.Bytealg
import Derived.Test.YtbedecfkincemaaGreatZ06
namespace Go.AW
open Go Go.Proofs
set_option maxHeartbeats 4000000
set_option maxRecDepth 10000
set_option linter.unusedSimpArgs false
set_option linter.unusedVariables false
attribute [local irreducible] thenQ blockQ RetQ AL AW AC AOp

theorem encode_none (v : Nat) (m : Mg) (hv : v < 256) (hk : m.kind < 256) (h : has v m.kind = false) : AC Tryz.prog 19 [iv .u8 (v : Nat), mgV m] [] fun y σ => y = .t [sv (bs (msge v m).1), iv .i64 (msge v m).2] ∧ σ = [] := by
  refine AC.walk Tryz.func19 rfl (by decide) (of_decide_eq_true rfl) ?_
  have hw := check_none v m hv hk h
  have hr : m.check v = if v ≠ 1 ∧ v ≠ 2 then 10 else 11 := by unfold Mg.check; rw [if_pos h]
  have hr0 : m.check v ≠ 0 := by rw [hr]; split <;> decide
  rw [show msge v m = ([], m.check v) by unfold msge; rw [if_pos hr0]]
  generalize m.check v = r at *
  focus (have kxs : 987654321 = 987654320 + 1 := rfl; have kk1 := uN [] (hw); (repeat' (first | refine G ?_ | refine AW.ret ?_ | (refine GC ?_ ?_ <;> intro h <;> (try simp only [hsB] at h) <;> try (exfalso; first | omega | contradiction)) | (refine GL ?_ ?_ <;> intro h <;> (try simp only [Bool.not_true, Bool.not_false] at h) <;> (try simp only [h]) <;> (try simp only [hsB] at h) <;> try (exfalso; first | omega | contradiction)) | fail)); all_goals clear kxs kk1)
  all_goals first | ((all_goals first | exact RetQ.fr 0 | exact RetQ.fn 0 | fail); done) | (exfalso; omega) | (exfalso; simp_all; done)
theorem encode_21 (m : Mg) (hf : m.fits) (hk : m.kind = 1) : AC Tryz.prog 19 [iv .u8 2, mgV m] [] fun y σ => y = .t [sv (bs (msge 2 m).1), iv .i64 (msge 2 m).2] ∧ σ = [] := by
  refine AC.walk Tryz.func19 rfl (by decide) (of_decide_eq_true rfl) ?_
  obtain ⟨knd, id, key, fnd, obj, old, ctx, mt, dd, vl, px, pg, rg, cd, tx⟩ := m
  simp only at hk
  subst hk
  have hck := check_21 ⟨1, id, key, fnd, obj, old, ctx, mt, dd, vl, px, pg, rg, cd, tx⟩ hf rfl
  obtain ⟨r, hr⟩ : ∃ r, r = Mg.check 2 ⟨1, id, key, fnd, obj, old, ctx, mt, dd, vl, px, pg, rg, cd, tx⟩ := ⟨_, rfl⟩
  rw [← hr] at hck
  by_cases hc : r = 0
  case neg =>
    rw [show msge 2 ⟨1, id, key, fnd, obj, old, ctx, mt, dd, vl, px, pg, rg, cd, tx⟩ = ([], r) by unfold msge; rw [← hr, if_pos hc]]
    focus (have kxs : 987654321 = 987654320 + 1 := rfl; have kk1 := uN [] (hck); (repeat' (first | refine G ?_ | refine AW.ret ?_ | (refine GC ?_ ?_ <;> intro h <;> (try simp only [hsB] at h) <;> try (exfalso; first | omega | contradiction)) | (refine GL ?_ ?_ <;> intro h <;> (try simp only [Bool.not_true, Bool.not_false] at h) <;> (try simp only [h]) <;> (try simp only [hsB] at h) <;> try (exfalso; first | omega | contradiction)) | fail)); all_goals clear kxs kk1)
    all_goals first | ((all_goals first | exact RetQ.fr 0 | exact RetQ.fn 0 | fail); done) | (exfalso; omega) | (exfalso; simp_all; done)
  subst hc
  have hx : (keychk key) = 0 := hr.symm
  have hid : id < 18446744073709551616 := hf.2.1
  have hvl := vput_len10 hid
  have hfin : msge 2 ⟨1, id, key, fnd, obj, old, ctx, mt, dd, vl, px, pg, rg, cd, tx⟩ = Pe.fin (Pe.blob (Pe.text ⟨[], 65536, 0⟩ (vput id)) 128 key) := by unfold msge; rw [← hr, if_neg (by decide)]; rfl
  rw [hfin]
  clear hfin
  have hp := parts_21
  have hnew := @pen_New 65536 (by decide)
  rw [if_neg (by decide)] at hnew
  have hv := varint_Put1 [] 65536 0 (pk_ok (by decide)) id hid (.inl (by decide))
  have e0 : Pe.text ⟨[], 65536, 0⟩ (vput id) = ⟨vput id, 65536, 0⟩ := by rw [pk_text (by simp only [List.length_nil]; omega), List.nil_append]
  rw [e0] at hv ⊢
  generalize vput id = b0 at *
  have k0 : Pe.Ok ⟨b0, 65536, 0⟩ := pk_ok (by omega)
  have h0 := put_Key ⟨1, id, key, fnd, obj, old, ctx, mt, dd, vl, px, pg, rg, cd, tx⟩ hf b0 0 k0
  have m1 : (Pe.blob ⟨b0, 65536, 0⟩ 128 key).m = 65536 := (pens_blob 128).m _ _
  have k1 : Pe.Ok (Pe.blob ⟨b0, 65536, 0⟩ 128 key) := (pens_blob 128).keep k0 (.inl (by show (65536 : Int) ≤ _; decide))
  simp only at h0
  generalize (Pe.blob ⟨b0, 65536, 0⟩ 128 key) = R at *
  obtain ⟨b1, mm1, e1⟩ := R
  simp only at m1
  subst m1
  have hen := pen_End b1 65536 e1 k1
  focus (have kxs : 987654321 = 987654320 + 1 := rfl; have kk1 := uN [] (hck); have kk2 := uN [] (hp); have kk3 := uN [] (hnew); have kk4 := uN [12, 13] (hv); (repeat' (first | refine G ?_ | refine AW.ret ?_ | (refine GC ?_ ?_ <;> intro h <;> (try simp only [hsB] at h) <;> try (exfalso; first | omega | contradiction)) | (refine GL ?_ ?_ <;> intro h <;> (try simp only [Bool.not_true, Bool.not_false] at h) <;> (try simp only [h]) <;> (try simp only [hsB] at h) <;> try (exfalso; first | omega | contradiction)) | fail)); all_goals clear kxs kk1 kk2 kk3 kk4)
  all_goals first | (exfalso; omega) | (exfalso; simp_all; done) | skip
  refine AW.rounds [3, 4, 5, 9, 31, 32, 33] (fun i : Nat => [(3, .p 0 0), (4, sv (bs [])), (5, iv .i64 0), (9, .p 12 0), (31, .b 11 0 1), (32, iv .i64 1), (33, iv .i64 (i : Nat))]) (fun i => [.box 38 (mgC ⟨1, id, key, fnd, obj, old, ctx, mt, dd, vl, px, pg, rg, cd, tx⟩), .box 3 [iv .i64 128], .box 4 [bv true], .box 231 [.f (.func 150) [] []], .box 111 [.f (.func 214) [] [.p 2 0, .p 3 0, .p 1 0], .f (.func 216) [] [.p 1 0, .p 3 0], .f (.func 218) [] [.p 1 0, .p 3 0, .p 2 0], .f (.func 220) [] [.p 3 0]], .box 234 [.f (.func 152) [] []], .box 111 [.f (.func 221) [] [], .f (.func 222) [] [.p 5 0], .f (.func 224) [] [.p 5 0], .f (.func 225) [] [.p 5 0]], .box 3 [iv .i64 64], .box 4 [bv false], .box 231 [.f (.func 153) [] []], .box 111 [.f (.func 214) [] [.p 8 0, .p 9 0, .p 7 0], .f (.func 216) [] [.p 7 0, .p 9 0], .f (.func 218) [] [.p 7 0, .p 9 0, .p 8 0], .f (.func 220) [] [.p 9 0]], .box 111 [.f (.func 214) [] [.p 2 0, .p 3 0, .p 1 0], .f (.func 216) [] [.p 1 0, .p 3 0], .f (.func 218) [] [.p 1 0, .p 3 0, .p 2 0], .f (.func 220) [] [.p 3 0]], .box 238 [.o 13 (match i with | 0 => b0 | _ => b1).length, iv .i64 65536, iv .i64 (match i with | 0 => 0 | _ => e1)], .row 5 1 (match i with | 0 => b0 | _ => b1).length (bsD (match i with | 0 => b0 | _ => b1))])
    (fun i => i ≤ 1) (fun i => 1 - i) 0 (Nat.zero_le _) rfl rfl (fun _ _ => Nat.zero_le _) (fun i _ => rfl) (fun _ _ => rfl) ?_
  rintro i hi J hJ
  have hc : i = 0 ∨ i = 1 := by omega
  rcases hc with rfl | rfl
  · clear hck hp hnew hv
    focus (have kxs : 987654321 = 987654320 + 1 := rfl; have kk1 := uN [12, 13, 1, 3] (h0); (repeat' (first | refine G ?_ | refine AW.ret ?_ | (refine GC ?_ ?_ <;> intro h <;> (try simp only [hsB] at h) <;> try (exfalso; first | omega | contradiction)) | (refine GL ?_ ?_ <;> intro h <;> (try simp only [Bool.not_true, Bool.not_false] at h) <;> (try simp only [h]) <;> (try simp only [hsB] at h) <;> try (exfalso; first | omega | contradiction)) | fail)); all_goals clear kxs kk1)
    all_goals first | (refine hJ 1 _ _ (by decide) (by decide) rfl rfl; done) | (exfalso; omega) | (exfalso; simp_all; done)
  · clear hck hp hnew hv
    focus (have kxs : 987654321 = 987654320 + 1 := rfl; have kk1 := uN [12, 13] (hen); (repeat' (first | refine G ?_ | refine AW.ret ?_ | (refine GC ?_ ?_ <;> intro h <;> (try simp only [hsB] at h) <;> try (exfalso; first | omega | contradiction)) | (refine GL ?_ ?_ <;> intro h <;> (try simp only [Bool.not_true, Bool.not_false] at h) <;> (try simp only [h]) <;> (try simp only [hsB] at h) <;> try (exfalso; first | omega | contradiction)) | fail)); all_goals clear kxs kk1)
    all_goals first | ((all_goals first | exact RetQ.fr 0 | exact RetQ.fn 0 | fail); done) | (exfalso; omega) | (exfalso; simp_all; done)
end Go.AW
/-
  messages, the document's: its check, its payload.
-/
namespace Go.AW
open Go Go.Proofs
set_option maxHeartbeats 4000000
set_option maxRecDepth 10000
set_option linter.unusedSimpArgs false
set_option linter.unusedVariables false
attribute [local irreducible] thenQ blockQ RetQ AL AW AC AOp

theorem ref23_Has (v k : Nat) (hv : v < 256) (hk : k < 256) : AC Tryz.prog 30 [iv .u8 (v : Nat), iv .u8 (k : Nat)] [] fun y σ => y = bv (has v k) ∧ σ = [] := by
  refine AC.walk Tryz.func30 rfl (by decide) (of_decide_eq_true rfl) ?_
  obtain ⟨r, hr⟩ : ∃ r, r = has v k := ⟨_, rfl⟩
  rw [← hr]
  unfold has at hr
  by_cases h1 : v = 1
  · rw [if_pos h1] at hr
    by_cases h2 : k = 1 ∨ k = 2 ∨ k = 8
    · rw [decide_eq_true h2] at hr
      subst hr
      rcases h2 with rfl | rfl | rfl <;>
      (focus (have kxs : 987654321 = 987654320 + 1 := rfl; (repeat' (first | refine G ?_ | refine AW.ret ?_ | (refine GC ?_ ?_ <;> intro h <;> (try simp only [hsB] at h) <;> try (exfalso; first | omega | contradiction)) | (refine GL ?_ ?_ <;> intro h <;> (try simp only [Bool.not_true, Bool.not_false] at h) <;> (try simp only [h]) <;> (try simp only [hsB] at h) <;> try (exfalso; first | omega | contradiction)) | fail)); all_goals clear kxs))
      all_goals first | ((all_goals first | exact RetQ.fr 0 | exact RetQ.fn 0 | fail); done) | (exfalso; omega) | (exfalso; simp_all; done)
    · rw [decide_eq_false h2] at hr
      subst hr
      focus (have kxs : 987654321 = 987654320 + 1 := rfl; (repeat' (first | refine G ?_ | refine AW.ret ?_ | (refine GC ?_ ?_ <;> intro h <;> (try simp only [hsB] at h) <;> try (exfalso; first | omega | contradiction)) | (refine GL ?_ ?_ <;> intro h <;> (try simp only [Bool.not_true, Bool.not_false] at h) <;> (try simp only [h]) <;> (try simp only [hsB] at h) <;> try (exfalso; first | omega | contradiction)) | fail)); all_goals clear kxs)
      all_goals first | ((all_goals first | exact RetQ.fr 0 | exact RetQ.fn 0 | fail); done) | (exfalso; omega) | (exfalso; simp_all; done)
  · rw [if_neg h1] at hr
    by_cases h2 : v = 2 ∧ 1 ≤ k ∧ k ≤ 9
    · rw [decide_eq_true h2] at hr
      subst hr
      obtain ⟨h3, h4, h5⟩ := h2
      focus (have kxs : 987654321 = 987654320 + 1 := rfl; (repeat' (first | refine G ?_ | refine AW.ret ?_ | (refine GC ?_ ?_ <;> intro h <;> (try simp only [hsB] at h) <;> try (exfalso; first | omega | contradiction)) | (refine GL ?_ ?_ <;> intro h <;> (try simp only [Bool.not_true, Bool.not_false] at h) <;> (try simp only [h]) <;> (try simp only [hsB] at h) <;> try (exfalso; first | omega | contradiction)) | fail)); all_goals clear kxs)
      all_goals first | ((all_goals first | exact RetQ.fr 0 | exact RetQ.fn 0 | fail); done) | (exfalso; omega) | (exfalso; simp_all; done)
    · rw [decide_eq_false h2] at hr
      subst hr
      focus (have kxs : 987654321 = 987654320 + 1 := rfl; (repeat' (first | refine G ?_ | refine AW.ret ?_ | (refine GC ?_ ?_ <;> intro h <;> (try simp only [hsB] at h) <;> try (exfalso; first | omega | contradiction)) | (refine GL ?_ ?_ <;> intro h <;> (try simp only [Bool.not_true, Bool.not_false] at h) <;> (try simp only [h]) <;> (try simp only [hsB] at h) <;> try (exfalso; first | omega | contradiction)) | fail)); all_goals clear kxs)
      all_goals first | ((all_goals first | exact RetQ.fr 0 | exact RetQ.fn 0 | fail); done) | (exfalso; omega) | (exfalso; simp_all; done)
end Go.AW
/-
  pages that are read: the document's.
-/
namespace Go.AW
open Go Go.Proofs
set_option maxHeartbeats 4000000
set_option maxRecDepth 10000
set_option linter.unusedSimpArgs false
set_option linter.unusedVariables false
attribute [local irreducible] thenQ blockQ RetQ AL AW AC AOp

end Go.AW
/-
  members that are read: the document's.
-/
namespace Go.AW
open Go Go.Proofs
set_option maxHeartbeats 4000000
set_option maxRecDepth 10000
set_option linter.unusedSimpArgs false
set_option linter.unusedVariables false
attribute [local irreducible] thenQ blockQ RetQ AL AW AC AOp

end Go.AW
/-
  members and rings that are read: the document's.
-/
namespace Go.AW
open Go Go.Proofs
set_option maxHeartbeats 4000000
set_option maxRecDepth 10000
set_option linter.unusedSimpArgs false
set_option linter.unusedVariables false
attribute [local irreducible] thenQ blockQ RetQ AL AW AC AOp

end Go.AW
/-
  rings that are read: the document's; whole texts.
-/
namespace Go.AW
open Go Go.Proofs
set_option maxHeartbeats 2000000
set_option maxRecDepth 10000
set_option linter.unusedSimpArgs false
set_option linter.unusedVariables false
attribute [local irreducible] thenQ blockQ RetQ AL AW AC AOp

/-- The name ahead is a row's last one. -/
def Lastn (out : Ring) (p : List UInt8) : Prop := p.length ≤ 32 ∧ (0 < out.length → (ringD out).drop ((out.length - 1) * 4) = D.s (.string ⟨p.toArray⟩) :: (ringD out).drop ((out.length - 1) * 4 + 1))
end Go.AW
/-
  old objects that are read: the document's.
-/
namespace Go.AW
open Go Go.Proofs
set_option maxHeartbeats 2000000
set_option maxRecDepth 10000
set_option linter.unusedSimpArgs false
set_option linter.unusedVariables false
attribute [local irreducible] thenQ blockQ RetQ AL AW AC AOp

end Go.AW
/-
  messages, the document's: what it is read as.
-/
namespace Go.AW
open Go Go.Proofs
set_option maxHeartbeats 4000000
set_option maxRecDepth 10000
set_option linter.unusedSimpArgs false
set_option linter.unusedVariables false
attribute [local irreducible] thenQ blockQ RetQ AL AW AC AOp

end Go.AW
/-
  messages, the document's: what it is read as (puts).
-/
namespace Go.AW
open Go Go.Proofs
set_option maxHeartbeats 4000000
set_option maxRecDepth 10000
set_option linter.unusedSimpArgs false
set_option linter.unusedVariables false
attribute [local irreducible] thenQ blockQ RetQ AL AW AC AOp

end Go.AW
/-
  messages, the document's: what it is read as (others).
-/
namespace Go.AW
open Go Go.Proofs
set_option maxHeartbeats 4000000
set_option maxRecDepth 10000
set_option linter.unusedSimpArgs false
set_option linter.unusedVariables false
attribute [local irreducible] thenQ blockQ RetQ AL AW AC AOp

end Go.AW
/-
  pages that are the same; great ones.
-/
namespace Go.AW
open Go Go.Proofs
set_option maxHeartbeats 4000000
set_option maxRecDepth 10000
set_option linter.unusedSimpArgs false
set_option linter.unusedVariables false
attribute [local irreducible] thenQ blockQ RetQ AL AW AC AOp

theorem sls_eq {x y : Sl} (h1 : x.1 = y.1) (h2 : x.2 = y.2) : x = y := Prod.ext h1 h2
theorem ref20_Same (a b : Pg) (ha : a.slots.length ≤ 9223372036854775807) (hb : a.items.length ≤ 9223372036854775807) : AC Tryz.prog 70 [pgV a, pgV b] [] fun y σ => y = bv (decide (a = b)) ∧ σ = [] := by
  refine AC.walk Tryz.func70 rfl (by decide) (of_decide_eq_true rfl) ?_
  obtain ⟨pre, leaf, slots, items⟩ := a
  obtain ⟨pre', leaf', slots', items'⟩ := b
  simp only at ha hb ⊢
  have no : ∀ h : ¬ (pre = pre' ∧ leaf = leaf' ∧ slots = slots' ∧ items = items'), decide ((⟨pre, leaf, slots, items⟩ : Pg) = ⟨pre', leaf', slots', items'⟩) = false := fun h => by
    apply decide_eq_false
    intro e
    injection e with e1 e2 e3 e4
    exact h ⟨e1, e2, e3, e4⟩
  by_cases h1 : pre = pre'
  case neg =>
    rw [no (fun h => h1 h.1)]
    focus (have kxs : 987654321 = 987654320 + 1 := rfl; (repeat' (first | (refine ADr.nil ?_; try clear hgv) | refine GO ?_ | refine AW.ret ?_ | (refine GC ?_ ?_ <;> intro h <;> (try simp only [hsB] at h) <;> try (exfalso; first | omega | contradiction)) | (refine GD ?_ ?_ <;> intro h <;> (try intro hgv) <;> (try simp only [Bool.not_true, Bool.not_false] at h) <;> (try simp only [h]) <;> (try simp only [hsB] at h) <;> try (exfalso; first | omega | contradiction)) | (refine GL ?_ ?_ <;> intro h <;> (try simp only [Bool.not_true, Bool.not_false] at h) <;> (try simp only [h]) <;> (try simp only [hsB] at h) <;> try (exfalso; first | omega | contradiction)) | fail)); all_goals clear kxs)
    all_goals first | ((all_goals first | exact RetQ.fr 0 | exact RetQ.fn 0 | fail); done) | (exfalso; omega) | (exfalso; simp_all; done)
  subst h1
  by_cases h2 : leaf = leaf'
  case neg =>
    rw [no (fun h => h2 h.2.1)]
    have h2' : leaf' = !leaf := by cases leaf <;> cases leaf' <;> simp_all
    subst h2'
    cases leaf <;>
    (focus (have kxs : 987654321 = 987654320 + 1 := rfl; (repeat' (first | (refine ADr.nil ?_; try clear hgv) | refine GO ?_ | refine AW.ret ?_ | (refine GC ?_ ?_ <;> intro h <;> (try simp only [hsB] at h) <;> try (exfalso; first | omega | contradiction)) | (refine GD ?_ ?_ <;> intro h <;> (try intro hgv) <;> (try simp only [Bool.not_true, Bool.not_false] at h) <;> (try simp only [h]) <;> (try simp only [hsB] at h) <;> try (exfalso; first | omega | contradiction)) | (refine GL ?_ ?_ <;> intro h <;> (try simp only [Bool.not_true, Bool.not_false] at h) <;> (try simp only [h]) <;> (try simp only [hsB] at h) <;> try (exfalso; first | omega | contradiction)) | fail)); all_goals clear kxs))
    all_goals first | ((all_goals first | exact RetQ.fr 0 | exact RetQ.fn 0 | fail); done) | (exfalso; omega) | (exfalso; simp_all; done)
  subst h2
  by_cases h3 : slots.length = slots'.length
  case neg =>
    rw [no (fun h => h3 (by rw [h.2.2.1]))]
    cases leaf <;>
    (focus (have kxs : 987654321 = 987654320 + 1 := rfl; (repeat' (first | (refine ADr.nil ?_; try clear hgv) | refine GO ?_ | refine AW.ret ?_ | (refine GC ?_ ?_ <;> intro h <;> (try simp only [hsB] at h) <;> try (exfalso; first | omega | contradiction)) | (refine GD ?_ ?_ <;> intro h <;> (try intro hgv) <;> (try simp only [Bool.not_true, Bool.not_false] at h) <;> (try simp only [h]) <;> (try simp only [hsB] at h) <;> try (exfalso; first | omega | contradiction)) | (refine GL ?_ ?_ <;> intro h <;> (try simp only [Bool.not_true, Bool.not_false] at h) <;> (try simp only [h]) <;> (try simp only [hsB] at h) <;> try (exfalso; first | omega | contradiction)) | fail)); all_goals clear kxs))
    all_goals first | ((all_goals first | exact RetQ.fr 0 | exact RetQ.fn 0 | fail); done) | (exfalso; omega) | (exfalso; simp_all; done)
  by_cases h4 : items.length = items'.length
  case neg =>
    rw [no (fun h => h4 (by rw [h.2.2.2]))]
    cases leaf <;>
    (focus (have kxs : 987654321 = 987654320 + 1 := rfl; (repeat' (first | (refine ADr.nil ?_; try clear hgv) | refine GO ?_ | refine AW.ret ?_ | (refine GC ?_ ?_ <;> intro h <;> (try simp only [hsB] at h) <;> try (exfalso; first | omega | contradiction)) | (refine GD ?_ ?_ <;> intro h <;> (try intro hgv) <;> (try simp only [Bool.not_true, Bool.not_false] at h) <;> (try simp only [h]) <;> (try simp only [hsB] at h) <;> try (exfalso; first | omega | contradiction)) | (refine GL ?_ ?_ <;> intro h <;> (try simp only [Bool.not_true, Bool.not_false] at h) <;> (try simp only [h]) <;> (try simp only [hsB] at h) <;> try (exfalso; first | omega | contradiction)) | fail)); all_goals clear kxs))
    all_goals first | ((all_goals first | exact RetQ.fr 0 | exact RetQ.fn 0 | fail); done) | (exfalso; omega) | (exfalso; simp_all; done)
  have hd0 : decide ((⟨pre, leaf, slots, items⟩ : Pg) = ⟨pre, leaf, slots', items'⟩) = decide (slots = slots' ∧ items = items') := by
    apply decide_eq_decide.2
    constructor
    · intro e; injection e with e1 e2 e3 e4; exact ⟨e3, e4⟩
    · rintro ⟨rfl, rfl⟩; rfl
  rw [hd0]
  clear hd0 no
  cases leaf with
  | true =>
    focus (have kxs : 987654321 = 987654320 + 1 := rfl; (repeat' (first | (refine ADr.nil ?_; try clear hgv) | refine GO ?_ | refine AW.ret ?_ | (refine GC ?_ ?_ <;> intro h <;> (try simp only [hsB] at h) <;> try (exfalso; first | omega | contradiction)) | (refine GD ?_ ?_ <;> intro h <;> (try intro hgv) <;> (try simp only [Bool.not_true, Bool.not_false] at h) <;> (try simp only [h]) <;> (try simp only [hsB] at h) <;> try (exfalso; first | omega | contradiction)) | (refine GL ?_ ?_ <;> intro h <;> (try simp only [Bool.not_true, Bool.not_false] at h) <;> (try simp only [h]) <;> (try simp only [hsB] at h) <;> try (exfalso; first | omega | contradiction)) | fail)); all_goals clear kxs)
    all_goals first | (exfalso; omega) | (exfalso; simp_all; done) | skip
    refine AW.rounds [2, 3, 4, 5] (fun i : Nat => [(2, .p 0 0), (3, .p 1 0), (4, bv false), (5, iv .i64 i)]) (fun _ => [.box 35 [sv (bs pre), bv true, .d (.l slots.length (slsD slots)), .d (.l items.length (itsD items))], .box 35 [sv (bs pre), bv true, .d (.l slots'.length (slsD slots')), .d (.l items'.length (itsD items'))]])
      (fun i => i ≤ slots.length ∧ (slots = slots' ↔ slots.drop i = slots'.drop i)) (fun i => slots.length - i) 0 ⟨Nat.zero_le _, by simp⟩ rfl rfl (fun _ _ => Nat.zero_le _) (fun _ _ => rfl) (fun _ _ => rfl) ?_
    rintro i ⟨hi, hr⟩ J hJ
    by_cases hil : i < slots.length
    case pos =>
      obtain ⟨x, r, hd⟩ := next_at hil
      obtain ⟨y, s, he⟩ := next_at (l := slots') (i := i) (by omega)
      have hcd := sls_drop hd
      have hce := sls_drop he
      by_cases hxy : x = y
      · subst hxy
        have go : ∀ T' σ', keepT T' [2, 3, 4, 5] = [(2, .p 0 0), (3, .p 1 0), (4, bv false), (5, iv .i64 ((i : Int) + 1))] → σ'.take 2 = [.box 35 [sv (bs pre), bv true, .d (.l slots.length (slsD slots)), .d (.l items.length (itsD items))], .box 35 [sv (bs pre), bv true, .d (.l slots'.length (slsD slots')), .d (.l items'.length (itsD items'))]] → J T' σ' := fun T' σ' g1 g2 =>
          hJ (i + 1) T' σ' (by omega) ⟨hil, by rw [hr, next_drop hd, next_drop he, hd, he]; simp⟩ g1 g2
        clear hJ
        focus (have kxs := And.intro hcd hce; (repeat' (first | (refine ADr.nil ?_; try clear hgv) | refine GO ?_ | refine AW.ret ?_ | (refine GC ?_ ?_ <;> intro h <;> (try simp only [hsB] at h) <;> try (exfalso; first | omega | contradiction)) | (refine GD ?_ ?_ <;> intro h <;> (try intro hgv) <;> (try simp only [Bool.not_true, Bool.not_false] at h) <;> (try simp only [h]) <;> (try simp only [hsB] at h) <;> try (exfalso; first | omega | contradiction)) | (refine GL ?_ ?_ <;> intro h <;> (try simp only [Bool.not_true, Bool.not_false] at h) <;> (try simp only [h]) <;> (try simp only [hsB] at h) <;> try (exfalso; first | omega | contradiction)) | fail)); all_goals clear kxs)
        all_goals first | exact go _ _ rfl rfl | (exfalso; omega) | (exfalso; simp_all; done)
      · rw [decide_eq_false (fun h => by rw [h.1] at hd; rw [hd] at he; exact hxy (List.cons.inj he).1)]
        have hne : ¬ (x.1 = y.1 ∧ x.2 = y.2) := fun h => hxy (sls_eq h.1 h.2)
        focus (have kxs := And.intro hcd hce; (repeat' (first | (refine ADr.nil ?_; try clear hgv) | refine GO ?_ | refine AW.ret ?_ | (refine GC ?_ ?_ <;> intro h <;> (try simp only [hsB] at h) <;> try (exfalso; first | omega | contradiction)) | (refine GD ?_ ?_ <;> intro h <;> (try intro hgv) <;> (try simp only [Bool.not_true, Bool.not_false] at h) <;> (try simp only [h]) <;> (try simp only [hsB] at h) <;> try (exfalso; first | omega | contradiction)) | (refine GL ?_ ?_ <;> intro h <;> (try simp only [Bool.not_true, Bool.not_false] at h) <;> (try simp only [h]) <;> (try simp only [hsB] at h) <;> try (exfalso; first | omega | contradiction)) | fail)); all_goals clear kxs)
        all_goals first | ((all_goals first | exact RetQ.fr 0 | exact RetQ.fn 0 | fail); done) | (exfalso; omega) | (exfalso; apply hne; constructor; omega; simp_all; done) | (exfalso; simp_all; omega) | (exfalso; simp_all; done)
    case neg =>
      have hs : slots = slots' := by rw [hr, List.drop_eq_nil_of_le (by omega), List.drop_eq_nil_of_le (by omega)]
      subst hs
      clear hJ hr
      focus (have kxs : 987654321 = 987654320 + 1 := rfl; (repeat' (first | (refine ADr.nil ?_; try clear hgv) | refine GO ?_ | refine AW.ret ?_ | (refine GC ?_ ?_ <;> intro h <;> (try simp only [hsB] at h) <;> try (exfalso; first | omega | contradiction)) | (refine GD ?_ ?_ <;> intro h <;> (try intro hgv) <;> (try simp only [Bool.not_true, Bool.not_false] at h) <;> (try simp only [h]) <;> (try simp only [hsB] at h) <;> try (exfalso; first | omega | contradiction)) | (refine GL ?_ ?_ <;> intro h <;> (try simp only [Bool.not_true, Bool.not_false] at h) <;> (try simp only [h]) <;> (try simp only [hsB] at h) <;> try (exfalso; first | omega | contradiction)) | fail)); all_goals clear kxs)
      all_goals first | (exfalso; omega) | (exfalso; simp_all; done) | skip
      refine AW.rounds [2, 3, 4, 6] (fun i : Nat => [(2, .p 0 0), (3, .p 1 0), (4, bv false), (6, iv .i64 i)]) (fun _ => [.box 35 [sv (bs pre), bv true, .d (.l slots.length (slsD slots)), .d (.l items.length (itsD items))], .box 35 [sv (bs pre), bv true, .d (.l slots.length (slsD slots)), .d (.l items'.length (itsD items'))]])
        (fun i => i ≤ items.length ∧ (items = items' ↔ items.drop i = items'.drop i)) (fun i => items.length - i) 0 ⟨Nat.zero_le _, by simp⟩ rfl rfl (fun _ _ => Nat.zero_le _) (fun _ _ => rfl) (fun _ _ => rfl) ?_
      rintro j ⟨hj, hr⟩ J hJ
      by_cases hjl : j < items.length
      case pos =>
        obtain ⟨x, r, hd⟩ := next_at hjl
        obtain ⟨y, s, he⟩ := next_at (l := items') (i := j) (by omega)
        have hcd := its_drop hd
        have hce := its_drop he
        by_cases hxy : x = y
        · subst hxy
          have go : ∀ T' σ', keepT T' [2, 3, 4, 6] = [(2, .p 0 0), (3, .p 1 0), (4, bv false), (6, iv .i64 ((j : Int) + 1))] → σ'.take 2 = [.box 35 [sv (bs pre), bv true, .d (.l slots.length (slsD slots)), .d (.l items.length (itsD items))], .box 35 [sv (bs pre), bv true, .d (.l slots.length (slsD slots)), .d (.l items'.length (itsD items'))]] → J T' σ' := fun T' σ' g1 g2 =>
            hJ (j + 1) T' σ' (by omega) ⟨hjl, by rw [hr, next_drop hd, next_drop he, hd, he]; simp⟩ g1 g2
          clear hJ
          focus (have kxs := And.intro hcd hce; (repeat' (first | (refine ADr.nil ?_; try clear hgv) | refine GO ?_ | refine AW.ret ?_ | (refine GC ?_ ?_ <;> intro h <;> (try simp only [hsB] at h) <;> try (exfalso; first | omega | contradiction)) | (refine GD ?_ ?_ <;> intro h <;> (try intro hgv) <;> (try simp only [Bool.not_true, Bool.not_false] at h) <;> (try simp only [h]) <;> (try simp only [hsB] at h) <;> try (exfalso; first | omega | contradiction)) | (refine GL ?_ ?_ <;> intro h <;> (try simp only [Bool.not_true, Bool.not_false] at h) <;> (try simp only [h]) <;> (try simp only [hsB] at h) <;> try (exfalso; first | omega | contradiction)) | fail)); all_goals clear kxs)
          all_goals first | exact go _ _ rfl rfl | (exfalso; omega) | (exfalso; simp_all; done)
        · rw [decide_eq_false (fun h => by rw [h.2] at hd; rw [hd] at he; exact hxy (List.cons.inj he).1)]
          have hne : ¬ (x.1 = y.1 ∧ x.2 = y.2) := fun h => hxy (Prod.ext h.1 h.2)
          focus (have kxs := And.intro hcd hce; (repeat' (first | (refine ADr.nil ?_; try clear hgv) | refine GO ?_ | refine AW.ret ?_ | (refine GC ?_ ?_ <;> intro h <;> (try simp only [hsB] at h) <;> try (exfalso; first | omega | contradiction)) | (refine GD ?_ ?_ <;> intro h <;> (try intro hgv) <;> (try simp only [Bool.not_true, Bool.not_false] at h) <;> (try simp only [h]) <;> (try simp only [hsB] at h) <;> try (exfalso; first | omega | contradiction)) | (refine GL ?_ ?_ <;> intro h <;> (try simp only [Bool.not_true, Bool.not_false] at h) <;> (try simp only [h]) <;> (try simp only [hsB] at h) <;> try (exfalso; first | omega | contradiction)) | fail)); all_goals clear kxs)
          all_goals first | ((all_goals first | exact RetQ.fr 0 | exact RetQ.fn 0 | fail); done) | (exfalso; omega) | (exfalso; simp_all; done)
      case neg =>
        have hs : items = items' := by rw [hr, List.drop_eq_nil_of_le (by omega), List.drop_eq_nil_of_le (by omega)]
        rw [decide_eq_true ⟨rfl, hs⟩]
        focus (have kxs : 987654321 = 987654320 + 1 := rfl; (repeat' (first | (refine ADr.nil ?_; try clear hgv) | refine GO ?_ | refine AW.ret ?_ | (refine GC ?_ ?_ <;> intro h <;> (try simp only [hsB] at h) <;> try (exfalso; first | omega | contradiction)) | (refine GD ?_ ?_ <;> intro h <;> (try intro hgv) <;> (try simp only [Bool.not_true, Bool.not_false] at h) <;> (try simp only [h]) <;> (try simp only [hsB] at h) <;> try (exfalso; first | omega | contradiction)) | (refine GL ?_ ?_ <;> intro h <;> (try simp only [Bool.not_true, Bool.not_false] at h) <;> (try simp only [h]) <;> (try simp only [hsB] at h) <;> try (exfalso; first | omega | contradiction)) | fail)); all_goals clear kxs)
        all_goals first | ((all_goals first | exact RetQ.fr 0 | exact RetQ.fn 0 | fail); done) | (exfalso; omega) | (exfalso; simp_all; done)
  | false =>
    focus (have kxs : 987654321 = 987654320 + 1 := rfl; (repeat' (first | (refine ADr.nil ?_; try clear hgv) | refine GO ?_ | refine AW.ret ?_ | (refine GC ?_ ?_ <;> intro h <;> (try simp only [hsB] at h) <;> try (exfalso; first | omega | contradiction)) | (refine GD ?_ ?_ <;> intro h <;> (try intro hgv) <;> (try simp only [Bool.not_true, Bool.not_false] at h) <;> (try simp only [h]) <;> (try simp only [hsB] at h) <;> try (exfalso; first | omega | contradiction)) | (refine GL ?_ ?_ <;> intro h <;> (try simp only [Bool.not_true, Bool.not_false] at h) <;> (try simp only [h]) <;> (try simp only [hsB] at h) <;> try (exfalso; first | omega | contradiction)) | fail)); all_goals clear kxs)
    all_goals first | (exfalso; omega) | (exfalso; simp_all; done) | skip
    refine AW.rounds [2, 3, 4, 5] (fun i : Nat => [(2, .p 0 0), (3, .p 1 0), (4, bv false), (5, iv .i64 i)]) (fun _ => [.box 35 [sv (bs pre), bv false, .d (.l slots.length (slsD slots)), .d (.l items.length (itsD items))], .box 35 [sv (bs pre), bv false, .d (.l slots'.length (slsD slots')), .d (.l items'.length (itsD items'))]])
      (fun i => i ≤ slots.length ∧ (slots = slots' ↔ slots.drop i = slots'.drop i)) (fun i => slots.length - i) 0 ⟨Nat.zero_le _, by simp⟩ rfl rfl (fun _ _ => Nat.zero_le _) (fun _ _ => rfl) (fun _ _ => rfl) ?_
    rintro i ⟨hi, hr⟩ J hJ
    by_cases hil : i < slots.length
    case pos =>
      obtain ⟨x, r, hd⟩ := next_at hil
      obtain ⟨y, s, he⟩ := next_at (l := slots') (i := i) (by omega)
      have hcd := sls_drop hd
      have hce := sls_drop he
      by_cases hxy : x = y
      · subst hxy
        have go : ∀ T' σ', keepT T' [2, 3, 4, 5] = [(2, .p 0 0), (3, .p 1 0), (4, bv false), (5, iv .i64 ((i : Int) + 1))] → σ'.take 2 = [.box 35 [sv (bs pre), bv false, .d (.l slots.length (slsD slots)), .d (.l items.length (itsD items))], .box 35 [sv (bs pre), bv false, .d (.l slots'.length (slsD slots')), .d (.l items'.length (itsD items'))]] → J T' σ' := fun T' σ' g1 g2 =>
          hJ (i + 1) T' σ' (by omega) ⟨hil, by rw [hr, next_drop hd, next_drop he, hd, he]; simp⟩ g1 g2
        clear hJ
        focus (have kxs := And.intro hcd hce; (repeat' (first | (refine ADr.nil ?_; try clear hgv) | refine GO ?_ | refine AW.ret ?_ | (refine GC ?_ ?_ <;> intro h <;> (try simp only [hsB] at h) <;> try (exfalso; first | omega | contradiction)) | (refine GD ?_ ?_ <;> intro h <;> (try intro hgv) <;> (try simp only [Bool.not_true, Bool.not_false] at h) <;> (try simp only [h]) <;> (try simp only [hsB] at h) <;> try (exfalso; first | omega | contradiction)) | (refine GL ?_ ?_ <;> intro h <;> (try simp only [Bool.not_true, Bool.not_false] at h) <;> (try simp only [h]) <;> (try simp only [hsB] at h) <;> try (exfalso; first | omega | contradiction)) | fail)); all_goals clear kxs)
        all_goals first | exact go _ _ rfl rfl | (exfalso; omega) | (exfalso; simp_all; done)
      · rw [decide_eq_false (fun h => by rw [h.1] at hd; rw [hd] at he; exact hxy (List.cons.inj he).1)]
        have hne : ¬ (x.1 = y.1 ∧ x.2 = y.2) := fun h => hxy (sls_eq h.1 h.2)
        focus (have kxs := And.intro hcd hce; (repeat' (first | (refine ADr.nil ?_; try clear hgv) | refine GO ?_ | refine AW.ret ?_ | (refine GC ?_ ?_ <;> intro h <;> (try simp only [hsB] at h) <;> try (exfalso; first | omega | contradiction)) | (refine GD ?_ ?_ <;> intro h <;> (try intro hgv) <;> (try simp only [Bool.not_true, Bool.not_false] at h) <;> (try simp only [h]) <;> (try simp only [hsB] at h) <;> try (exfalso; first | omega | contradiction)) | (refine GL ?_ ?_ <;> intro h <;> (try simp only [Bool.not_true, Bool.not_false] at h) <;> (try simp only [h]) <;> (try simp only [hsB] at h) <;> try (exfalso; first | omega | contradiction)) | fail)); all_goals clear kxs)
        all_goals first | ((all_goals first | exact RetQ.fr 0 | exact RetQ.fn 0 | fail); done) | (exfalso; omega) | (exfalso; apply hne; constructor; omega; simp_all; done) | (exfalso; simp_all; omega) | (exfalso; simp_all; done)
    case neg =>
      have hs : slots = slots' := by rw [hr, List.drop_eq_nil_of_le (by omega), List.drop_eq_nil_of_le (by omega)]
      subst hs
      clear hJ hr
      focus (have kxs : 987654321 = 987654320 + 1 := rfl; (repeat' (first | (refine ADr.nil ?_; try clear hgv) | refine GO ?_ | refine AW.ret ?_ | (refine GC ?_ ?_ <;> intro h <;> (try simp only [hsB] at h) <;> try (exfalso; first | omega | contradiction)) | (refine GD ?_ ?_ <;> intro h <;> (try intro hgv) <;> (try simp only [Bool.not_true, Bool.not_false] at h) <;> (try simp only [h]) <;> (try simp only [hsB] at h) <;> try (exfalso; first | omega | contradiction)) | (refine GL ?_ ?_ <;> intro h <;> (try simp only [Bool.not_true, Bool.not_false] at h) <;> (try simp only [h]) <;> (try simp only [hsB] at h) <;> try (exfalso; first | omega | contradiction)) | fail)); all_goals clear kxs)
      all_goals first | (exfalso; omega) | (exfalso; simp_all; done) | skip
      refine AW.rounds [2, 3, 4, 6] (fun i : Nat => [(2, .p 0 0), (3, .p 1 0), (4, bv false), (6, iv .i64 i)]) (fun _ => [.box 35 [sv (bs pre), bv false, .d (.l slots.length (slsD slots)), .d (.l items.length (itsD items))], .box 35 [sv (bs pre), bv false, .d (.l slots.length (slsD slots)), .d (.l items'.length (itsD items'))]])
        (fun i => i ≤ items.length ∧ (items = items' ↔ items.drop i = items'.drop i)) (fun i => items.length - i) 0 ⟨Nat.zero_le _, by simp⟩ rfl rfl (fun _ _ => Nat.zero_le _) (fun _ _ => rfl) (fun _ _ => rfl) ?_
      rintro j ⟨hj, hr⟩ J hJ
      by_cases hjl : j < items.length
      case pos =>
        obtain ⟨x, r, hd⟩ := next_at hjl
        obtain ⟨y, s, he⟩ := next_at (l := items') (i := j) (by omega)
        have hcd := its_drop hd
        have hce := its_drop he
        by_cases hxy : x = y
        · subst hxy
          have go : ∀ T' σ', keepT T' [2, 3, 4, 6] = [(2, .p 0 0), (3, .p 1 0), (4, bv false), (6, iv .i64 ((j : Int) + 1))] → σ'.take 2 = [.box 35 [sv (bs pre), bv false, .d (.l slots.length (slsD slots)), .d (.l items.length (itsD items))], .box 35 [sv (bs pre), bv false, .d (.l slots.length (slsD slots)), .d (.l items'.length (itsD items'))]] → J T' σ' := fun T' σ' g1 g2 =>
            hJ (j + 1) T' σ' (by omega) ⟨hjl, by rw [hr, next_drop hd, next_drop he, hd, he]; simp⟩ g1 g2
          clear hJ
          focus (have kxs := And.intro hcd hce; (repeat' (first | (refine ADr.nil ?_; try clear hgv) | refine GO ?_ | refine AW.ret ?_ | (refine GC ?_ ?_ <;> intro h <;> (try simp only [hsB] at h) <;> try (exfalso; first | omega | contradiction)) | (refine GD ?_ ?_ <;> intro h <;> (try intro hgv) <;> (try simp only [Bool.not_true, Bool.not_false] at h) <;> (try simp only [h]) <;> (try simp only [hsB] at h) <;> try (exfalso; first | omega | contradiction)) | (refine GL ?_ ?_ <;> intro h <;> (try simp only [Bool.not_true, Bool.not_false] at h) <;> (try simp only [h]) <;> (try simp only [hsB] at h) <;> try (exfalso; first | omega | contradiction)) | fail)); all_goals clear kxs)
          all_goals first | exact go _ _ rfl rfl | (exfalso; omega) | (exfalso; simp_all; done)
        · rw [decide_eq_false (fun h => by rw [h.2] at hd; rw [hd] at he; exact hxy (List.cons.inj he).1)]
          have hne : ¬ (x.1 = y.1 ∧ x.2 = y.2) := fun h => hxy (Prod.ext h.1 h.2)
          focus (have kxs := And.intro hcd hce; (repeat' (first | (refine ADr.nil ?_; try clear hgv) | refine GO ?_ | refine AW.ret ?_ | (refine GC ?_ ?_ <;> intro h <;> (try simp only [hsB] at h) <;> try (exfalso; first | omega | contradiction)) | (refine GD ?_ ?_ <;> intro h <;> (try intro hgv) <;> (try simp only [Bool.not_true, Bool.not_false] at h) <;> (try simp only [h]) <;> (try simp only [hsB] at h) <;> try (exfalso; first | omega | contradiction)) | (refine GL ?_ ?_ <;> intro h <;> (try simp only [Bool.not_true, Bool.not_false] at h) <;> (try simp only [h]) <;> (try simp only [hsB] at h) <;> try (exfalso; first | omega | contradiction)) | fail)); all_goals clear kxs)
          all_goals first | ((all_goals first | exact RetQ.fr 0 | exact RetQ.fn 0 | fail); done) | (exfalso; omega) | (exfalso; simp_all; done)
      case neg =>
        have hs : items = items' := by rw [hr, List.drop_eq_nil_of_le (by omega), List.drop_eq_nil_of_le (by omega)]
        rw [decide_eq_true ⟨rfl, hs⟩]
        focus (have kxs : 987654321 = 987654320 + 1 := rfl; (repeat' (first | (refine ADr.nil ?_; try clear hgv) | refine GO ?_ | refine AW.ret ?_ | (refine GC ?_ ?_ <;> intro h <;> (try simp only [hsB] at h) <;> try (exfalso; first | omega | contradiction)) | (refine GD ?_ ?_ <;> intro h <;> (try intro hgv) <;> (try simp only [Bool.not_true, Bool.not_false] at h) <;> (try simp only [h]) <;> (try simp only [hsB] at h) <;> try (exfalso; first | omega | contradiction)) | (refine GL ?_ ?_ <;> intro h <;> (try simp only [Bool.not_true, Bool.not_false] at h) <;> (try simp only [h]) <;> (try simp only [hsB] at h) <;> try (exfalso; first | omega | contradiction)) | fail)); all_goals clear kxs)
        all_goals first | ((all_goals first | exact RetQ.fr 0 | exact RetQ.fn 0 | fail); done) | (exfalso; omega) | (exfalso; simp_all; done)
end Go.AW
/-
  old objects that are the same, or alike, or too great: the program's and the document's.
-/
namespace Go.AW
open Go Go.Proofs
set_option maxHeartbeats 2000000
set_option maxRecDepth 10000
set_option linter.unusedSimpArgs false
set_option linter.unusedVariables false
attribute [local irreducible] thenQ blockQ RetQ AL AW AC AOp

theorem os_dec (k o : Os1) : decide (k = o) = (decide (k.clk = o.clk) && (decide (k.dead = o.dead) && decide (k.val = o.val))) := by
  obtain ⟨a, b, c⟩ := k
  obtain ⟨d, e, f⟩ := o
  rw [Bool.eq_iff_iff]
  simp
theorem ref17_One (k o : Os1) (hk : k.clk.length ≤ 9223372036854775807) : AC Tryz.prog 148 [osV k, osV o] [] fun x σ => x = bv (decide (k = o)) ∧ σ = [] := by
  refine AC.walk Tryz.func148 rfl (by decide) (of_decide_eq_true rfl) ?_
  rw [os_dec]
  rcases Bool.eq_false_or_eq_true (decide (k.clk = o.clk)) with e1 | e1 <;> rcases Bool.eq_false_or_eq_true (decide (k.dead = o.dead)) with e2 | e2
  all_goals
    rw [e1, e2]
    focus (have kxs := And.intro e1 e2; have kk1 := uN [] (ref10_Same k.clk o.clk hk); (repeat' (first | refine G ?_ | refine AW.ret ?_ | (refine GC ?_ ?_ <;> intro h <;> (try simp only [hsB] at h) <;> try (exfalso; first | omega | contradiction)) | (refine GL ?_ ?_ <;> intro h <;> (try simp only [Bool.not_true, Bool.not_false] at h) <;> (try simp only [h]) <;> (try simp only [hsB] at h) <;> try (exfalso; first | omega | contradiction)) | fail)); all_goals clear kxs kk1)
    all_goals first | ((all_goals first | exact RetQ.fr 0 | exact RetQ.fn 0 | fail); done) | (exfalso; simp_all; done)
theorem od_dec (k o : Od) : decide (k = o) = (decide (k.key = o.key) && decide (k.sibs = o.sibs)) := by
  rw [Bool.eq_iff_iff, decide_eq_true_eq]; exact (od_eq k o).symm
theorem ref17_Same (k o : Od) (hk : k.fits) : AC Tryz.prog 67 [odV k, odV o] [] fun x σ => x = bv (decide (k = o)) ∧ σ = [] := by
  refine AC.walk Tryz.func67 rfl (by decide) (of_decide_eq_true rfl) ?_
  rw [od_dec]
  obtain ⟨key, v⟩ := k
  obtain ⟨key2, w⟩ := o
  obtain ⟨_, hl, hf⟩ := hk
  simp only at hl hf ⊢
  by_cases hkk : key = key2
  case neg =>
    rw [decide_eq_false hkk]
    focus (have kxs : 987654321 = 987654320 + 1 := rfl; (repeat' (first | (refine ADr.nil ?_; try clear hgv) | refine GO ?_ | refine AW.ret ?_ | (refine GC ?_ ?_ <;> intro h <;> (try simp only [hsB] at h) <;> try (exfalso; first | omega | contradiction)) | (refine GD ?_ ?_ <;> intro h <;> (try intro hgv) <;> (try simp only [Bool.not_true, Bool.not_false] at h) <;> (try simp only [h]) <;> (try simp only [hsB] at h) <;> try (exfalso; first | omega | contradiction)) | (refine GL ?_ ?_ <;> intro h <;> (try simp only [Bool.not_true, Bool.not_false] at h) <;> (try simp only [h]) <;> (try simp only [hsB] at h) <;> try (exfalso; first | omega | contradiction)) | fail)); all_goals clear kxs)
    all_goals first | ((all_goals first | exact RetQ.fr 0 | exact RetQ.fn 0 | fail); done) | (exfalso; simp_all; done)
  subst hkk
  rw [decide_eq_true rfl, Bool.true_and]
  by_cases hll : v.length = w.length
  case neg =>
    have hc : decide (v = w) = false := by simp; rintro rfl; exact hll rfl
    rw [hc]
    focus (have kxs : 987654321 = 987654320 + 1 := rfl; (repeat' (first | (refine ADr.nil ?_; try clear hgv) | refine GO ?_ | refine AW.ret ?_ | (refine GC ?_ ?_ <;> intro h <;> (try simp only [hsB] at h) <;> try (exfalso; first | omega | contradiction)) | (refine GD ?_ ?_ <;> intro h <;> (try intro hgv) <;> (try simp only [Bool.not_true, Bool.not_false] at h) <;> (try simp only [h]) <;> (try simp only [hsB] at h) <;> try (exfalso; first | omega | contradiction)) | (refine GL ?_ ?_ <;> intro h <;> (try simp only [Bool.not_true, Bool.not_false] at h) <;> (try simp only [h]) <;> (try simp only [hsB] at h) <;> try (exfalso; first | omega | contradiction)) | fail)); all_goals clear kxs)
    all_goals first | (exfalso; omega) | ((all_goals first | exact RetQ.fr 0 | exact RetQ.fn 0 | fail); done) | (exfalso; simp_all; done)
  focus (have kxs : 987654321 = 987654320 + 1 := rfl; (repeat' (first | (refine ADr.nil ?_; try clear hgv) | refine GO ?_ | refine AW.ret ?_ | (refine GC ?_ ?_ <;> intro h <;> (try simp only [hsB] at h) <;> try (exfalso; first | omega | contradiction)) | (refine GD ?_ ?_ <;> intro h <;> (try intro hgv) <;> (try simp only [Bool.not_true, Bool.not_false] at h) <;> (try simp only [h]) <;> (try simp only [hsB] at h) <;> try (exfalso; first | omega | contradiction)) | (refine GL ?_ ?_ <;> intro h <;> (try simp only [Bool.not_true, Bool.not_false] at h) <;> (try simp only [h]) <;> (try simp only [hsB] at h) <;> try (exfalso; first | omega | contradiction)) | fail)); all_goals clear kxs)
  all_goals first | (exfalso; simp_all; done) | skip
  refine AW.rounds [2, 3, 4, 5] (fun i : Nat => [(2, .p 0 0), (3, .p 1 0), (4, bv false), (5, iv .i64 i)]) (fun _ => [.box 29 [sv (bs key), .d (.l v.length (ossD v))], .box 29 [sv (bs key), .d (.l w.length (ossD w))]])
    (fun i => i ≤ v.length ∧ (v = w ↔ v.drop i = w.drop i)) (fun i => v.length - i) 0 ⟨Nat.zero_le _, by simp⟩ rfl rfl (fun _ _ => Nat.zero_le _) (fun _ _ => rfl) (fun _ _ => rfl) ?_
  rintro i ⟨hi, hr⟩ J hJ
  by_cases hil : i < v.length
  · obtain ⟨x, r, hd⟩ := next_at hil
    obtain ⟨y, s, he⟩ := next_at (l := w) (i := i) (by omega)
    have hcd := oss_drop hd
    have hce := oss_drop he
    have hfx := hf x (next_mem hd)
    by_cases hxy : x = y
    · have hd1 : decide (x = y) = true := decide_eq_true hxy
      have hJ2 : v = w ↔ v.drop (i + 1) = w.drop (i + 1) := by
        rw [hr, next_drop hd, next_drop he, hd, he, hxy]; simp
      focus (have kxs := And.intro hcd (And.intro hce hd1); have kk1 := uN [] (ref17_One x y hfx.1.1); (repeat' (first | (refine ADr.nil ?_; try clear hgv) | refine GO ?_ | refine AW.ret ?_ | (refine GC ?_ ?_ <;> intro h <;> (try simp only [hsB] at h) <;> try (exfalso; first | omega | contradiction)) | (refine GD ?_ ?_ <;> intro h <;> (try intro hgv) <;> (try simp only [Bool.not_true, Bool.not_false] at h) <;> (try simp only [h]) <;> (try simp only [hsB] at h) <;> try (exfalso; first | omega | contradiction)) | (refine GL ?_ ?_ <;> intro h <;> (try simp only [Bool.not_true, Bool.not_false] at h) <;> (try simp only [h]) <;> (try simp only [hsB] at h) <;> try (exfalso; first | omega | contradiction)) | fail)); all_goals clear kxs kk1)
      all_goals first | (exact hJ (i + 1) _ _ (by omega) ⟨hil, hJ2⟩ rfl rfl) | (exfalso; simp_all; done)
    · have hd1 : decide (x = y) = false := decide_eq_false hxy
      have hc : decide (v = w) = false := by
        simp only [decide_eq_false_iff_not]
        rw [hr, hd, he]
        intro e
        exact hxy (List.cons.inj e).1
      rw [hc]
      focus (have kxs := And.intro hcd (And.intro hce hd1); have kk1 := uN [] (ref17_One x y hfx.1.1); (repeat' (first | (refine ADr.nil ?_; try clear hgv) | refine GO ?_ | refine AW.ret ?_ | (refine GC ?_ ?_ <;> intro h <;> (try simp only [hsB] at h) <;> try (exfalso; first | omega | contradiction)) | (refine GD ?_ ?_ <;> intro h <;> (try intro hgv) <;> (try simp only [Bool.not_true, Bool.not_false] at h) <;> (try simp only [h]) <;> (try simp only [hsB] at h) <;> try (exfalso; first | omega | contradiction)) | (refine GL ?_ ?_ <;> intro h <;> (try simp only [Bool.not_true, Bool.not_false] at h) <;> (try simp only [h]) <;> (try simp only [hsB] at h) <;> try (exfalso; first | omega | contradiction)) | fail)); all_goals clear kxs kk1)
      all_goals first | ((all_goals first | exact RetQ.fr 0 | exact RetQ.fn 0 | fail); done) | (exfalso; simp_all; done)
  · have hc : decide (v = w) = true := by
      simp only [decide_eq_true_eq]
      rw [hr, List.drop_eq_nil_of_le (by omega), List.drop_eq_nil_of_le (by omega)]
    rw [hc]
    focus (have kxs : 987654321 = 987654320 + 1 := rfl; (repeat' (first | (refine ADr.nil ?_; try clear hgv) | refine GO ?_ | refine AW.ret ?_ | (refine GC ?_ ?_ <;> intro h <;> (try simp only [hsB] at h) <;> try (exfalso; first | omega | contradiction)) | (refine GD ?_ ?_ <;> intro h <;> (try intro hgv) <;> (try simp only [Bool.not_true, Bool.not_false] at h) <;> (try simp only [h]) <;> (try simp only [hsB] at h) <;> try (exfalso; first | omega | contradiction)) | (refine GL ?_ ?_ <;> intro h <;> (try simp only [Bool.not_true, Bool.not_false] at h) <;> (try simp only [h]) <;> (try simp only [hsB] at h) <;> try (exfalso; first | omega | contradiction)) | fail)); all_goals clear kxs)
    all_goals first | ((all_goals first | exact RetQ.fr 0 | exact RetQ.fn 0 | fail); done) | (exfalso; simp_all; done)
end Go.AW
/-
  The calculus: own rows that nobody writes any more become data; loops over such; strings compared by the runtime.
-/
namespace Go.AW
open Go
set_option linter.unusedVariables false

def fzT (σ : List Ob) (m : Nat) : Tm → Tm
  | [] => []
  | (n, x) :: T => (n, fz σ m x) :: fzT σ m T
attribute [go_sem] fzT
section
variable {P : Program} {N k : Nat} {T : Tm} {σ : List Ob}
end
end Go.AW
/-
  The calculus: nil slices among data are rows of no elements.
-/
namespace Go.AW
open Go
set_option linter.unusedVariables false

mutual
def nzD : D → D
  | .s (.slice none 0 0) => .l 0 []
  | .l n xs => .l n (nzDs xs)
  | x => x
def nzDs : List D → List D
  | [] => []
  | x :: xs => nzD x :: nzDs xs
end
mutual
theorem nzD_ok {F : Nat → Prop} {w : World} : ∀ (x : D) (v : Value), DR F w x v → DR F w (nzD x) v
  | .s u, v, h => by
    unfold nzD
    split
    · rename_i e
      cases e
      simp only [DR] at h ⊢
      exact ⟨none, 0, h, Nat.le_refl _, .inl (by simp)⟩
    · rename_i e; cases e
    · exact h
  | .l n xs, v, h => by
    simp only [nzD, DR] at h ⊢
    obtain ⟨A, cap, hv, hn, ⟨rfl, h⟩ | ⟨b, off, vs, hA, hb, hF, hc, hd⟩⟩ := h
    · exact ⟨A, cap, hv, hn, .inl ⟨rfl, h⟩⟩
    · exact ⟨A, cap, hv, hn, .inr ⟨b, off, vs, hA, hb, hF, hc, nzDs_ok xs vs hd⟩⟩
theorem nzDs_ok {F : Nat → Prop} {w : World} : ∀ (xs : List D) (vs : List Value), DRs F w xs vs → DRs F w (nzDs xs) vs
  | [], vs, h => h
  | x :: xs, vs, h => by
    simp only [nzDs, DRs] at h ⊢
    obtain ⟨v, us, hv, h1, h2⟩ := h
    exact ⟨v, us, hv, nzD_ok x v h1, nzDs_ok xs us h2⟩
end
mutual
def nzV : V → V
  | .d x => .d (nzD x)
  | .a xs => .a (nzVs xs)
  | x => x
def nzVs : List V → List V
  | [] => []
  | x :: xs => nzV x :: nzVs xs
end
mutual
theorem nzV_ok {F : Nat → Prop} {σ : List Ob} {μ : List Value} {w : World} : ∀ (x : V) (v : Value), VR F σ μ w x v → VR F σ μ w (nzV x) v
  | .d x, v, h => by simp only [nzV, VR] at h ⊢; exact nzD_ok x v h
  | .a xs, v, h => by
    simp only [nzV, VR] at h ⊢
    obtain ⟨cs, hv, h⟩ := h
    exact ⟨cs, hv, nzVs_ok xs _ h⟩
  | .t _, v, h => h
  | .p _ _, v, h => h
  | .c _, v, h => h
  | .o _ _, v, h => h
  | .e _ _ _, v, h => h
  | .b _ _ _, v, h => h
  | .f _ _ _, v, h => h
  | .u, v, h => h
theorem nzVs_ok {F : Nat → Prop} {σ : List Ob} {μ : List Value} {w : World} : ∀ (xs : List V) (vs : List Value), VRs F σ μ w xs vs → VRs F σ μ w (nzVs xs) vs
  | [], vs, h => h
  | x :: xs, vs, h => by
    simp only [nzVs, VRs] at h ⊢
    obtain ⟨v, us, hv, h1, h2⟩ := h
    exact ⟨v, us, hv, nzV_ok x v h1, nzVs_ok xs us h2⟩
end
def nzOb : Ob → Ob
  | .row E sz n cs => .row E sz n (nzDs cs)
  | ob => ob
attribute [go_sem] nzOb nzDs nzD
section
variable {P : Program} {N k B : Nat} {T : Tm} {F : Nat → Prop} {σ : List Ob} {μ : List Value} {w : World}
theorem nz_at {i : Nat} {ob : Ob} (h : (σ.map nzOb)[i]? = some ob) : ∃ ob0, σ[i]? = some ob0 ∧ ob = nzOb ob0 := by
  rw [List.getElem?_map] at h
  cases hc : σ[i]? with
  | none => rw [hc] at h; cases h
  | some ob0 => rw [hc] at h; exact ⟨ob0, rfl, (Option.some.inj h).symm⟩
theorem blk_nz (ob : Ob) (h : Value) : blk (nzOb ob) h = blk ob h := by
  cases h with
  | pointer a => cases a <;> cases ob <;> rfl
  | slice a _ _ => cases a <;> cases ob <;> rfl
  | _ => cases ob <;> rfl
theorem Keep.nz : Keep σ.length σ μ (σ.map nzOb) μ := by
  refine ⟨fun i T cs h _ h1 h2 => ⟨⟨cs, by rw [List.getElem?_map, h1]; rfl⟩, h2⟩, fun i E sz m cs h _ h1 h2 => ⟨m, nzDs cs, h, by rw [List.getElem?_map, h1]; rfl, h2, Nat.le_refl _, fun _ => rfl⟩⟩
theorem Live.nz {b : Nat} (h : Live (σ.map nzOb) μ b) : Live σ μ b := by
  obtain ⟨i, ob, u, h1, h2, h3⟩ := h
  obtain ⟨ob0, g1, rfl⟩ := nz_at h1
  exact ⟨i, ob0, u, g1, h2, by rw [blk_nz] at h3; exact h3⟩
theorem St.nz (st : St k B F σ μ w) : St k B F (σ.map nzOb) μ w := by
  have hm : Mem F w F w := ⟨Nat.le_refl _, fun b _ hf => ⟨rfl, hf⟩⟩
  refine ⟨by rw [List.length_map]; exact st.len, fun i ob h h1 h2 => ?_, fun i j ob h ob' h' b h1 h2 h3 h4 h5 h6 => ?_, st.lt, st.base⟩
  · obtain ⟨ob0, g1, rfl⟩ := nz_at h1
    have hh := st.obj i ob0 h g1 h2
    cases ob0 with
    | box T cs =>
      obtain ⟨b, arr, e1, e2, e3, e4, e5⟩ := hh
      exact ⟨b, arr, e1, e2, VRs.mono hm st.len Keep.nz _ _ e3, e4, e5⟩
    | row E sz n cs =>
      obtain ⟨vs, e1, e2, e3⟩ := hh
      exact ⟨vs, e1, nzDs_ok _ _ e2, e3⟩
  · obtain ⟨o1, g1, rfl⟩ := nz_at h1
    obtain ⟨o2, g2, rfl⟩ := nz_at h3
    rw [blk_nz] at h5 h6
    exact st.sep i j o1 h o2 h' b g1 h2 g2 h4 h5 h6
theorem Stp.nz : Stp k B F σ μ w F (σ.map nzOb) μ w :=
  ⟨rfl, rfl, rfl, Nat.le_refl _, fun _ _ _ => rfl, fun _ h => .inl h, fun _ _ h => h, fun _ h => .inl h.nz, Keep.any Keep.nz, fun i E sz m cs h E' sz' m' cs' h' _ _ h2 _ h4 b hb => by
    rw [h2] at h4
    obtain rfl := Option.some.inj h4
    exact .inl hb⟩
end
end Go.AW
/-
  Row 16: the laws.
-/
namespace Go.AW
open Go Go.Proofs Go.RowKit
set_option maxHeartbeats 2000000
set_option maxRecDepth 10000
set_option linter.unusedSimpArgs false
set_option linter.unusedVariables false
attribute [local irreducible] thenQ blockQ RetQ AL AW AC AOp

theorem oj0_fits : oj0.fits := ⟨by decide, by decide, fun x hx => (List.not_mem_nil hx).elim⟩
theorem Oj.fits_len {o : Oj} (h : o.fits) : ∀ x ∈ o.sibs, x.clk.ctx.length ≤ 9223372036854775807 ∧ x.meta_.length ≤ 9223372036854775807 := fun x hx => ⟨(h.2.2 x hx).1.1.1, (h.2.2 x hx).2.1.1⟩
end Go.AW
/-
  messages, the document's: whether they are the same, great.
-/
namespace Go.AW
open Go Go.Proofs
set_option maxHeartbeats 4000000
set_option maxRecDepth 10000
set_option linter.unusedSimpArgs false
set_option linter.unusedVariables false
attribute [local irreducible] thenQ blockQ RetQ AL AW AC AOp

theorem ref23_SameR (m : Mg) (hf : m.fits) : AC Tryz.prog 18 [mgV m, mgV m] [] fun y σ => y = bv true ∧ σ = [] := by
  refine AC.walk Tryz.func18 rfl (by decide) (of_decide_eq_true rfl) ?_
  obtain ⟨_, _, _, f1, f2, f3, f4, _, _, f5, f6, _, _⟩ := hf
  have s1 := ref16_Same m.obj m.obj f1.2.1 (Oj.fits_len f1)
  have s2 := ref17_Same m.old m.old f2
  have s3 := ref10_Same m.ctx m.ctx f3.1
  have s4 := ref14_Same m.meta_ m.meta_ f4.1
  have s5 := ref20_Same m.page m.page f5.2.1.1 f5.2.2.1
  have s6 := ref22_Same m.ring m.ring f6.1 (fun x hx => (f6.2 x hx).2.2)
  rw [show decide (m.obj = m.obj) = true by simp] at s1
  rw [show decide (m.old = m.old) = true by simp] at s2
  rw [show decide (m.ctx = m.ctx) = true by simp] at s3
  rw [show decide (m.meta_ = m.meta_) = true by simp] at s4
  rw [show decide (m.page = m.page) = true by simp] at s5
  rw [show decide (m.ring = m.ring) = true by simp] at s6
  focus (have kxs : 987654321 = 987654320 + 1 := rfl; have kk1 := uN [] (s1); have kk2 := uN [] (s2); have kk3 := uN [] (s3); have kk4 := uN [] (s4); have kk5 := uN [] (s5); have kk6 := uN [] (s6); (repeat' (first | refine G ?_ | refine AW.ret ?_ | (refine GC ?_ ?_ <;> intro h <;> (try simp only [hsB] at h) <;> try (exfalso; first | omega | contradiction)) | (refine GL ?_ ?_ <;> intro h <;> (try simp only [Bool.not_true, Bool.not_false] at h) <;> (try simp only [h]) <;> (try simp only [hsB] at h) <;> try (exfalso; first | omega | contradiction)) | fail)); all_goals clear kxs kk1 kk2 kk3 kk4 kk5 kk6)
  all_goals first | ((all_goals first | exact RetQ.fr 0 | exact RetQ.fn 0 | fail); done) | (exfalso; omega) | (exfalso; simp_all; done)
def Mg.great (m : Mg) : Bool := m.obj.great || m.old.great || Vec.great m.ctx || Prs.great m.meta_ || m.page.great || Ring.great m.ring || decide (200 < m.key.length) || decide (200 < m.val.length) || decide (200 < m.pre.length) || decide (200 < m.txt.length)
end Go.AW
/-
  old objects that are alike: the program's and the document's.
-/
namespace Go.AW
open Go Go.Proofs
set_option maxHeartbeats 2000000
set_option maxRecDepth 10000
set_option linter.unusedSimpArgs false
set_option linter.unusedVariables false
attribute [local irreducible] thenQ blockQ RetQ AL AW AC AOp

end Go.AW
/-
  Row 17: the laws.
-/
namespace Go.AW
open Go Go.Proofs Go.RowKit
set_option maxHeartbeats 2000000
set_option maxRecDepth 10000
set_option linter.unusedSimpArgs false
set_option linter.unusedVariables false
attribute [local irreducible] thenQ blockQ RetQ AL AW AC AOp

end Go.AW
/-
  Row 22: the laws about texts.
-/
namespace Go.AW
open Go Go.Proofs Go.RowKit
set_option maxHeartbeats 4000000
set_option maxRecDepth 10000
set_option linter.unusedSimpArgs false
set_option linter.unusedVariables false
attribute [local irreducible] thenQ blockQ RetQ AL AW AC AOp

theorem Ring.fits_nil : Ring.fits [] := ⟨by decide, fun x hx => (List.not_mem_nil hx).elim⟩
end Go.AW
