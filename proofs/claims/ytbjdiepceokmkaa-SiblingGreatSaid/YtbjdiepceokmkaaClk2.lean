/-
  clocks that are read: the program's and the document's.
-/
import Derived.Test.YtbjdiepceokmkaaClk1
namespace Go.AW
open Go Go.Proofs
set_option maxHeartbeats 2000000
set_option maxRecDepth 10000
set_option linter.unusedSimpArgs false
set_option linter.unusedVariables false
attribute [local irreducible] thenQ blockQ RetQ AL AW AC AOp

theorem gd_yes (f : Int) (c : Cu) : gd true f c = c := rfl
theorem gd_no (f : Int) (c : Cu) : gd false f c = c.fail f := rfl
theorem dot_eq {v : Vec} {c c1 q c2 : Cu} {t : List UInt8} {n : Nat} (hb : c.blob 32 = (t, c1)) (hq : (if t = [] then c1.fail 14 else c1) = q) (hv : q.vtake = (n, c2)) :
    c.dot v = ((t, n), if n = 0 then c2.fail 7 else if n ≤ v.count t then c2.fail 15 else c2) := by
  have h1 : c.dact = (t, q) := by
    unfold Cu.dact
    rw [hb]
    simp only
    rw [← hq]
    by_cases ht : t = []
    · rw [if_pos ht]; subst ht; rfl
    · have : decide (t ≠ []) = true := by simpa using ht
      rw [if_neg ht, this]; rfl
  unfold Cu.dot rseq
  rw [h1]
  unfold Cu.dnum
  rw [hv]
  simp only
  by_cases hn : n = 0
  · subst hn
    have h2 : decide ((0 : Nat) ≠ 0) = false := by simp
    rw [h2, gd_no, if_pos rfl, gd_stuck (Cu.fail_e (by decide))]
  · have h2 : decide (n ≠ 0) = true := by simpa using hn
    rw [h2, gd_yes, if_neg hn]
    by_cases hl : n ≤ v.count t
    · have h3 : decide (v.count t < n) = false := by simp; omega
      rw [h3, gd_no, if_pos hl]
    · have h3 : decide (v.count t < n) = true := by simp; omega
      rw [h3, gd_yes, if_neg hl]
theorem clk_eq {c c1 c2 c3 : Cu} {v : Vec} {f : Bool} {d : En} (h1 : c.vec = (v, c1)) (h2 : c1.flag = (f, c2)) (h3 : Cu.dotq v f c2 = (d, c3)) : c.clk = (if c3.e ≠ 0 then ck0 else ⟨v, f, d⟩, c3) := by
  have : c.clk0 = ((v, (f, d)), c3) := by
    unfold Cu.clk0 rseq
    rw [h1]
    simp only
    rw [h2]
    simp only
    rw [h3]
  unfold Cu.clk
  rw [this]

theorem dcode_dot (c : Cu) (h : c.Ok) (v : Vec) (hv : v.length ≤ 64) : AC Try.prog 122 [.p 0 0, .d (.l v.length (vecD v))] [Cu.ob c] fun x σ => x = .a [sv (bs (c.dot v).1.1), iv .u64 (c.dot v).1.2] ∧ σ = [Cu.ob (c.dot v).2] := by
  refine AC.walk Try.func122 rfl (by decide) (of_decide_eq_true rfl) ?_
  have hbok := Cu.blob_ok (max := 32) h
  cases hb : c.blob 32 with
  | mk t c1 =>
  rw [hb] at hbok
  have hb' : Cu.blob ⟨c.s, c.a, c.e⟩ 32 = (t, c1) := hb
  by_cases ht : t = []
  · subst ht
    have hqok : (c1.fail 14).Ok := hbok
    cases hq : (c1.fail 14).vtake with
    | mk n c2 =>
    have hq' : Cu.vtake ⟨(c1.fail 14).s, (c1.fail 14).a, (c1.fail 14).e⟩ = (n, c2) := hq
    rw [dot_eq hb (if_pos rfl) hq]
    by_cases hn : n = 0
    · rw [if_pos hn]
      focus (have kxs := And.intro hb' hq'; have kk1 := uN [0] (blob_Take c.s c.a c.e 32 h (by decide)); have kk2 := uN [0] (varint_Take (c1.fail 14).s (c1.fail 14).a (c1.fail 14).e hqok); have kk3 := uN [0] (cursor_Fail c1.s c1.a c1.e 14); have kk4 := uN [0] (cursor_Fail c2.s c2.a c2.e 7); (repeat' (first | (refine ADr.nil ?_; try clear hgv) | refine GO ?_ | refine AW.ret ?_ | (refine GC ?_ ?_ <;> intro h <;> (try simp only [hsB] at h) <;> try (exfalso; first | omega | contradiction)) | (refine GD ?_ ?_ <;> intro h <;> (try intro hgv) <;> (try simp only [Bool.not_true, Bool.not_false] at h) <;> (try simp only [h]) <;> (try simp only [hsB] at h) <;> try (exfalso; first | omega | contradiction)) | (refine GL ?_ ?_ <;> intro h <;> (try simp only [Bool.not_true, Bool.not_false] at h) <;> (try simp only [h]) <;> (try simp only [hsB] at h) <;> try (exfalso; first | omega | contradiction)) | fail)); all_goals clear kxs kk1 kk2 kk3 kk4)
      all_goals first | ((all_goals first | exact RetQ.fr 1 | exact RetQ.fn 1 | fail); done) | (exfalso; simp_all; done)
    rw [if_neg hn]
    by_cases hl : n ≤ v.count []
    · rw [if_pos hl]
      focus (have kxs := And.intro hb' hq'; have kk1 := uN [0] (blob_Take c.s c.a c.e 32 h (by decide)); have kk2 := uN [0] (varint_Take (c1.fail 14).s (c1.fail 14).a (c1.fail 14).e hqok); have kk3 := uN [0] (cursor_Fail c1.s c1.a c1.e 14); have kk4 := uN [0] (cursor_Fail c2.s c2.a c2.e 15); have kk5 := uN [] (vector_Count v [] (by omega)); (repeat' (first | (refine ADr.nil ?_; try clear hgv) | refine GO ?_ | refine AW.ret ?_ | (refine GC ?_ ?_ <;> intro h <;> (try simp only [hsB] at h) <;> try (exfalso; first | omega | contradiction)) | (refine GD ?_ ?_ <;> intro h <;> (try intro hgv) <;> (try simp only [Bool.not_true, Bool.not_false] at h) <;> (try simp only [h]) <;> (try simp only [hsB] at h) <;> try (exfalso; first | omega | contradiction)) | (refine GL ?_ ?_ <;> intro h <;> (try simp only [Bool.not_true, Bool.not_false] at h) <;> (try simp only [h]) <;> (try simp only [hsB] at h) <;> try (exfalso; first | omega | contradiction)) | fail)); all_goals clear kxs kk1 kk2 kk3 kk4 kk5)
      all_goals first | ((all_goals first | exact RetQ.fr 1 | exact RetQ.fn 1 | fail); done) | (exfalso; simp_all; done)
    · rw [if_neg hl]
      focus (have kxs := And.intro hb' hq'; have kk1 := uN [0] (blob_Take c.s c.a c.e 32 h (by decide)); have kk2 := uN [0] (varint_Take (c1.fail 14).s (c1.fail 14).a (c1.fail 14).e hqok); have kk3 := uN [0] (cursor_Fail c1.s c1.a c1.e 14); have kk4 := uN [] (vector_Count v [] (by omega)); (repeat' (first | (refine ADr.nil ?_; try clear hgv) | refine GO ?_ | refine AW.ret ?_ | (refine GC ?_ ?_ <;> intro h <;> (try simp only [hsB] at h) <;> try (exfalso; first | omega | contradiction)) | (refine GD ?_ ?_ <;> intro h <;> (try intro hgv) <;> (try simp only [Bool.not_true, Bool.not_false] at h) <;> (try simp only [h]) <;> (try simp only [hsB] at h) <;> try (exfalso; first | omega | contradiction)) | (refine GL ?_ ?_ <;> intro h <;> (try simp only [Bool.not_true, Bool.not_false] at h) <;> (try simp only [h]) <;> (try simp only [hsB] at h) <;> try (exfalso; first | omega | contradiction)) | fail)); all_goals clear kxs kk1 kk2 kk3 kk4)
      all_goals first | ((all_goals first | exact RetQ.fr 1 | exact RetQ.fn 1 | fail); done) | (exfalso; simp_all; done)
  · cases hq : c1.vtake with
    | mk n c2 =>
    have hq' : Cu.vtake ⟨c1.s, c1.a, c1.e⟩ = (n, c2) := hq
    rw [dot_eq hb (if_neg ht) hq]
    by_cases hn : n = 0
    · rw [if_pos hn]
      focus (have kxs := And.intro hb' hq'; have kk1 := uN [0] (blob_Take c.s c.a c.e 32 h (by decide)); have kk2 := uN [0] (varint_Take c1.s c1.a c1.e hbok); have kk3 := uN [0] (cursor_Fail c2.s c2.a c2.e 7); (repeat' (first | (refine ADr.nil ?_; try clear hgv) | refine GO ?_ | refine AW.ret ?_ | (refine GC ?_ ?_ <;> intro h <;> (try simp only [hsB] at h) <;> try (exfalso; first | omega | contradiction)) | (refine GD ?_ ?_ <;> intro h <;> (try intro hgv) <;> (try simp only [Bool.not_true, Bool.not_false] at h) <;> (try simp only [h]) <;> (try simp only [hsB] at h) <;> try (exfalso; first | omega | contradiction)) | (refine GL ?_ ?_ <;> intro h <;> (try simp only [Bool.not_true, Bool.not_false] at h) <;> (try simp only [h]) <;> (try simp only [hsB] at h) <;> try (exfalso; first | omega | contradiction)) | fail)); all_goals clear kxs kk1 kk2 kk3)
      all_goals first | ((all_goals first | exact RetQ.fr 1 | exact RetQ.fn 1 | fail); done) | (exfalso; simp_all; done)
    rw [if_neg hn]
    by_cases hl : n ≤ v.count t
    · rw [if_pos hl]
      focus (have kxs := And.intro hb' hq'; have kk1 := uN [0] (blob_Take c.s c.a c.e 32 h (by decide)); have kk2 := uN [0] (varint_Take c1.s c1.a c1.e hbok); have kk3 := uN [0] (cursor_Fail c2.s c2.a c2.e 15); have kk4 := uN [] (vector_Count v t (by omega)); (repeat' (first | (refine ADr.nil ?_; try clear hgv) | refine GO ?_ | refine AW.ret ?_ | (refine GC ?_ ?_ <;> intro h <;> (try simp only [hsB] at h) <;> try (exfalso; first | omega | contradiction)) | (refine GD ?_ ?_ <;> intro h <;> (try intro hgv) <;> (try simp only [Bool.not_true, Bool.not_false] at h) <;> (try simp only [h]) <;> (try simp only [hsB] at h) <;> try (exfalso; first | omega | contradiction)) | (refine GL ?_ ?_ <;> intro h <;> (try simp only [Bool.not_true, Bool.not_false] at h) <;> (try simp only [h]) <;> (try simp only [hsB] at h) <;> try (exfalso; first | omega | contradiction)) | fail)); all_goals clear kxs kk1 kk2 kk3 kk4)
      all_goals first | ((all_goals first | exact RetQ.fr 1 | exact RetQ.fn 1 | fail); done) | (exfalso; simp_all; done)
    · rw [if_neg hl]
      focus (have kxs := And.intro hb' hq'; have kk1 := uN [0] (blob_Take c.s c.a c.e 32 h (by decide)); have kk2 := uN [0] (varint_Take c1.s c1.a c1.e hbok); have kk3 := uN [] (vector_Count v t (by omega)); (repeat' (first | (refine ADr.nil ?_; try clear hgv) | refine GO ?_ | refine AW.ret ?_ | (refine GC ?_ ?_ <;> intro h <;> (try simp only [hsB] at h) <;> try (exfalso; first | omega | contradiction)) | (refine GD ?_ ?_ <;> intro h <;> (try intro hgv) <;> (try simp only [Bool.not_true, Bool.not_false] at h) <;> (try simp only [h]) <;> (try simp only [hsB] at h) <;> try (exfalso; first | omega | contradiction)) | (refine GL ?_ ?_ <;> intro h <;> (try simp only [Bool.not_true, Bool.not_false] at h) <;> (try simp only [h]) <;> (try simp only [hsB] at h) <;> try (exfalso; first | omega | contradiction)) | fail)); all_goals clear kxs kk1 kk2 kk3)
      all_goals first | ((all_goals first | exact RetQ.fr 1 | exact RetQ.fn 1 | fail); done) | (exfalso; simp_all; done)

theorem dcode_Take (c : Cu) (h : c.Ok) : AC Try.prog 98 [.p 0 0] [Cu.ob c] fun x σ => x = ckV c.clk.1 ∧ σ = [Cu.ob c.clk.2] := by
  refine AC.walk Try.func98 rfl (by decide) (of_decide_eq_true rfl) ?_
  have hvl := Cu.vec_len c
  have hvok := Cu.vec_ok h
  cases h1 : c.vec with
  | mk v c1 =>
  rw [h1] at hvl hvok
  have h1' : Cu.vec ⟨c.s, c.a, c.e⟩ = (v, c1) := h1
  have hfok := Cu.flag_ok hvok
  simp only at hvl hfok
  cases h2 : c1.flag with
  | mk f c2 =>
  rw [h2] at hfok
  simp only at hfok
  have h2' : Cu.flag ⟨c1.s, c1.a, c1.e⟩ = (f, c2) := h2
  cases f with
  | false =>
    rw [clk_eq h1 h2 (d := ([], 0)) (c3 := c2) rfl]
    by_cases he : c2.e = 0
    · rw [if_neg (by simpa using he)]
      focus (have kxs := And.intro h1' h2'; have kk1 := uN [0] (vcode_Take c.s c.a c.e h); have kk2 := uN [0] (blob_Flag c1.s c1.a c1.e hvok); have kk3 := uN [0] (cursor_Err c2.s c2.a c2.e); (repeat' (first | refine G ?_ | refine AW.ret ?_ | (refine GC ?_ ?_ <;> intro h <;> (try simp only [hsB] at h) <;> try (exfalso; first | omega | contradiction)) | (refine GL ?_ ?_ <;> intro h <;> (try simp only [Bool.not_true, Bool.not_false] at h) <;> (try simp only [h]) <;> (try simp only [hsB] at h) <;> try (exfalso; first | omega | contradiction)) | fail)); all_goals clear kxs kk1 kk2 kk3)
      all_goals first | ((all_goals first | exact RetQ.fr 1 | exact RetQ.fn 1 | fail); done) | (exfalso; simp_all; done)
    · rw [if_pos he]
      focus (have kxs := And.intro h1' h2'; have kk1 := uN [0] (vcode_Take c.s c.a c.e h); have kk2 := uN [0] (blob_Flag c1.s c1.a c1.e hvok); have kk3 := uN [0] (cursor_Err c2.s c2.a c2.e); (repeat' (first | refine G ?_ | refine AW.ret ?_ | (refine GC ?_ ?_ <;> intro h <;> (try simp only [hsB] at h) <;> try (exfalso; first | omega | contradiction)) | (refine GL ?_ ?_ <;> intro h <;> (try simp only [Bool.not_true, Bool.not_false] at h) <;> (try simp only [h]) <;> (try simp only [hsB] at h) <;> try (exfalso; first | omega | contradiction)) | fail)); all_goals clear kxs kk1 kk2 kk3)
      all_goals first | (((all_goals first | refine RetQ.r 1 rfl (Nat.le_of_ble_eq_true rfl) rfl (by first | rfl | (simp only [go_sem, ↓reduceIte, Nat.reduceLT, Nat.lt_irrefl])) ⟨?_, ?_⟩ | refine RetQ.n 1 rfl (Nat.le_of_ble_eq_true rfl) rfl (by first | rfl | (simp only [go_sem, ↓reduceIte, Nat.reduceLT, Nat.lt_irrefl])) ⟨?_, ?_⟩); (all_goals first | rfl | (simp [ck0, *]; done) | ((simp only [go_sem, ↓reduceIte, Nat.reduceLT, ck0]; (repeat' split)) <;> first | rfl | (exfalso; omega) | (simp_all; done) | (simp_all; omega)))); done) | (exfalso; simp_all; done)
  | true =>
    cases h3 : c2.dot v with
    | mk d c3 =>
    obtain ⟨t, n⟩ := d
    rw [clk_eq h1 h2 (d := (t, n)) (c3 := c3) h3]
    by_cases he : c3.e = 0
    · rw [if_neg (by simpa using he)]
      focus (have kxs := And.intro h1' (And.intro h2' h3); have kk1 := uN [0] (vcode_Take c.s c.a c.e h); have kk2 := uN [0] (blob_Flag c1.s c1.a c1.e hvok); have kk3 := uN [0] (dcode_dot c2 hfok v hvl); have kk4 := uN [0] (cursor_Err c3.s c3.a c3.e); (repeat' (first | refine G ?_ | refine AW.ret ?_ | (refine GC ?_ ?_ <;> intro h <;> (try simp only [hsB] at h) <;> try (exfalso; first | omega | contradiction)) | (refine GL ?_ ?_ <;> intro h <;> (try simp only [Bool.not_true, Bool.not_false] at h) <;> (try simp only [h]) <;> (try simp only [hsB] at h) <;> try (exfalso; first | omega | contradiction)) | fail)); all_goals clear kxs kk1 kk2 kk3 kk4)
      all_goals first | ((all_goals first | exact RetQ.fr 1 | exact RetQ.fn 1 | fail); done) | (exfalso; simp_all; done)
    · rw [if_pos he]
      focus (have kxs := And.intro h1' (And.intro h2' h3); have kk1 := uN [0] (vcode_Take c.s c.a c.e h); have kk2 := uN [0] (blob_Flag c1.s c1.a c1.e hvok); have kk3 := uN [0] (dcode_dot c2 hfok v hvl); have kk4 := uN [0] (cursor_Err c3.s c3.a c3.e); (repeat' (first | refine G ?_ | refine AW.ret ?_ | (refine GC ?_ ?_ <;> intro h <;> (try simp only [hsB] at h) <;> try (exfalso; first | omega | contradiction)) | (refine GL ?_ ?_ <;> intro h <;> (try simp only [Bool.not_true, Bool.not_false] at h) <;> (try simp only [h]) <;> (try simp only [hsB] at h) <;> try (exfalso; first | omega | contradiction)) | fail)); all_goals clear kxs kk1 kk2 kk3 kk4)
      all_goals first | (((all_goals first | refine RetQ.r 1 rfl (Nat.le_of_ble_eq_true rfl) rfl (by first | rfl | (simp only [go_sem, ↓reduceIte, Nat.reduceLT, Nat.lt_irrefl])) ⟨?_, ?_⟩ | refine RetQ.n 1 rfl (Nat.le_of_ble_eq_true rfl) rfl (by first | rfl | (simp only [go_sem, ↓reduceIte, Nat.reduceLT, Nat.lt_irrefl])) ⟨?_, ?_⟩); (all_goals first | rfl | (simp [ck0, *]; done) | ((simp only [go_sem, ↓reduceIte, Nat.reduceLT, ck0]; (repeat' split)) <;> first | rfl | (exfalso; omega) | (simp_all; done) | (simp_all; omega)))); done) | (exfalso; simp_all; done)
end Go.AW
