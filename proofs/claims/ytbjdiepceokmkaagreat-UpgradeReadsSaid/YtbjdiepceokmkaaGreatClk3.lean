/-
  clocks that are read: the document's.
-/
import Derived.Test.YtbjdiepceokmkaaGreatClk2
namespace Go.AW
open Go Go.Proofs
set_option maxHeartbeats 2000000
set_option maxRecDepth 10000
set_option linter.unusedSimpArgs false
set_option linter.unusedVariables false
attribute [local irreducible] thenQ blockQ RetQ AL AW AC AOp

theorem Cu.vgo_err : ∀ (k i n : Nat) (c : Cu), c.e = 0 → (Cu.vgo k i n c).2.e ≠ 0 → (Cu.vgo k i n c).1 = 0
  | 0, i, n, c, hc, h => rfl
  | k + 1, i, n, c, hc, h => by
    unfold Cu.vgo at h ⊢
    split
    · rfl
    · rename_i b r hd
      rw [hd] at h
      simp only at h
      split
      · rfl
      split
      · rfl
      split
      · rename_i h1 h2 h3
        rw [if_neg h1, if_neg h2, if_pos h3] at h
        exact absurd hc h
      · rename_i h1 h2 h3
        rw [if_neg h1, if_neg h2, if_neg h3] at h
        exact Cu.vgo_err k _ _ _ hc h
theorem Cu.vtake_err {c : Cu} (h : c.vtake.2.e ≠ 0) : c.vtake.1 = 0 := by
  unfold Cu.vtake at h ⊢
  split
  · rfl
  · rename_i hc
    rw [if_neg hc] at h
    exact Cu.vgo_err _ _ _ _ (by simpa using hc) h
theorem Cu.bytes_err {c : Cu} {n : Int} (h : (c.bytes n).2.e ≠ 0) : (c.bytes n).1 = [] := by
  unfold Cu.bytes at h ⊢
  split
  · rfl
  · rename_i h1
    rw [if_neg h1] at h
    split
    · rfl
    · rename_i h2
      rw [if_neg h2] at h
      split
      · rfl
      · rename_i h3
        rw [if_neg h3] at h
        exact absurd (by simpa using h1) h
theorem Cu.blob_err {c : Cu} {m : Int} (h : (c.blob m).2.e ≠ 0) : (c.blob m).1 = [] := by
  unfold Cu.blob at h ⊢
  exact Cu.bytes_err h
theorem Cu.flag_err {c : Cu} (h : c.flag.2.e ≠ 0) : c.flag.1 = false := by
  unfold Cu.flag at h ⊢
  simp only at h ⊢
  have hb : c.byte = (((c.bytes 1).1.getD 0 0).toNat, (c.bytes 1).2) := by unfold Cu.byte; rfl
  rw [hb] at h ⊢
  simp only at h ⊢
  by_cases h1 : 1 < ((c.bytes 1).1.getD 0 0).toNat
  · clear h
    exact decide_eq_false (by omega)
  · rw [if_neg h1] at h
    rw [Cu.bytes_err h]
    simp
theorem Cu.dot_bad {v : Vec} {c c1 q : Cu} {t : List UInt8} (hb : c.blob 32 = (t, c1)) (hq : (if t = [] then c1.fail 14 else c1) = q) (he : q.e ≠ 0) : c.dot v = ((t, 0), q) := by
  have hv : q.vtake = (0, q) := Prod.ext (Cu.vtake_err (by rw [trip_v.stuck q he]; exact he)) (trip_v.stuck q he)
  rw [dot_eq hb hq hv, if_pos rfl, Cu.fail_stuck he]

theorem ref13_Take (c : Cu) (h : c.Ok) : AC Tryz.prog 119 [.p 0 0] [Cu.ro c] fun x σ => x = ckV c.clk.1 ∧ σ = [Cu.ro c.clk.2] := by
  refine AC.walk Tryz.func119 rfl (by decide) (of_decide_eq_true rfl) ?_
  have hvl := Cu.vec_len c
  have hvok := Cu.vec_ok h
  cases h1 : c.vec with
  | mk v c1 =>
  rw [h1] at hvl hvok
  have h1' : Cu.vec ⟨c.s, c.a, c.e⟩ = (v, c1) := h1
  have hfok := Cu.flag_ok hvok
  simp only at hvl hfok hvok
  by_cases he1 : c1.e = 0
  case neg =>
    have h2 : c1.flag = (false, c1) := Prod.ext (Cu.flag_err (by rw [trip_flag.stuck c1 he1]; exact he1)) (trip_flag.stuck c1 he1)
    rw [clk_eq h1 h2 (d := ([], 0)) (c3 := c1) rfl, if_pos he1]
    focus (have kxs := h1'; have kk1 := uN [0] (ref11_Take c.s c.a c.e h); (repeat' (first | (refine ADr.nil ?_; try clear hgv) | refine GO ?_ | refine AW.ret ?_ | (refine GC ?_ ?_ <;> intro h <;> (try simp only [hsB] at h) <;> try (exfalso; first | omega | contradiction)) | (refine GD ?_ ?_ <;> intro h <;> (try intro hgv) <;> (try simp only [Bool.not_true, Bool.not_false] at h) <;> (try simp only [h]) <;> (try simp only [hsB] at h) <;> try (exfalso; first | omega | contradiction)) | (refine GL ?_ ?_ <;> intro h <;> (try simp only [Bool.not_true, Bool.not_false] at h) <;> (try simp only [h]) <;> (try simp only [hsB] at h) <;> try (exfalso; first | omega | contradiction)) | fail)); all_goals clear kxs kk1)
    all_goals first | (((all_goals first | refine RetQ.r 1 rfl (Nat.le_of_ble_eq_true rfl) rfl (by first | rfl | (simp only [go_sem, ↓reduceIte, Nat.reduceLT, Nat.lt_irrefl])) ⟨?_, ?_⟩ | refine RetQ.n 1 rfl (Nat.le_of_ble_eq_true rfl) rfl (by first | rfl | (simp only [go_sem, ↓reduceIte, Nat.reduceLT, Nat.lt_irrefl])) ⟨?_, ?_⟩); (all_goals first | rfl | (simp [ck0, *]; done) | ((simp only [go_sem, ↓reduceIte, Nat.reduceLT, ck0]; (repeat' split)) <;> first | rfl | (exfalso; omega) | (simp_all; done) | (simp_all; omega)))); done) | (exfalso; simp_all; done)
  have hfe := Cu.flag_err (c := c1)
  cases h2 : c1.flag with
  | mk f c2 =>
  rw [h2] at hfok hfe
  simp only at hfok hfe
  have h2' : Cu.flag ⟨c1.s, c1.a, c1.e⟩ = (f, c2) := h2
  by_cases he2 : c2.e = 0
  case neg =>
    have hf := hfe he2
    subst hf
    rw [clk_eq h1 h2 (d := ([], 0)) (c3 := c2) rfl, if_pos he2]
    focus (have kxs := And.intro h1' h2'; have kk1 := uN [0] (ref11_Take c.s c.a c.e h); have kk2 := uN [0] (ref06_Flag c1.s c1.a c1.e hvok); (repeat' (first | (refine ADr.nil ?_; try clear hgv) | refine GO ?_ | refine AW.ret ?_ | (refine GC ?_ ?_ <;> intro h <;> (try simp only [hsB] at h) <;> try (exfalso; first | omega | contradiction)) | (refine GD ?_ ?_ <;> intro h <;> (try intro hgv) <;> (try simp only [Bool.not_true, Bool.not_false] at h) <;> (try simp only [h]) <;> (try simp only [hsB] at h) <;> try (exfalso; first | omega | contradiction)) | (refine GL ?_ ?_ <;> intro h <;> (try simp only [Bool.not_true, Bool.not_false] at h) <;> (try simp only [h]) <;> (try simp only [hsB] at h) <;> try (exfalso; first | omega | contradiction)) | fail)); all_goals clear kxs kk1 kk2)
    all_goals first | (((all_goals first | refine RetQ.r 1 rfl (Nat.le_of_ble_eq_true rfl) rfl (by first | rfl | (simp only [go_sem, ↓reduceIte, Nat.reduceLT, Nat.lt_irrefl])) ⟨?_, ?_⟩ | refine RetQ.n 1 rfl (Nat.le_of_ble_eq_true rfl) rfl (by first | rfl | (simp only [go_sem, ↓reduceIte, Nat.reduceLT, Nat.lt_irrefl])) ⟨?_, ?_⟩); (all_goals first | rfl | (simp [ck0, *]; done) | ((simp only [go_sem, ↓reduceIte, Nat.reduceLT, ck0]; (repeat' split)) <;> first | rfl | (exfalso; omega) | (simp_all; done) | (simp_all; omega)))); done) | (exfalso; simp_all; done)
  cases f with
  | false =>
    rw [clk_eq h1 h2 (d := ([], 0)) (c3 := c2) rfl, if_neg (by simpa using he2)]
    focus (have kxs := And.intro h1' h2'; have kk1 := uN [0] (ref11_Take c.s c.a c.e h); have kk2 := uN [0] (ref06_Flag c1.s c1.a c1.e hvok); (repeat' (first | (refine ADr.nil ?_; try clear hgv) | refine GO ?_ | refine AW.ret ?_ | (refine GC ?_ ?_ <;> intro h <;> (try simp only [hsB] at h) <;> try (exfalso; first | omega | contradiction)) | (refine GD ?_ ?_ <;> intro h <;> (try intro hgv) <;> (try simp only [Bool.not_true, Bool.not_false] at h) <;> (try simp only [h]) <;> (try simp only [hsB] at h) <;> try (exfalso; first | omega | contradiction)) | (refine GL ?_ ?_ <;> intro h <;> (try simp only [Bool.not_true, Bool.not_false] at h) <;> (try simp only [h]) <;> (try simp only [hsB] at h) <;> try (exfalso; first | omega | contradiction)) | fail)); all_goals clear kxs kk1 kk2)
    all_goals first | ((all_goals first | exact RetQ.fr 1 | exact RetQ.fn 1 | fail); done) | (exfalso; simp_all; done)
  | true =>
  have hbok := Cu.blob_ok (max := 32) hfok
  cases hb : c2.blob 32 with
  | mk t c3 =>
  rw [hb] at hbok
  simp only at hbok
  have hb' : Cu.blob ⟨c2.s, c2.a, c2.e⟩ 32 = (t, c3) := hb
  have hte : t = [] ↔ t.length = 0 := by simp
  by_cases he3 : c3.e = 0
  case neg =>
    have ht : t = [] := by have := Cu.blob_err (c := c2) (m := 32); rw [hb] at this; exact this he3
    have hd := Cu.dot_bad (v := v) (q := c3) hb (by rw [if_pos ht]; exact Cu.fail_stuck he3 14) he3
    rw [clk_eq h1 h2 hd, if_pos he3]
    focus (have kxs := And.intro h1' (And.intro h2' hb'); have kk1 := uN [0] (ref11_Take c.s c.a c.e h); have kk2 := uN [0] (ref06_Flag c1.s c1.a c1.e hvok); have kk3 := uN [0] (ref06_Take c2.s c2.a c2.e 32 hfok (by decide)); (repeat' (first | (refine ADr.nil ?_; try clear hgv) | refine GO ?_ | refine AW.ret ?_ | (refine GC ?_ ?_ <;> intro h <;> (try simp only [hsB] at h) <;> try (exfalso; first | omega | contradiction)) | (refine GD ?_ ?_ <;> intro h <;> (try intro hgv) <;> (try simp only [Bool.not_true, Bool.not_false] at h) <;> (try simp only [h]) <;> (try simp only [hsB] at h) <;> try (exfalso; first | omega | contradiction)) | (refine GL ?_ ?_ <;> intro h <;> (try simp only [Bool.not_true, Bool.not_false] at h) <;> (try simp only [h]) <;> (try simp only [hsB] at h) <;> try (exfalso; first | omega | contradiction)) | fail)); all_goals clear kxs kk1 kk2 kk3)
    all_goals first | (((all_goals first | refine RetQ.r 1 rfl (Nat.le_of_ble_eq_true rfl) rfl (by first | rfl | (simp only [go_sem, ↓reduceIte, Nat.reduceLT, Nat.lt_irrefl])) ⟨?_, ?_⟩ | refine RetQ.n 1 rfl (Nat.le_of_ble_eq_true rfl) rfl (by first | rfl | (simp only [go_sem, ↓reduceIte, Nat.reduceLT, Nat.lt_irrefl])) ⟨?_, ?_⟩); (all_goals first | rfl | (simp [ck0, *]; done) | ((simp only [go_sem, ↓reduceIte, Nat.reduceLT, ck0]; (repeat' split)) <;> first | rfl | (exfalso; omega) | (simp_all; done) | (simp_all; omega)))); done) | (exfalso; simp_all; done)
  by_cases ht : t = []
  · have hd := Cu.dot_bad (v := v) (q := c3.fail 14) hb (if_pos ht) (Cu.fail_e (by decide))
    rw [clk_eq h1 h2 hd, if_pos (Cu.fail_e (by decide)), Cu.fail_ok0 he3]
    subst ht
    focus (have kxs := And.intro h1' (And.intro h2' hb'); have kk1 := uN [0] (ref11_Take c.s c.a c.e h); have kk2 := uN [0] (ref06_Flag c1.s c1.a c1.e hvok); have kk3 := uN [0] (ref06_Take c2.s c2.a c2.e 32 hfok (by decide)); (repeat' (first | (refine ADr.nil ?_; try clear hgv) | refine GO ?_ | refine AW.ret ?_ | (refine GC ?_ ?_ <;> intro h <;> (try simp only [hsB] at h) <;> try (exfalso; first | omega | contradiction)) | (refine GD ?_ ?_ <;> intro h <;> (try intro hgv) <;> (try simp only [Bool.not_true, Bool.not_false] at h) <;> (try simp only [h]) <;> (try simp only [hsB] at h) <;> try (exfalso; first | omega | contradiction)) | (refine GL ?_ ?_ <;> intro h <;> (try simp only [Bool.not_true, Bool.not_false] at h) <;> (try simp only [h]) <;> (try simp only [hsB] at h) <;> try (exfalso; first | omega | contradiction)) | fail)); all_goals clear kxs kk1 kk2 kk3)
    all_goals first | (((all_goals first | refine RetQ.r 1 rfl (Nat.le_of_ble_eq_true rfl) rfl (by first | rfl | (simp only [go_sem, ↓reduceIte, Nat.reduceLT, Nat.lt_irrefl])) ⟨?_, ?_⟩ | refine RetQ.n 1 rfl (Nat.le_of_ble_eq_true rfl) rfl (by first | rfl | (simp only [go_sem, ↓reduceIte, Nat.reduceLT, Nat.lt_irrefl])) ⟨?_, ?_⟩); (all_goals first | rfl | (simp [ck0, *]; done) | ((simp only [go_sem, ↓reduceIte, Nat.reduceLT, ck0]; (repeat' split)) <;> first | rfl | (exfalso; omega) | (simp_all; done) | (simp_all; omega)))); done) | (exfalso; simp_all; done)
  have ht0 : t.length ≠ 0 := fun e => ht (hte.2 e)
  have hve := Cu.vtake_err (c := c3)
  cases hv : c3.vtake with
  | mk n c4 =>
  rw [hv] at hve
  simp only at hve
  have hv' : Cu.vtake ⟨c3.s, c3.a, c3.e⟩ = (n, c4) := hv
  have hdq := dot_eq (v := v) hb (if_neg ht) hv
  by_cases he4 : c4.e = 0
  case neg =>
    have hn := hve he4
    rw [if_pos hn, Cu.fail_stuck he4] at hdq
    rw [clk_eq h1 h2 hdq, if_pos he4]
    focus (have kxs := And.intro h1' (And.intro h2' (And.intro hb' hv')); have kk1 := uN [0] (ref11_Take c.s c.a c.e h); have kk2 := uN [0] (ref06_Flag c1.s c1.a c1.e hvok); have kk3 := uN [0] (ref06_Take c2.s c2.a c2.e 32 hfok (by decide)); have kk4 := uN [0] (ref03_Take c3.s c3.a c3.e hbok); (repeat' (first | (refine ADr.nil ?_; try clear hgv) | refine GO ?_ | refine AW.ret ?_ | (refine GC ?_ ?_ <;> intro h <;> (try simp only [hsB] at h) <;> try (exfalso; first | omega | contradiction)) | (refine GD ?_ ?_ <;> intro h <;> (try intro hgv) <;> (try simp only [Bool.not_true, Bool.not_false] at h) <;> (try simp only [h]) <;> (try simp only [hsB] at h) <;> try (exfalso; first | omega | contradiction)) | (refine GL ?_ ?_ <;> intro h <;> (try simp only [Bool.not_true, Bool.not_false] at h) <;> (try simp only [h]) <;> (try simp only [hsB] at h) <;> try (exfalso; first | omega | contradiction)) | fail)); all_goals clear kxs kk1 kk2 kk3 kk4)
    all_goals first | (((all_goals first | refine RetQ.r 1 rfl (Nat.le_of_ble_eq_true rfl) rfl (by first | rfl | (simp only [go_sem, ↓reduceIte, Nat.reduceLT, Nat.lt_irrefl])) ⟨?_, ?_⟩ | refine RetQ.n 1 rfl (Nat.le_of_ble_eq_true rfl) rfl (by first | rfl | (simp only [go_sem, ↓reduceIte, Nat.reduceLT, Nat.lt_irrefl])) ⟨?_, ?_⟩); (all_goals first | rfl | (simp [ck0, *]; done) | ((simp only [go_sem, ↓reduceIte, Nat.reduceLT, ck0]; (repeat' split)) <;> first | rfl | (exfalso; omega) | (simp_all; done) | (simp_all; omega)))); done) | (exfalso; simp_all; done)
  by_cases hn : n = 0
  · rw [if_pos hn] at hdq
    rw [clk_eq h1 h2 hdq, if_pos (Cu.fail_e (by decide)), Cu.fail_ok0 he4]
    focus (have kxs := And.intro h1' (And.intro h2' (And.intro hb' hv')); have kk1 := uN [0] (ref11_Take c.s c.a c.e h); have kk2 := uN [0] (ref06_Flag c1.s c1.a c1.e hvok); have kk3 := uN [0] (ref06_Take c2.s c2.a c2.e 32 hfok (by decide)); have kk4 := uN [0] (ref03_Take c3.s c3.a c3.e hbok); (repeat' (first | (refine ADr.nil ?_; try clear hgv) | refine GO ?_ | refine AW.ret ?_ | (refine GC ?_ ?_ <;> intro h <;> (try simp only [hsB] at h) <;> try (exfalso; first | omega | contradiction)) | (refine GD ?_ ?_ <;> intro h <;> (try intro hgv) <;> (try simp only [Bool.not_true, Bool.not_false] at h) <;> (try simp only [h]) <;> (try simp only [hsB] at h) <;> try (exfalso; first | omega | contradiction)) | (refine GL ?_ ?_ <;> intro h <;> (try simp only [Bool.not_true, Bool.not_false] at h) <;> (try simp only [h]) <;> (try simp only [hsB] at h) <;> try (exfalso; first | omega | contradiction)) | fail)); all_goals clear kxs kk1 kk2 kk3 kk4)
    all_goals first | (((all_goals first | refine RetQ.r 1 rfl (Nat.le_of_ble_eq_true rfl) rfl (by first | rfl | (simp only [go_sem, ↓reduceIte, Nat.reduceLT, Nat.lt_irrefl])) ⟨?_, ?_⟩ | refine RetQ.n 1 rfl (Nat.le_of_ble_eq_true rfl) rfl (by first | rfl | (simp only [go_sem, ↓reduceIte, Nat.reduceLT, Nat.lt_irrefl])) ⟨?_, ?_⟩); (all_goals first | rfl | (simp [ck0, *]; done) | ((simp only [go_sem, ↓reduceIte, Nat.reduceLT, ck0]; (repeat' split)) <;> first | rfl | (exfalso; omega) | (simp_all; done) | (simp_all; omega)))); done) | (exfalso; simp_all; done)
  rw [if_neg hn] at hdq
  by_cases hl : n ≤ v.count t
  · rw [if_pos hl] at hdq
    rw [clk_eq h1 h2 hdq, if_pos (Cu.fail_e (by decide)), Cu.fail_ok0 he4]
    focus (have kxs := And.intro h1' (And.intro h2' (And.intro hb' hv')); have kk1 := uN [0] (ref11_Take c.s c.a c.e h); have kk2 := uN [0] (ref06_Flag c1.s c1.a c1.e hvok); have kk3 := uN [0] (ref06_Take c2.s c2.a c2.e 32 hfok (by decide)); have kk4 := uN [0] (ref03_Take c3.s c3.a c3.e hbok); have kk5 := uN [] (ref10_Count v t (by omega)); (repeat' (first | (refine ADr.nil ?_; try clear hgv) | refine GO ?_ | refine AW.ret ?_ | (refine GC ?_ ?_ <;> intro h <;> (try simp only [hsB] at h) <;> try (exfalso; first | omega | contradiction)) | (refine GD ?_ ?_ <;> intro h <;> (try intro hgv) <;> (try simp only [Bool.not_true, Bool.not_false] at h) <;> (try simp only [h]) <;> (try simp only [hsB] at h) <;> try (exfalso; first | omega | contradiction)) | (refine GL ?_ ?_ <;> intro h <;> (try simp only [Bool.not_true, Bool.not_false] at h) <;> (try simp only [h]) <;> (try simp only [hsB] at h) <;> try (exfalso; first | omega | contradiction)) | fail)); all_goals clear kxs kk1 kk2 kk3 kk4 kk5)
    all_goals first | (((all_goals first | refine RetQ.r 1 rfl (Nat.le_of_ble_eq_true rfl) rfl (by first | rfl | (simp only [go_sem, ↓reduceIte, Nat.reduceLT, Nat.lt_irrefl])) ⟨?_, ?_⟩ | refine RetQ.n 1 rfl (Nat.le_of_ble_eq_true rfl) rfl (by first | rfl | (simp only [go_sem, ↓reduceIte, Nat.reduceLT, Nat.lt_irrefl])) ⟨?_, ?_⟩); (all_goals first | rfl | (simp [ck0, *]; done) | ((simp only [go_sem, ↓reduceIte, Nat.reduceLT, ck0]; (repeat' split)) <;> first | rfl | (exfalso; omega) | (simp_all; done) | (simp_all; omega)))); done) | (exfalso; simp_all; done)
  · rw [if_neg hl] at hdq
    rw [clk_eq h1 h2 hdq, if_neg (by simpa using he4)]
    focus (have kxs := And.intro h1' (And.intro h2' (And.intro hb' hv')); have kk1 := uN [0] (ref11_Take c.s c.a c.e h); have kk2 := uN [0] (ref06_Flag c1.s c1.a c1.e hvok); have kk3 := uN [0] (ref06_Take c2.s c2.a c2.e 32 hfok (by decide)); have kk4 := uN [0] (ref03_Take c3.s c3.a c3.e hbok); have kk5 := uN [] (ref10_Count v t (by omega)); (repeat' (first | (refine ADr.nil ?_; try clear hgv) | refine GO ?_ | refine AW.ret ?_ | (refine GC ?_ ?_ <;> intro h <;> (try simp only [hsB] at h) <;> try (exfalso; first | omega | contradiction)) | (refine GD ?_ ?_ <;> intro h <;> (try intro hgv) <;> (try simp only [Bool.not_true, Bool.not_false] at h) <;> (try simp only [h]) <;> (try simp only [hsB] at h) <;> try (exfalso; first | omega | contradiction)) | (refine GL ?_ ?_ <;> intro h <;> (try simp only [Bool.not_true, Bool.not_false] at h) <;> (try simp only [h]) <;> (try simp only [hsB] at h) <;> try (exfalso; first | omega | contradiction)) | fail)); all_goals clear kxs kk1 kk2 kk3 kk4 kk5)
    all_goals first | ((all_goals first | exact RetQ.fr 1 | exact RetQ.fn 1 | fail); done) | (exfalso; simp_all; done)
end Go.AW
