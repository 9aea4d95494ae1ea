/-
  clocks that are read: the program's and the document's.
-/
import Derived.Test.YtbedecfkincemaaGreatX08
import Derived.Test.YtbedecfkincemaaGreatX04
namespace Go.AW
open Go Go.Proofs
set_option maxHeartbeats 2000000
set_option maxRecDepth 10000
set_option linter.unusedSimpArgs false
set_option linter.unusedVariables false
attribute [local irreducible] thenQ blockQ RetQ AL AW AC AOp

theorem gd_yes (f : Int) (c : Cu) : gd true f c = c := rfl
theorem gd_no (f : Int) (c : Cu) : gd false f c = c.fail f := rfl
theorem dot_eq {v : Vec} {c c1 q c2 : Cu} {t : List UInt8} {n : Nat} (hb : c.blob 32 = (t, c1)) (hq : (if t = [] then c1.fail 14 else c1) = q) (hv : q.vtake = (n, c2)) :
    c.dot v = ((t, n), if n = 0 then c2.fail 7 else if n ≤ v.count t then c2.fail 15 else c2) := by
  have h1 : c.dact = (t, q) := by
    unfold Cu.dact
    rw [hb]
    simp only
    rw [← hq]
    by_cases ht : t = []
    · rw [if_pos ht]; subst ht; rfl
    · have : decide (t ≠ []) = true := by simpa using ht
      rw [if_neg ht, this]; rfl
  unfold Cu.dot rseq
  rw [h1]
  unfold Cu.dnum
  rw [hv]
  simp only
  by_cases hn : n = 0
  · subst hn
    have h2 : decide ((0 : Nat) ≠ 0) = false := by simp
    rw [h2, gd_no, if_pos rfl, gd_stuck (Cu.fail_e (by decide))]
  · have h2 : decide (n ≠ 0) = true := by simpa using hn
    rw [h2, gd_yes, if_neg hn]
    by_cases hl : n ≤ v.count t
    · have h3 : decide (v.count t < n) = false := by simp; omega
      rw [h3, gd_no, if_pos hl]
    · have h3 : decide (v.count t < n) = true := by simp; omega
      rw [h3, gd_yes, if_neg hl]
theorem clk_eq {c c1 c2 c3 : Cu} {v : Vec} {f : Bool} {d : En} (h1 : c.vec = (v, c1)) (h2 : c1.flag = (f, c2)) (h3 : Cu.dotq v f c2 = (d, c3)) : c.clk = (if c3.e ≠ 0 then ck0 else ⟨v, f, d⟩, c3) := by
  have : c.clk0 = ((v, (f, d)), c3) := by
    unfold Cu.clk0 rseq
    rw [h1]
    simp only
    rw [h2]
    simp only
    rw [h3]
  unfold Cu.clk
  rw [this]

theorem dcode_dot (c : Cu) (h : c.Ok) (v : Vec) (hv : v.length ≤ 64) : AC Tryz.prog 335 [.p 0 0, .d (.l v.length (vecD v))] [Cu.ob c] fun x σ => x = .a [sv (bs (c.dot v).1.1), iv .u64 (c.dot v).1.2] ∧ σ = [Cu.ob (c.dot v).2] := by
  refine AC.walk Tryz.func335 rfl (by decide) (of_decide_eq_true rfl) ?_
  have hbok := Cu.blob_ok (max := 32) h
  cases hb : c.blob 32 with
  | mk t c1 =>
  rw [hb] at hbok
  have hb' : Cu.blob ⟨c.s, c.a, c.e⟩ 32 = (t, c1) := hb
  by_cases ht : t = []
  · subst ht
    have hqok : (c1.fail 14).Ok := hbok
    cases hq : (c1.fail 14).vtake with
    | mk n c2 =>
    have hq' : Cu.vtake ⟨(c1.fail 14).s, (c1.fail 14).a, (c1.fail 14).e⟩ = (n, c2) := hq
    rw [dot_eq hb (if_pos rfl) hq]
    by_cases hn : n = 0
    · rw [if_pos hn]
      focus (have kxs := And.intro hb' hq'; have kk1 := uN [0] (blob_Take c.s c.a c.e 32 h (by decide)); have kk2 := uN [0] (varint_Take (c1.fail 14).s (c1.fail 14).a (c1.fail 14).e hqok); have kk3 := uN [0] (cursor_Fail c1.s c1.a c1.e 14); have kk4 := uN [0] (cursor_Fail c2.s c2.a c2.e 7); (repeat' (first | (refine ADr.nil ?_; try clear hgv) | refine GO ?_ | refine AW.ret ?_ | (refine GC ?_ ?_ <;> intro h <;> (try simp only [hsB] at h) <;> try exact xf) | (refine GD ?_ ?_ <;> intro h <;> (try intro hgv) <;> (try simp only [hsN] at h) <;> (try simp only [h]) <;> (try simp only [hsB] at h) <;> try exact xf) | (refine GL ?_ ?_ <;> intro h <;> (try simp only [hsN] at h) <;> (try simp only [h]) <;> (try simp only [hsB] at h) <;> try exact xf) | fail)); all_goals clear kxs kk1 kk2 kk3 kk4)
      all_goals first | exact RetQ.fr 1 | exact RetQ.fn 1 | (exfalso; simp_all; done)
    rw [if_neg hn]
    by_cases hl : n ≤ v.count []
    · rw [if_pos hl]
      focus (have kxs := And.intro hb' hq'; have kk1 := uN [0] (blob_Take c.s c.a c.e 32 h (by decide)); have kk2 := uN [0] (varint_Take (c1.fail 14).s (c1.fail 14).a (c1.fail 14).e hqok); have kk3 := uN [0] (cursor_Fail c1.s c1.a c1.e 14); have kk4 := uN [0] (cursor_Fail c2.s c2.a c2.e 15); have kk5 := uN [] (vector_Count v [] (by omega)); (repeat' (first | (refine ADr.nil ?_; try clear hgv) | refine GO ?_ | refine AW.ret ?_ | (refine GC ?_ ?_ <;> intro h <;> (try simp only [hsB] at h) <;> try exact xf) | (refine GD ?_ ?_ <;> intro h <;> (try intro hgv) <;> (try simp only [hsN] at h) <;> (try simp only [h]) <;> (try simp only [hsB] at h) <;> try exact xf) | (refine GL ?_ ?_ <;> intro h <;> (try simp only [hsN] at h) <;> (try simp only [h]) <;> (try simp only [hsB] at h) <;> try exact xf) | fail)); all_goals clear kxs kk1 kk2 kk3 kk4 kk5)
      all_goals first | exact RetQ.fr 1 | exact RetQ.fn 1 | (exfalso; simp_all; done)
    · rw [if_neg hl]
      focus (have kxs := And.intro hb' hq'; have kk1 := uN [0] (blob_Take c.s c.a c.e 32 h (by decide)); have kk2 := uN [0] (varint_Take (c1.fail 14).s (c1.fail 14).a (c1.fail 14).e hqok); have kk3 := uN [0] (cursor_Fail c1.s c1.a c1.e 14); have kk4 := uN [] (vector_Count v [] (by omega)); (repeat' (first | (refine ADr.nil ?_; try clear hgv) | refine GO ?_ | refine AW.ret ?_ | (refine GC ?_ ?_ <;> intro h <;> (try simp only [hsB] at h) <;> try exact xf) | (refine GD ?_ ?_ <;> intro h <;> (try intro hgv) <;> (try simp only [hsN] at h) <;> (try simp only [h]) <;> (try simp only [hsB] at h) <;> try exact xf) | (refine GL ?_ ?_ <;> intro h <;> (try simp only [hsN] at h) <;> (try simp only [h]) <;> (try simp only [hsB] at h) <;> try exact xf) | fail)); all_goals clear kxs kk1 kk2 kk3 kk4)
      all_goals first | exact RetQ.fr 1 | exact RetQ.fn 1 | (exfalso; simp_all; done)
  · cases hq : c1.vtake with
    | mk n c2 =>
    have hq' : Cu.vtake ⟨c1.s, c1.a, c1.e⟩ = (n, c2) := hq
    rw [dot_eq hb (if_neg ht) hq]
    by_cases hn : n = 0
    · rw [if_pos hn]
      focus (have kxs := And.intro hb' hq'; have kk1 := uN [0] (blob_Take c.s c.a c.e 32 h (by decide)); have kk2 := uN [0] (varint_Take c1.s c1.a c1.e hbok); have kk3 := uN [0] (cursor_Fail c2.s c2.a c2.e 7); (repeat' (first | (refine ADr.nil ?_; try clear hgv) | refine GO ?_ | refine AW.ret ?_ | (refine GC ?_ ?_ <;> intro h <;> (try simp only [hsB] at h) <;> try exact xf) | (refine GD ?_ ?_ <;> intro h <;> (try intro hgv) <;> (try simp only [hsN] at h) <;> (try simp only [h]) <;> (try simp only [hsB] at h) <;> try exact xf) | (refine GL ?_ ?_ <;> intro h <;> (try simp only [hsN] at h) <;> (try simp only [h]) <;> (try simp only [hsB] at h) <;> try exact xf) | fail)); all_goals clear kxs kk1 kk2 kk3)
      all_goals first | exact RetQ.fr 1 | exact RetQ.fn 1 | (exfalso; simp_all; done)
    rw [if_neg hn]
    by_cases hl : n ≤ v.count t
    · rw [if_pos hl]
      focus (have kxs := And.intro hb' hq'; have kk1 := uN [0] (blob_Take c.s c.a c.e 32 h (by decide)); have kk2 := uN [0] (varint_Take c1.s c1.a c1.e hbok); have kk3 := uN [0] (cursor_Fail c2.s c2.a c2.e 15); have kk4 := uN [] (vector_Count v t (by omega)); (repeat' (first | (refine ADr.nil ?_; try clear hgv) | refine GO ?_ | refine AW.ret ?_ | (refine GC ?_ ?_ <;> intro h <;> (try simp only [hsB] at h) <;> try exact xf) | (refine GD ?_ ?_ <;> intro h <;> (try intro hgv) <;> (try simp only [hsN] at h) <;> (try simp only [h]) <;> (try simp only [hsB] at h) <;> try exact xf) | (refine GL ?_ ?_ <;> intro h <;> (try simp only [hsN] at h) <;> (try simp only [h]) <;> (try simp only [hsB] at h) <;> try exact xf) | fail)); all_goals clear kxs kk1 kk2 kk3 kk4)
      all_goals first | exact RetQ.fr 1 | exact RetQ.fn 1 | (exfalso; simp_all; done)
    · rw [if_neg hl]
      focus (have kxs := And.intro hb' hq'; have kk1 := uN [0] (blob_Take c.s c.a c.e 32 h (by decide)); have kk2 := uN [0] (varint_Take c1.s c1.a c1.e hbok); have kk3 := uN [] (vector_Count v t (by omega)); (repeat' (first | (refine ADr.nil ?_; try clear hgv) | refine GO ?_ | refine AW.ret ?_ | (refine GC ?_ ?_ <;> intro h <;> (try simp only [hsB] at h) <;> try exact xf) | (refine GD ?_ ?_ <;> intro h <;> (try intro hgv) <;> (try simp only [hsN] at h) <;> (try simp only [h]) <;> (try simp only [hsB] at h) <;> try exact xf) | (refine GL ?_ ?_ <;> intro h <;> (try simp only [hsN] at h) <;> (try simp only [h]) <;> (try simp only [hsB] at h) <;> try exact xf) | fail)); all_goals clear kxs kk1 kk2 kk3)
      all_goals first | exact RetQ.fr 1 | exact RetQ.fn 1 | (exfalso; simp_all; done)

theorem dcode_Take (c : Cu) (h : c.Ok) : AC Tryz.prog 331 [.p 0 0] [Cu.ob c] fun x σ => x = ckV c.clk.1 ∧ σ = [Cu.ob c.clk.2] := by
  refine AC.walk Tryz.func331 rfl (by decide) (of_decide_eq_true rfl) ?_
  have hvl := Cu.vec_len c
  have hvok := Cu.vec_ok h
  cases h1 : c.vec with
  | mk v c1 =>
  rw [h1] at hvl hvok
  have h1' : Cu.vec ⟨c.s, c.a, c.e⟩ = (v, c1) := h1
  have hfok := Cu.flag_ok hvok
  simp only at hvl hfok
  cases h2 : c1.flag with
  | mk f c2 =>
  rw [h2] at hfok
  simp only at hfok
  have h2' : Cu.flag ⟨c1.s, c1.a, c1.e⟩ = (f, c2) := h2
  cases f with
  | false =>
    rw [clk_eq h1 h2 (d := ([], 0)) (c3 := c2) rfl]
    by_cases he : c2.e = 0
    · rw [if_neg (by simpa using he)]
      focus (have kxs := And.intro h1' h2'; have kk1 := uN [0] (vcode_Take c.s c.a c.e h); have kk2 := uN [0] (blob_Flag c1.s c1.a c1.e hvok); have kk3 := uN [0] (cursor_Err c2.s c2.a c2.e); (repeat' (first | refine G ?_ | refine AW.ret ?_ | (refine GC ?_ ?_ <;> intro h <;> (try simp only [hsB] at h) <;> try exact xf) | (refine GL ?_ ?_ <;> intro h <;> (try simp only [hsN] at h) <;> (try simp only [h]) <;> (try simp only [hsB] at h) <;> try exact xf) | fail)); all_goals clear kxs kk1 kk2 kk3)
      all_goals first | exact RetQ.fr 1 | exact RetQ.fn 1 | (exfalso; simp_all; done)
    · rw [if_pos he]
      focus (have kxs := And.intro h1' h2'; have kk1 := uN [0] (vcode_Take c.s c.a c.e h); have kk2 := uN [0] (blob_Flag c1.s c1.a c1.e hvok); have kk3 := uN [0] (cursor_Err c2.s c2.a c2.e); (repeat' (first | refine G ?_ | refine AW.ret ?_ | (refine GC ?_ ?_ <;> intro h <;> (try simp only [hsB] at h) <;> try exact xf) | (refine GL ?_ ?_ <;> intro h <;> (try simp only [hsN] at h) <;> (try simp only [h]) <;> (try simp only [hsB] at h) <;> try exact xf) | fail)); all_goals clear kxs kk1 kk2 kk3)
      all_goals first | (((all_goals first | refine RetQ.r 1 rfl (Nat.le_of_ble_eq_true rfl) rfl (by first | rfl | (simp only [go_sem, ↓reduceIte, Nat.reduceLT, Nat.lt_irrefl])) ⟨?_, ?_⟩ | refine RetQ.n 1 rfl (Nat.le_of_ble_eq_true rfl) rfl (by first | rfl | (simp only [go_sem, ↓reduceIte, Nat.reduceLT, Nat.lt_irrefl])) ⟨?_, ?_⟩); (all_goals first | rfl | (simp [ck0, *]; done) | ((simp only [go_sem, ↓reduceIte, Nat.reduceLT, ck0]; (repeat' split)) <;> first | rfl | (exfalso; omega) | (simp_all; done) | (simp_all; omega)))); done) | (exfalso; simp_all; done)
  | true =>
    cases h3 : c2.dot v with
    | mk d c3 =>
    obtain ⟨t, n⟩ := d
    rw [clk_eq h1 h2 (d := (t, n)) (c3 := c3) h3]
    by_cases he : c3.e = 0
    · rw [if_neg (by simpa using he)]
      focus (have kxs := And.intro h1' (And.intro h2' h3); have kk1 := uN [0] (vcode_Take c.s c.a c.e h); have kk2 := uN [0] (blob_Flag c1.s c1.a c1.e hvok); have kk3 := uN [0] (dcode_dot c2 hfok v hvl); have kk4 := uN [0] (cursor_Err c3.s c3.a c3.e); (repeat' (first | refine G ?_ | refine AW.ret ?_ | (refine GC ?_ ?_ <;> intro h <;> (try simp only [hsB] at h) <;> try exact xf) | (refine GL ?_ ?_ <;> intro h <;> (try simp only [hsN] at h) <;> (try simp only [h]) <;> (try simp only [hsB] at h) <;> try exact xf) | fail)); all_goals clear kxs kk1 kk2 kk3 kk4)
      all_goals first | exact RetQ.fr 1 | exact RetQ.fn 1 | (exfalso; simp_all; done)
    · rw [if_pos he]
      focus (have kxs := And.intro h1' (And.intro h2' h3); have kk1 := uN [0] (vcode_Take c.s c.a c.e h); have kk2 := uN [0] (blob_Flag c1.s c1.a c1.e hvok); have kk3 := uN [0] (dcode_dot c2 hfok v hvl); have kk4 := uN [0] (cursor_Err c3.s c3.a c3.e); (repeat' (first | refine G ?_ | refine AW.ret ?_ | (refine GC ?_ ?_ <;> intro h <;> (try simp only [hsB] at h) <;> try exact xf) | (refine GL ?_ ?_ <;> intro h <;> (try simp only [hsN] at h) <;> (try simp only [h]) <;> (try simp only [hsB] at h) <;> try exact xf) | fail)); all_goals clear kxs kk1 kk2 kk3 kk4)
      all_goals first | (((all_goals first | refine RetQ.r 1 rfl (Nat.le_of_ble_eq_true rfl) rfl (by first | rfl | (simp only [go_sem, ↓reduceIte, Nat.reduceLT, Nat.lt_irrefl])) ⟨?_, ?_⟩ | refine RetQ.n 1 rfl (Nat.le_of_ble_eq_true rfl) rfl (by first | rfl | (simp only [go_sem, ↓reduceIte, Nat.reduceLT, Nat.lt_irrefl])) ⟨?_, ?_⟩); (all_goals first | rfl | (simp [ck0, *]; done) | ((simp only [go_sem, ↓reduceIte, Nat.reduceLT, ck0]; (repeat' split)) <;> first | rfl | (exfalso; omega) | (simp_all; done) | (simp_all; omega)))); done) | (exfalso; simp_all; done)
end Go.AW
/-
  clocks that are read: the document's.
-/
namespace Go.AW
open Go Go.Proofs
set_option maxHeartbeats 2000000
set_option maxRecDepth 10000
set_option linter.unusedSimpArgs false
set_option linter.unusedVariables false
attribute [local irreducible] thenQ blockQ RetQ AL AW AC AOp

end Go.AW
/-
  clocks that are written, whole texts: the program's and the document's.
-/
namespace Go.AW
open Go Go.Proofs
set_option maxHeartbeats 2000000
set_option maxRecDepth 10000
set_option linter.unusedSimpArgs false
set_option linter.unusedVariables false
attribute [local irreducible] thenQ blockQ RetQ AL AW AC AOp

def ckD (k : Ck) : List D := [.l k.ctx.length (vecD k.ctx), .s (.bool k.dotted), .s (.string ⟨k.dot.1.toArray⟩), .s (.int .u64 k.dot.2)]
abbrev cksD (l : List Ck) : List D := (l.map ckD).flatten
theorem cks_drop {l r : List Ck} {k : Ck} {i : Nat} (h : l.drop i = k :: r) : (cksD l).drop (i * 4) = .l k.ctx.length (vecD k.ctx) :: .s (.bool k.dotted) :: .s (.string ⟨k.dot.1.toArray⟩) :: .s (.int .u64 k.dot.2) :: cksD r := by
  rw [cksD, flat_drop (f := ckD) (sz := 4) (fun _ => rfl), h]; rfl
theorem Pe.clks_snoc (p : Pe) (l : List Ck) (v : Ck) : p.clks (l ++ [v]) = (p.clks l).clk v := by simp [Pe.clks, List.foldl_append]
theorem Pe.clks_append (p : Pe) (l r : List Ck) : p.clks (l ++ r) = (p.clks l).clks r := List.foldl_append ..
section
variable (b : List UInt8) (m e : Int)

theorem dcode_Put (ok : Pe.Ok ⟨b, m, e⟩) (l : List Ck) (hf : ∀ k ∈ l, k.fits) (hn : l.length ≤ 140737488355328) (hl : m ≤ 140737488355328 ∨ b.length + (l.map eclk).flatten.length + 40 ≤ 140737488355328) :
    AC Tryz.prog 330 [.p 0 0, .d (.l l.length (cksD l))] (Pe.obs ⟨b, m, e⟩) fun x σ => x = .t [] ∧ σ = Pe.obs (Pe.clks ⟨b, m, e⟩ l) := by
  refine AC.walk Tryz.func330 rfl (by decide) (of_decide_eq_true rfl) ?_
  focus (have kxs := kx0; (repeat' (first | refine G ?_ | refine AW.ret ?_ | (refine GC ?_ ?_ <;> intro h <;> (try simp only [hsB] at h) <;> try exact xf) | (refine GL ?_ ?_ <;> intro h <;> (try simp only [hsN] at h) <;> (try simp only [h]) <;> (try simp only [hsB] at h) <;> try exact xf) | fail)); all_goals clear kxs)
  refine AW.rounds [0, 7, 8, 9] (fun i : Nat => [(0, .p 0 0), (7, .d (.l l.length (cksD l))), (8, iv .i64 l.length), (9, iv .i64 i)]) (fun i => Pe.obs (Pe.clks ⟨b, m, e⟩ (l.take i)))
    (fun i => i ≤ l.length) (fun i => l.length - i) 0 (Nat.zero_le _) rfl rfl (fun _ _ => Nat.le_of_ble_eq_true rfl) (fun _ _ => rfl) (fun _ _ => rfl) ?_
  intro i hi J hJ
  generalize hq : Pe.clks ⟨b, m, e⟩ (l.take i) = q
  have hqo : q.Ok ∧ q.m = m ∧ q.b.length ≤ b.length + ((l.take i).map eclk).flatten.length := by
    have h1 := take_flat eclk l i
    rw [← hq]
    exact ⟨pens_clks.keep ok (by simp only; omega), pens_clks.m _ _, pens_clks.len _ _⟩
  obtain ⟨hok, hqm, hqb⟩ := hqo
  by_cases hil : i < l.length
  case neg =>
    have hi2 : i = l.length := by omega
    rw [hi2, List.take_length] at hq
    subst hq
    focus (have kxs := kx0; (repeat' (first | refine G ?_ | refine AW.ret ?_ | (refine GC ?_ ?_ <;> intro h <;> (try simp only [hsB] at h) <;> try exact xf) | (refine GL ?_ ?_ <;> intro h <;> (try simp only [hsN] at h) <;> (try simp only [h]) <;> (try simp only [hsB] at h) <;> try exact xf) | fail)); all_goals clear kxs)
    (all_goals first | exact RetQ.fr 2 | exact RetQ.fn 2 | fail)
  obtain ⟨k, r, hd⟩ := next_at hil
  have hcd := cks_drop hd
  have hn2 : Pe.clks ⟨b, m, e⟩ (l.take (i + 1)) = q.clk k := by rw [next_take hd, Pe.clks_snoc, hq]
  have hfk := hf k (next_mem hd)
  have htf := take_flat eclk l i
  rw [hd] at htf
  simp only [List.map_cons, List.flatten_cons, List.length_append] at htf
  by_cases hc : k.check = 0
  case neg =>
    have hv : q.clk k = q.fail k.check := by unfold Pe.clk; rw [if_pos hc]
    have hall : Pe.clks ⟨b, m, e⟩ l = q.fail k.check := by
      conv => lhs; rw [← List.take_append_drop (i + 1) l]
      rw [Pe.clks_append, hn2, hv]
      exact pens_clks.stuck _ _ (Pe.fail_e hc)
    rw [hall]
    focus (have kxs := hcd; have kk1 := uN [] (dotted_Check k hfk); have kud1 := fun za zb zc zd => uN [0, 1] (pen_Fail za zb zc zd); (repeat' (first | refine G ?_ | refine AW.ret ?_ | (refine GC ?_ ?_ <;> intro h <;> (try simp only [hsB] at h) <;> try exact xf) | (refine GL ?_ ?_ <;> intro h <;> (try simp only [hsN] at h) <;> (try simp only [h]) <;> (try simp only [hsB] at h) <;> try exact xf) | fail)); all_goals clear kxs kk1 kud1)
    all_goals first | exact RetQ.fr 2 | exact RetQ.fn 2 | (exfalso; simp_all; done)
  obtain ⟨hcv, hct⟩ := Ck.check_parts hc
  have hel : (eclk k).length = (evec k.ctx).length + 1 + (if k.dotted = true then (eent k.dot).length else 0) := by
    unfold eclk eflag
    cases k.dotted <;> simp <;> omega
  have hclk : q.clk k = ((q.vec k.ctx).flag k.dotted).dotq k := by unfold Pe.clk; rw [if_neg (by simpa using hc)]
  have hvo := pens_vec.keep (p := q) (x := k.ctx) hok (by omega)
  have hvm := pens_vec.m q k.ctx
  have hvl := pens_vec.len q k.ctx
  generalize hv0 : q.vec k.ctx = p1 at *
  have hv' : Pe.vec ⟨q.b, q.m, q.e⟩ k.ctx = p1 := hv0
  have hfo := pens_flag.keep (p := p1) (x := k.dotted) hvo (by simp only [eflag, List.length_cons, List.length_nil]; omega)
  have hfm := pens_flag.m p1 k.dotted
  have hfl := pens_flag.len p1 k.dotted
  have hf1 : (eflag k.dotted).length = 1 := rfl
  generalize hf0 : p1.flag k.dotted = p2 at *
  have hf' : Pe.flag ⟨p1.b, p1.m, p1.e⟩ k.dotted = p2 := hf0
  obtain ⟨v, f, t, n⟩ := k
  simp only at *
  cases f with
  | false =>
    have hz : p2.dotq ⟨v, false, (t, n)⟩ = p2 := rfl
    rw [hz] at hclk
    focus (have kxs := And.intro hcd (And.intro hc (And.intro hv' hf')); have kk1 := uN [] (dotted_Check ⟨v, false, (t, n)⟩ hfk); have kk2 := uN [0, 1] (vcode_Put1 q.b q.m q.e hok v hfk.1 (by omega)); have kk3 := uN [0, 1] (blob_PutFlag p1.b p1.m p1.e hvo false (by omega)); (repeat' (first | refine G ?_ | refine AW.ret ?_ | (refine GC ?_ ?_ <;> intro h <;> (try simp only [hsB] at h) <;> try exact xf) | (refine GL ?_ ?_ <;> intro h <;> (try simp only [hsN] at h) <;> (try simp only [h]) <;> (try simp only [hsB] at h) <;> try exact xf) | fail)); all_goals clear kxs kk1 kk2 kk3)
    all_goals first | (refine hJ (i + 1) _ _ (by omega) hil rfl ?_; rw [hn2, hclk]; rfl) | (exfalso; simp_all; done)
  | true =>
    have hz : p2.dotq ⟨v, true, (t, n)⟩ = (p2.blob 32 t).text (vput n) := rfl
    rw [hz] at hclk
    simp only [if_true] at hel
    have hee : (eent (t, n)).length = (vput t.length).length + t.length + (vput n).length := by unfold eent eblob; simp only [List.length_append]
    have ht32 := hct rfl
    have hbo := Pe.blob_ok (p := p2) (max := 32) (s := t) hfo (by omega) (by omega)
    have hbm := Pe.blob_m p2 32 t
    have hbl := Pe.blob_len p2 32 t (by omega)
    generalize hb0 : p2.blob 32 t = p3 at *
    have hb' : Pe.blob ⟨p2.b, p2.m, p2.e⟩ 32 t = p3 := hb0
    focus (have kxs := And.intro hcd (And.intro hc (And.intro hv' (And.intro hf' hb'))); have kk1 := uN [] (dotted_Check ⟨v, true, (t, n)⟩ hfk); have kk2 := uN [0, 1] (vcode_Put1 q.b q.m q.e hok v hfk.1 (by omega)); have kk3 := uN [0, 1] (blob_PutFlag p1.b p1.m p1.e hvo true (by omega)); have kk4 := uN [0, 1] (blob_Put1 p2.b t p2.m p2.e 32 hfo (by omega) (by omega)); have kk5 := uN [0, 1] (varint_Put1 p3.b p3.m p3.e hbo n hfk.2.2 (by omega)); (repeat' (first | refine G ?_ | refine AW.ret ?_ | (refine GC ?_ ?_ <;> intro h <;> (try simp only [hsB] at h) <;> try exact xf) | (refine GL ?_ ?_ <;> intro h <;> (try simp only [hsN] at h) <;> (try simp only [h]) <;> (try simp only [hsB] at h) <;> try exact xf) | fail)); all_goals clear kxs kk1 kk2 kk3 kk4 kk5)
    all_goals first | (refine hJ (i + 1) _ _ (by omega) hil rfl ?_; rw [hn2, hclk]; rfl) | (exfalso; simp_all; done)
end
end Go.AW
/-
  clocks: the document's writer; whole texts.
-/
namespace Go.AW
open Go Go.Proofs
set_option maxHeartbeats 2000000
set_option maxRecDepth 10000
set_option linter.unusedSimpArgs false
set_option linter.unusedVariables false
attribute [local irreducible] thenQ blockQ RetQ AL AW AC AOp

section
variable (b : List UInt8) (m e : Int)
theorem dcode_Put1 (ok : Pe.Ok ⟨b, m, e⟩) (k : Ck) (hf : k.fits) (hl : m ≤ 140737488355328 ∨ b.length + (eclk k).length + 40 ≤ 140737488355328) :
    AC Tryz.prog 330 [.p 0 0, .d (.l 1 (ckD k))] (Pe.obs ⟨b, m, e⟩) fun x σ => x = .t [] ∧ σ = Pe.obs (Pe.clk ⟨b, m, e⟩ k) := by
  have := dcode_Put b m e ok [k] (by simpa using hf) (by simp) (by simpa using hl)
  rw [show cksD [k] = ckD k from List.append_nil _] at this
  exact this

theorem ref13_Put (q : Pe) (ok : q.Ok) (k : Ck) (hfk : k.fits) (hl : q.m ≤ 140737488355328 ∨ q.b.length + (eclk k).length + 40 ≤ 140737488355328) :
    AC Tryz.prog 312 [.p 0 0, ckV k] [Pe.ro q] fun x σ => x = .t [] ∧ σ = [Pe.ro (Pe.clk q k)] := by
  refine AC.walk Tryz.func312 rfl (by decide) (of_decide_eq_true rfl) ?_
  by_cases hc : k.check = 0
  case neg =>
    have hv : q.clk k = q.fail k.check := by unfold Pe.clk; rw [if_pos hc]
    rw [hv]
    focus (have kxs := kx0; have kk1 := uN [] (ref12_Check k hfk); have kua1 := fun za => uN [0] (ref02_Fail q.b q.m q.e za); (repeat' (first | refine G ?_ | refine AW.ret ?_ | (refine GC ?_ ?_ <;> intro h <;> (try simp only [hsB] at h) <;> try exact xf) | (refine GL ?_ ?_ <;> intro h <;> (try simp only [hsN] at h) <;> (try simp only [h]) <;> (try simp only [hsB] at h) <;> try exact xf) | fail)); all_goals clear kxs kk1 kua1)
    all_goals first | exact RetQ.fr 1 | exact RetQ.fn 1 | (exfalso; simp_all; done)
  obtain ⟨hcv, hct⟩ := Ck.check_parts hc
  have hel : (eclk k).length = (evec k.ctx).length + 1 + (if k.dotted = true then (eent k.dot).length else 0) := by
    unfold eclk eflag
    cases k.dotted <;> simp <;> omega
  have hclk : q.clk k = ((q.vec k.ctx).flag k.dotted).dotq k := by unfold Pe.clk; rw [if_neg (by simpa using hc)]
  have hvo := pens_vec.keep (p := q) (x := k.ctx) ok (by omega)
  have hvm := pens_vec.m q k.ctx
  have hvl := pens_vec.len q k.ctx
  generalize hv0 : q.vec k.ctx = p1 at *
  have hv' : Pe.vec ⟨q.b, q.m, q.e⟩ k.ctx = p1 := hv0
  have hfo := pens_flag.keep (p := p1) (x := k.dotted) hvo (by simp only [eflag, List.length_cons, List.length_nil]; omega)
  have hfm := pens_flag.m p1 k.dotted
  have hfl := pens_flag.len p1 k.dotted
  have hf1 : (eflag k.dotted).length = 1 := rfl
  generalize hf0 : p1.flag k.dotted = p2 at *
  have hf' : Pe.flag ⟨p1.b, p1.m, p1.e⟩ k.dotted = p2 := hf0
  obtain ⟨v, f, t, n⟩ := k
  simp only at *
  cases f with
  | false =>
    have hz : p2.dotq ⟨v, false, (t, n)⟩ = p2 := rfl
    rw [hclk, hz]
    focus (have kxs := And.intro hc (And.intro hv' hf'); have kk1 := uN [] (ref12_Check ⟨v, false, (t, n)⟩ hfk); have kk2 := uN [0] (ref11_Put q.b q.m q.e ok v hfk.1 (by omega)); have kk3 := uN [0] (ref06_PutFlag p1.b p1.m p1.e hvo false (by omega)); (repeat' (first | refine G ?_ | refine AW.ret ?_ | (refine GC ?_ ?_ <;> intro h <;> (try simp only [hsB] at h) <;> try exact xf) | (refine GL ?_ ?_ <;> intro h <;> (try simp only [hsN] at h) <;> (try simp only [h]) <;> (try simp only [hsB] at h) <;> try exact xf) | fail)); all_goals clear kxs kk1 kk2 kk3)
    all_goals first | exact RetQ.fr 1 | exact RetQ.fn 1 | (exfalso; simp_all; done)
  | true =>
    have hz : p2.dotq ⟨v, true, (t, n)⟩ = (p2.blob 32 t).text (vput n) := rfl
    rw [hclk, hz]
    simp only [if_true] at hel
    have hee : (eent (t, n)).length = (vput t.length).length + t.length + (vput n).length := by unfold eent eblob; simp only [List.length_append]
    have ht32 := hct rfl
    have hbo := Pe.blob_ok (p := p2) (max := 32) (s := t) hfo (by omega) (by omega)
    have hbm := Pe.blob_m p2 32 t
    have hbl := Pe.blob_len p2 32 t (by omega)
    generalize hb0 : p2.blob 32 t = p3 at *
    have hb' : Pe.blob ⟨p2.b, p2.m, p2.e⟩ 32 t = p3 := hb0
    focus (have kxs := And.intro hc (And.intro hv' (And.intro hf' hb')); have kk1 := uN [] (ref12_Check ⟨v, true, (t, n)⟩ hfk); have kk2 := uN [0] (ref11_Put q.b q.m q.e ok v hfk.1 (by omega)); have kk3 := uN [0] (ref06_PutFlag p1.b p1.m p1.e hvo true (by omega)); have kk4 := uN [0] (ref06_Put p2.b t p2.m p2.e 32 hfo (by omega) (by omega)); have kk5 := uN [0] (ref03_Put p3.b p3.m p3.e hbo n hfk.2.2 (by omega)); (repeat' (first | refine G ?_ | refine AW.ret ?_ | (refine GC ?_ ?_ <;> intro h <;> (try simp only [hsB] at h) <;> try exact xf) | (refine GL ?_ ?_ <;> intro h <;> (try simp only [hsN] at h) <;> (try simp only [h]) <;> (try simp only [hsB] at h) <;> try exact xf) | fail)); all_goals clear kxs kk1 kk2 kk3 kk4 kk5)
    all_goals first | exact RetQ.fr 1 | exact RetQ.fn 1 | (exfalso; simp_all; done)
end

theorem dcode_Encode (k : Ck) (hf : k.fits) : AC Tryz.prog 322 [ckV k] [] fun x σ => x = .t [sv (bs (clke k).1), iv .i64 (clke k).2] ∧ σ = [] := by
  have hq := pens_clk.keep (x := k) pe0_ok (.inl (by decide))
  refine AC.walk Tryz.func322 rfl (by decide) (of_decide_eq_true rfl) ?_
  unfold clke
  generalize hp : Pe.clk ⟨[], 65536, 0⟩ k = q at *
  focus (have kxs := hp; have kk1 := uN [] (pen_New 65536 (by decide)); have kk2 := uN [1, 2] (dcode_Put1 [] 65536 0 pe0_ok k hf (.inl (by decide))); have kk3 := uN [1, 2] (pen_End q.b q.m q.e hq); (repeat' (first | refine G ?_ | refine AW.ret ?_ | (refine GC ?_ ?_ <;> intro h <;> (try simp only [hsB] at h) <;> try exact xf) | (refine GL ?_ ?_ <;> intro h <;> (try simp only [hsN] at h) <;> (try simp only [h]) <;> (try simp only [hsB] at h) <;> try exact xf) | fail)); all_goals clear kxs kk1 kk2 kk3)
  all_goals first | exact RetQ.fr 0 | exact RetQ.fn 0 | (exfalso; simp_all; done)
theorem ref13_Encode (k : Ck) (hf : k.fits) : AC Tryz.prog 285 [ckV k] [] fun x σ => x = .t [sv (bs (clke k).1), iv .i64 (clke k).2] ∧ σ = [] := by
  refine AC.walk Tryz.func285 rfl (by decide) (of_decide_eq_true rfl) ?_
  unfold clke
  generalize hp : Pe.clk ⟨[], 65536, 0⟩ k = q at *
  focus (have kxs := hp; have kk1 := uN [] (ref02_New 65536); have kk2 := uN [1] (ref13_Put ⟨[], 65536, 0⟩ pe0_ok k hf (.inl (by decide))); have kk3 := uN [1] (ref02_End q.b q.m q.e); (repeat' (first | refine G ?_ | refine AW.ret ?_ | (refine GC ?_ ?_ <;> intro h <;> (try simp only [hsB] at h) <;> try exact xf) | (refine GL ?_ ?_ <;> intro h <;> (try simp only [hsN] at h) <;> (try simp only [h]) <;> (try simp only [hsB] at h) <;> try exact xf) | fail)); all_goals clear kxs kk1 kk2 kk3)
  all_goals first | exact RetQ.fr 0 | exact RetQ.fn 0 | (exfalso; simp_all; done)
end Go.AW
/-
  metadata: what is right, the same, too great: the program's and the document's.
-/
namespace Go.AW
open Go Go.Proofs
set_option maxHeartbeats 2000000
set_option maxRecDepth 10000
set_option linter.unusedSimpArgs false
set_option linter.unusedVariables false
attribute [local irreducible] thenQ blockQ RetQ AL AW AC AOp

def prD (x : Pr) : List D := [.s (.string ⟨x.1.toArray⟩), .s (.string ⟨x.2.toArray⟩)]
abbrev prsD (v : Prs) : List D := (v.map prD).flatten
theorem prs_drop {v r : Prs} {x : Pr} {i : Nat} (h : v.drop i = x :: r) : (prsD v).drop (i * 2) = .s (.string ⟨x.1.toArray⟩) :: .s (.string ⟨x.2.toArray⟩) :: prsD r := by
  rw [prsD, flat_drop (f := prD) (sz := 2) (fun _ => rfl), h]; rfl
/-- What is known of any vector: its names, its length. -/
def Prs.fits (v : Prs) : Prop := v.length ≤ 9223372036854775807 ∧ (∀ x ∈ v, x.1.length ≤ 9223372036854775807) ∧ ∀ x ∈ v, x.2.length ≤ 9223372036854775807

/-- The name ahead of place i. -/
def Prs.ahead (v : Prs) (i : Nat) (p : List UInt8) : Prop := (i = 0 ∧ p = []) ∨ (0 < i ∧ p.length ≤ 32 ∧ ∃ n r, v.drop (i - 1) = (p, n) :: r)
theorem pcheck_step {p : List UInt8} {x : Pr} {r : Prs} {R : Int} (h : pcheck p (x :: r) = R) : R = if 32 < x.1.length then 3 else if x.1 = [] then 14 else if lessB p x.1 = false then 6 else if 32768 < x.2.length then 3 else pcheck x.1 r := h.symm

theorem ref14_Check (v : Prs) (hv : v.fits) : AC Tryz.prog 108 [.d (.l v.length (prsD v))] [] fun x σ => x = iv .i64 v.check ∧ σ = [] := by
  refine AC.walk Tryz.func108 rfl (by decide) (of_decide_eq_true rfl) ?_
  by_cases h8 : 8 < v.length
  · have hc : v.check = 3 := by unfold Prs.check; rw [if_pos h8]
    focus (have kxs := hc; (repeat' (first | (refine ADr.nil ?_; try clear hgv) | refine GO ?_ | refine AW.ret ?_ | (refine GC ?_ ?_ <;> intro h <;> (try simp only [hsB] at h) <;> try exact xf) | (refine GD ?_ ?_ <;> intro h <;> (try intro hgv) <;> (try simp only [hsN] at h) <;> (try simp only [h]) <;> (try simp only [hsB] at h) <;> try exact xf) | (refine GL ?_ ?_ <;> intro h <;> (try simp only [hsN] at h) <;> (try simp only [h]) <;> (try simp only [hsB] at h) <;> try exact xf) | fail)); all_goals clear kxs)
    all_goals first | (exfalso; omega) | ((all_goals have kxf := hc; first | exact RetQ.xr 0 | exact RetQ.xn 0 | fail); done)
  generalize hR : pcheck [] v = R
  have hc : v.check = R := by unfold Prs.check; rw [if_neg h8, hR]
  rw [hc]
  focus (have kxs := kx0; (repeat' (first | (refine ADr.nil ?_; try clear hgv) | refine GO ?_ | refine AW.ret ?_ | (refine GC ?_ ?_ <;> intro h <;> (try simp only [hsB] at h) <;> try exact xf) | (refine GD ?_ ?_ <;> intro h <;> (try intro hgv) <;> (try simp only [hsN] at h) <;> (try simp only [h]) <;> (try simp only [hsB] at h) <;> try exact xf) | (refine GL ?_ ?_ <;> intro h <;> (try simp only [hsN] at h) <;> (try simp only [h]) <;> (try simp only [hsB] at h) <;> try exact xf) | fail)); all_goals clear kxs)
  refine AW.rounds [0, 2, 3] (fun i : Nat => [(0, .d (.l v.length (prsD v))), (2, iv .i64 0), (3, iv .i64 i)]) (fun _ => [])
    (fun i => i ≤ v.length ∧ ∃ p, v.ahead i p ∧ pcheck p (v.drop i) = R) (fun i => v.length - i) 0 ⟨Nat.zero_le _, [], .inl ⟨rfl, rfl⟩, hR⟩ rfl rfl (fun _ _ => Nat.zero_le _) (fun _ _ => rfl) (fun _ _ => rfl) ?_
  rintro i ⟨hi, p, hp, hr⟩ J hJ
  by_cases hil : i < v.length
  · obtain ⟨x, r, hd⟩ := next_at hil
    have hcd := prs_drop hd
    rw [hd] at hr
    have hR2 := pcheck_step hr
    have hxl := hv.2.1 x (next_mem hd)
    have hyl := hv.2.2 x (next_mem hd)
    have hnx : ∀ hx : ¬ 32 < x.1.length, v.ahead (i + 1) x.1 := fun hx => .inr ⟨by omega, by omega, x.2, r, by simpa using hd⟩
    have hnd := next_drop hd
    have hxe : x.1 = [] ↔ x.1.length = 0 := by simp
    rcases hp with ⟨rfl, rfl⟩ | ⟨h0, hpl, n, r', hp⟩
    · have hl0 : x.1 ≠ [] → lessB [] x.1 = true := fun h => by
        cases hx : x.1 with
        | nil => exact absurd hx h
        | cons b t => exact less_nil_cons b t
      focus (have kxs := hcd; (repeat' (first | (refine ADr.nil ?_; try clear hgv) | refine GO ?_ | refine AW.ret ?_ | (refine GC ?_ ?_ <;> intro h <;> (try simp only [hsB] at h) <;> try exact xf) | (refine GD ?_ ?_ <;> intro h <;> (try intro hgv) <;> (try simp only [hsN] at h) <;> (try simp only [h]) <;> (try simp only [hsB] at h) <;> try exact xf) | (refine GL ?_ ?_ <;> intro h <;> (try simp only [hsN] at h) <;> (try simp only [h]) <;> (try simp only [hsB] at h) <;> try exact xf) | fail)); all_goals clear kxs)
      all_goals first
        | (rw [show R = 3 from by rw [hR2, if_pos (by omega)]]; (first | exact RetQ.zr 0 | exact RetQ.zn 0 | fail))
        | (rw [show R = 14 from by rw [hR2, if_neg (by omega), if_pos (by first | assumption | (rw [hxe]; omega))]]; (first | exact RetQ.zr 0 | exact RetQ.zn 0 | fail))
        | (rw [show R = 6 from by rw [hR2, if_neg (by omega), if_neg (by first | assumption | (rw [hxe]; omega)), if_pos (by first | assumption | (clear hR2 hr hJ; simp_all; done))]]; (first | exact RetQ.zr 0 | exact RetQ.zn 0 | fail))
        | (rw [show R = 3 from by rw [hR2, if_neg (by omega), if_neg (by first | assumption | (rw [hxe]; omega)), if_neg (by first | (rw [hl0 (by first | assumption | (rw [ne_eq, hxe]; omega))]; decide) | (clear hR2 hr hJ; simp_all; done)), if_pos (by omega)]]; (first | exact RetQ.zr 0 | exact RetQ.zn 0 | fail))
        | (refine hJ 1 _ _ (by omega) ⟨hil, x.1, hnx (by omega), ?_⟩ rfl rfl; rw [hnd, hR2, if_neg (by omega), if_neg (by rw [hxe]; omega), if_neg (by rw [hl0 (by rw [ne_eq, hxe]; omega)]; decide), if_neg (by omega)])
        | (exfalso; clear hR2 hr hJ; simp_all; done)
    · have hcp := prs_drop hp
      have hi1 : ((i : Int) - 1).toNat = i - 1 := by omega
      focus (have kxs := And.intro hcd (And.intro hcp hi1); have kpb1 := fun za zb => uN [] (ref06_Below p x.1 za zb); (repeat' (first | (refine ADr.nil ?_; try clear hgv) | refine GO ?_ | refine AW.ret ?_ | (refine GC ?_ ?_ <;> intro h <;> (try simp only [hsB] at h) <;> try exact xf) | (refine GD ?_ ?_ <;> intro h <;> (try intro hgv) <;> (try simp only [hsN] at h) <;> (try simp only [h]) <;> (try simp only [hsB] at h) <;> try exact xf) | (refine GL ?_ ?_ <;> intro h <;> (try simp only [hsN] at h) <;> (try simp only [h]) <;> (try simp only [hsB] at h) <;> try exact xf) | fail)); all_goals clear kxs kpb1)
      all_goals first
        | (rw [show R = 3 from by rw [hR2, if_pos (by omega)]]; (first | exact RetQ.zr 0 | exact RetQ.zn 0 | fail))
        | (rw [show R = 14 from by rw [hR2, if_neg (by omega), if_pos (by first | assumption | (rw [hxe]; omega))]]; (first | exact RetQ.zr 0 | exact RetQ.zn 0 | fail))
        | (rw [show R = 6 from by rw [hR2, if_neg (by omega), if_neg (by first | assumption | (rw [hxe]; omega)), if_pos (by first | assumption | (clear hR2 hr hJ; simp_all; done))]]; (first | exact RetQ.zr 0 | exact RetQ.zn 0 | fail))
        | (rw [show R = 3 from by rw [hR2, if_neg (by omega), if_neg (by first | assumption | (rw [hxe]; omega)), if_neg (by clear hR2 hr hJ; simp_all; done), if_pos (by omega)]]; (first | exact RetQ.zr 0 | exact RetQ.zn 0 | fail))
        | (refine hJ (i + 1) _ _ (by omega) ⟨hil, x.1, hnx (by omega), ?_⟩ rfl rfl; rw [hnd, hR2, if_neg (by omega), if_neg (by rw [hxe]; omega), if_neg (by clear hR2 hr hJ; simp_all; done), if_neg (by omega)])
        | (exfalso; clear hR2 hr hJ; simp_all; done)
  · focus (have kxs := kx0; (repeat' (first | (refine ADr.nil ?_; try clear hgv) | refine GO ?_ | refine AW.ret ?_ | (refine GC ?_ ?_ <;> intro h <;> (try simp only [hsB] at h) <;> try exact xf) | (refine GD ?_ ?_ <;> intro h <;> (try intro hgv) <;> (try simp only [hsN] at h) <;> (try simp only [h]) <;> (try simp only [hsB] at h) <;> try exact xf) | (refine GL ?_ ?_ <;> intro h <;> (try simp only [hsN] at h) <;> (try simp only [h]) <;> (try simp only [hsB] at h) <;> try exact xf) | fail)); all_goals clear kxs)
    have h0 : v.drop i = [] := List.drop_eq_nil_of_le (by omega)
    rw [h0] at hr
    have hR0 : R = 0 := hr.symm
    rw [hR0]
    (all_goals first | exact RetQ.fr 0 | exact RetQ.fn 0 | fail)

theorem ref14_Great (v : Prs) (hv : v.fits) : AC Tryz.prog 79 [.d (.l v.length (prsD v))] [] fun x σ => x = bv v.great ∧ σ = [] := by
  refine AC.walk Tryz.func79 rfl (by decide) (of_decide_eq_true rfl) ?_
  by_cases h8 : 20 < v.length
  · have hc : v.great = true := by unfold Prs.great; simp [h8]
    focus (have kxs := hc; (repeat' (first | refine G ?_ | refine AW.ret ?_ | (refine GC ?_ ?_ <;> intro h <;> (try simp only [hsB] at h) <;> try exact xf) | (refine GL ?_ ?_ <;> intro h <;> (try simp only [hsN] at h) <;> (try simp only [h]) <;> (try simp only [hsB] at h) <;> try exact xf) | fail)); all_goals clear kxs)
    all_goals first | (exfalso; omega) | ((all_goals have kxf := hc; first | exact RetQ.xr 0 | exact RetQ.xn 0 | fail); done)
  generalize hR : (v.any fun x => (decide (100 < x.1.length) || decide (100 < x.2.length))) = R
  have hc : v.great = R := by unfold Prs.great; rw [hR]; simp [h8]
  rw [hc]
  focus (have kxs := kx0; (repeat' (first | refine G ?_ | refine AW.ret ?_ | (refine GC ?_ ?_ <;> intro h <;> (try simp only [hsB] at h) <;> try exact xf) | (refine GL ?_ ?_ <;> intro h <;> (try simp only [hsN] at h) <;> (try simp only [h]) <;> (try simp only [hsB] at h) <;> try exact xf) | fail)); all_goals clear kxs)
  refine AW.rounds [0, 2, 3] (fun i : Nat => [(0, .d (.l v.length (prsD v))), (2, bv false), (3, iv .i64 i)]) (fun _ => [])
    (fun i => i ≤ v.length ∧ ((v.drop i).any fun x => (decide (100 < x.1.length) || decide (100 < x.2.length))) = R) (fun i => v.length - i) 0 ⟨Nat.zero_le _, hR⟩ rfl rfl (fun _ _ => Nat.zero_le _) (fun _ _ => rfl) (fun _ _ => rfl) ?_
  rintro i ⟨hi, hr⟩ J hJ
  by_cases hil : i < v.length
  · obtain ⟨x, r, hd⟩ := next_at hil
    have hcd := prs_drop hd
    have hnd := next_drop hd
    rw [hd, List.any_cons] at hr
    by_cases hx : 100 < x.1.length ∨ 100 < x.2.length
    · have hR1 : R = true := by rw [← hr]; rcases hx with h | h <;> simp [h]
      rw [hR1]
      focus (have kxs := hcd; (repeat' (first | refine G ?_ | refine AW.ret ?_ | (refine GC ?_ ?_ <;> intro h <;> (try simp only [hsB] at h) <;> try exact xf) | (refine GL ?_ ?_ <;> intro h <;> (try simp only [hsN] at h) <;> (try simp only [h]) <;> (try simp only [hsB] at h) <;> try exact xf) | fail)); all_goals clear kxs)
      all_goals first | exact RetQ.fr 0 | exact RetQ.fn 0 | (exfalso; omega)
    · have h1 : decide (100 < x.1.length) = false := decide_eq_false fun h => hx (.inl h)
      have h2 : decide (100 < x.2.length) = false := decide_eq_false fun h => hx (.inr h)
      rw [h1, h2, Bool.false_or, Bool.false_or] at hr
      focus (have kxs := hcd; (repeat' (first | refine G ?_ | refine AW.ret ?_ | (refine GC ?_ ?_ <;> intro h <;> (try simp only [hsB] at h) <;> try exact xf) | (refine GL ?_ ?_ <;> intro h <;> (try simp only [hsN] at h) <;> (try simp only [h]) <;> (try simp only [hsB] at h) <;> try exact xf) | fail)); all_goals clear kxs)
      all_goals first | (exfalso; omega) | (refine hJ (i + 1) _ _ (by omega) ⟨hil, by rw [hnd]; exact hr⟩ rfl rfl)
  · focus (have kxs := kx0; (repeat' (first | refine G ?_ | refine AW.ret ?_ | (refine GC ?_ ?_ <;> intro h <;> (try simp only [hsB] at h) <;> try exact xf) | (refine GL ?_ ?_ <;> intro h <;> (try simp only [hsN] at h) <;> (try simp only [h]) <;> (try simp only [hsB] at h) <;> try exact xf) | fail)); all_goals clear kxs)
    have h0 : v.drop i = [] := List.drop_eq_nil_of_le (by omega)
    rw [h0] at hr
    have hR0 : R = false := hr.symm
    rw [hR0]
    (all_goals first | exact RetQ.fr 0 | exact RetQ.fn 0 | fail)

end Go.AW
