/-
  siblings: what is right, the same, too great, what is read: the program's and the document's.
-/
import Derived.Test.YtbjdiepceokmkaaSib3
namespace Go.AW
open Go Go.Proofs
set_option maxHeartbeats 2000000
set_option maxRecDepth 10000
set_option linter.unusedSimpArgs false
set_option linter.unusedVariables false
attribute [local irreducible] thenQ blockQ RetQ AL AW AC AOp

abbrev sbV (x : Sb) : V := .a [.d (.l x.clk.ctx.length (vecD x.clk.ctx)), bv x.clk.dotted, sv (bs x.clk.dot.1), iv .u64 x.clk.dot.2, .d (.l x.meta_.length (prsD x.meta_)), bv x.dead, sv (bs x.val)]
def sbD (x : Sb) : List D := [.l x.clk.ctx.length (vecD x.clk.ctx), .s (.bool x.clk.dotted), .s (.string ⟨x.clk.dot.1.toArray⟩), .s (.int .u64 x.clk.dot.2), .l x.meta_.length (prsD x.meta_), .s (.bool x.dead), .s (.string ⟨x.val.toArray⟩)]
abbrev sbsD (l : List Sb) : List D := (l.map sbD).flatten
def Sb.fits (x : Sb) : Prop := x.clk.fits ∧ x.meta_.fits ∧ x.val.length ≤ 9223372036854775807
theorem sbs_drop {l r : List Sb} {x : Sb} {i : Nat} (h : l.drop i = x :: r) : (sbsD l).drop (i * 7) = .l x.clk.ctx.length (vecD x.clk.ctx) :: .s (.bool x.clk.dotted) :: .s (.string ⟨x.clk.dot.1.toArray⟩) :: .s (.int .u64 x.clk.dot.2) :: .l x.meta_.length (prsD x.meta_) :: .s (.bool x.dead) :: .s (.string ⟨x.val.toArray⟩) :: sbsD r := by
  rw [sbsD, flat_drop (f := sbD) (sz := 7) (fun _ => rfl), h]; rfl

theorem sb_check {x : Sb} {R : Int} (h : x.check = R) : R = if x.clk.check ≠ 0 then x.clk.check else if x.meta_.check ≠ 0 then x.meta_.check else if 32768 < x.val.length then 3 else 0 := h.symm
theorem sibling_Check (x : Sb) (hx : x.fits) : AC Try.prog 16 [sbV x] [] fun y σ => y = iv .i64 x.check ∧ σ = [] := by
  refine AC.walk Try.func16 rfl (by decide) (of_decide_eq_true rfl) ?_
  generalize hR : x.check = R
  have hR2 := sb_check hR
  clear hR
  focus (have kxs : 987654321 = 987654320 + 1 := rfl; have kk1 := uN [] (dotted_Check x.clk hx.1); have kk2 := uN [] (pairs_Check x.meta_ hx.2.1); (repeat' (first | refine G ?_ | refine AW.ret ?_ | (refine GC ?_ ?_ <;> intro h <;> (try simp only [hsB] at h) <;> try (exfalso; first | omega | contradiction)) | (refine GL ?_ ?_ <;> intro h <;> (try simp only [Bool.not_true, Bool.not_false] at h) <;> (try simp only [h]) <;> (try simp only [hsB] at h) <;> try (exfalso; first | omega | contradiction)) | fail)); all_goals clear kxs kk1 kk2)
  all_goals first
    | (rw [show R = x.clk.check from by rw [hR2, if_pos (by assumption)]]; (first | exact RetQ.zr 0 | exact RetQ.zn 0 | fail))
    | (rw [show R = x.meta_.check from by rw [hR2, if_neg (by simp only [ne_eq, Decidable.not_not]; assumption), if_pos (by assumption)]]; (first | exact RetQ.zr 0 | exact RetQ.zn 0 | fail))
    | (rw [show R = 3 from by rw [hR2, if_neg (by simp only [ne_eq, Decidable.not_not]; assumption), if_neg (by simp only [ne_eq, Decidable.not_not]; assumption), if_pos (by omega)]]; (first | exact RetQ.zr 0 | exact RetQ.zn 0 | fail))
    | (rw [show R = 0 from by rw [hR2, if_neg (by simp only [ne_eq, Decidable.not_not]; assumption), if_neg (by simp only [ne_eq, Decidable.not_not]; assumption), if_neg (by omega)]]; (first | exact RetQ.zr 0 | exact RetQ.zn 0 | fail))
    | trace_state
theorem ref15_Check (x : Sb) (hx : x.fits) : AC Try.prog 21 [sbV x] [] fun y σ => y = iv .i64 x.check ∧ σ = [] := by
  refine AC.walk Try.func21 rfl (by decide) (of_decide_eq_true rfl) ?_
  generalize hR : x.check = R
  have hR2 := sb_check hR
  clear hR
  focus (have kxs : 987654321 = 987654320 + 1 := rfl; have kk1 := uN [] (ref12_Check x.clk hx.1); have kk2 := uN [] (ref14_Check x.meta_ hx.2.1); (repeat' (first | refine G ?_ | refine AW.ret ?_ | (refine GC ?_ ?_ <;> intro h <;> (try simp only [hsB] at h) <;> try (exfalso; first | omega | contradiction)) | (refine GL ?_ ?_ <;> intro h <;> (try simp only [Bool.not_true, Bool.not_false] at h) <;> (try simp only [h]) <;> (try simp only [hsB] at h) <;> try (exfalso; first | omega | contradiction)) | fail)); all_goals clear kxs kk1 kk2)
  all_goals first
    | (rw [show R = x.clk.check from by rw [hR2, if_pos (by assumption)]]; (first | exact RetQ.zr 0 | exact RetQ.zn 0 | fail))
    | (rw [show R = x.meta_.check from by rw [hR2, if_neg (by simp only [ne_eq, Decidable.not_not]; assumption), if_pos (by assumption)]]; (first | exact RetQ.zr 0 | exact RetQ.zn 0 | fail))
    | (rw [show R = 3 from by rw [hR2, if_neg (by simp only [ne_eq, Decidable.not_not]; assumption), if_neg (by simp only [ne_eq, Decidable.not_not]; assumption), if_pos (by omega)]]; (first | exact RetQ.zr 0 | exact RetQ.zn 0 | fail))
    | (rw [show R = 0 from by rw [hR2, if_neg (by simp only [ne_eq, Decidable.not_not]; assumption), if_neg (by simp only [ne_eq, Decidable.not_not]; assumption), if_neg (by omega)]]; (first | exact RetQ.zr 0 | exact RetQ.zn 0 | fail))
    | trace_state

theorem dotted_Same (k o : Ck) (hk : k.ctx.length ≤ 9223372036854775807) : AC Try.prog 69 [ckV k, ckV o] [] fun x σ => x = bv (decide (k = o)) ∧ σ = [] := by
  refine AC.walk Try.func69 rfl (by decide) (of_decide_eq_true rfl) ?_
  have hR : decide (k = o) = (decide (k.ctx = o.ctx) && (decide (k.dotted = o.dotted) && (decide (k.dot.1 = o.dot.1) && (decide ((k.dot.2 : Int) = o.dot.2) && true)))) := by
    rw [Bool.eq_iff_iff, decide_eq_true_eq]; exact (ck_eq k o).symm
  rw [hR]
  clear hR
  rcases Bool.eq_false_or_eq_true (decide (k.ctx = o.ctx)) with e1 | e1 <;> rcases Bool.eq_false_or_eq_true (decide (k.dotted = o.dotted)) with e2 | e2
  all_goals
    rw [e1, e2]
    focus (have kxs := And.intro e1 e2; have kk1 := uN [] (slices_EqualEn k.ctx o.ctx hk); (repeat' (first | refine G ?_ | refine AW.ret ?_ | (refine GC ?_ ?_ <;> intro h <;> (try simp only [hsB] at h) <;> try (exfalso; first | omega | contradiction)) | (refine GL ?_ ?_ <;> intro h <;> (try simp only [Bool.not_true, Bool.not_false] at h) <;> (try simp only [h]) <;> (try simp only [hsB] at h) <;> try (exfalso; first | omega | contradiction)) | fail)); all_goals clear kxs kk1)
    all_goals first | ((all_goals first | exact RetQ.fr 0 | exact RetQ.fn 0 | fail); done) | (exfalso; simp_all; done)
theorem sb_eq (k o : Sb) : (decide (k.clk = o.clk) && (decide (k.meta_ = o.meta_) && (decide (k.dead = o.dead) && decide (k.val = o.val)))) = true ↔ k = o := by
  obtain ⟨a, b, c, d⟩ := k
  obtain ⟨e, f, g, h⟩ := o
  simp
instance : DecidableEq Sb := fun k o => decidable_of_iff _ (sb_eq k o)
theorem sb_dec (k o : Sb) : decide (k = o) = (decide (k.clk = o.clk) && (decide (k.meta_ = o.meta_) && (decide (k.dead = o.dead) && decide (k.val = o.val)))) := by
  rw [Bool.eq_iff_iff, decide_eq_true_eq]; exact (sb_eq k o).symm
theorem sibling_Same (k o : Sb) (hk : k.clk.ctx.length ≤ 9223372036854775807) (hm : k.meta_.length ≤ 9223372036854775807) : AC Try.prog 22 [sbV k, sbV o] [] fun x σ => x = bv (decide (k = o)) ∧ σ = [] := by
  refine AC.walk Try.func22 rfl (by decide) (of_decide_eq_true rfl) ?_
  rw [sb_dec]
  rcases Bool.eq_false_or_eq_true (decide (k.clk = o.clk)) with e1 | e1 <;> rcases Bool.eq_false_or_eq_true (decide (k.meta_ = o.meta_)) with e2 | e2 <;> rcases Bool.eq_false_or_eq_true (decide (k.dead = o.dead)) with e3 | e3
  all_goals
    rw [e1, e2, e3]
    focus (have kxs := And.intro e1 (And.intro e2 e3); have kk1 := uN [] (dotted_Same k.clk o.clk hk); have kk2 := uN [] (pairs_Same k.meta_ o.meta_ hm); (repeat' (first | refine G ?_ | refine AW.ret ?_ | (refine GC ?_ ?_ <;> intro h <;> (try simp only [hsB] at h) <;> try (exfalso; first | omega | contradiction)) | (refine GL ?_ ?_ <;> intro h <;> (try simp only [Bool.not_true, Bool.not_false] at h) <;> (try simp only [h]) <;> (try simp only [hsB] at h) <;> try (exfalso; first | omega | contradiction)) | fail)); all_goals clear kxs kk1 kk2)
    all_goals first | ((all_goals first | exact RetQ.fr 0 | exact RetQ.fn 0 | fail); done) | (exfalso; simp_all; done)
theorem ref15_Same (k o : Sb) (hk : k.clk.ctx.length ≤ 9223372036854775807) (hm : k.meta_.length ≤ 9223372036854775807) : AC Try.prog 18 [sbV k, sbV o] [] fun x σ => x = bv (decide (k = o)) ∧ σ = [] := by
  refine AC.walk Try.func18 rfl (by decide) (of_decide_eq_true rfl) ?_
  rw [sb_dec]
  rcases Bool.eq_false_or_eq_true (decide (k.clk = o.clk)) with e1 | e1 <;> rcases Bool.eq_false_or_eq_true (decide (k.meta_ = o.meta_)) with e2 | e2 <;> rcases Bool.eq_false_or_eq_true (decide (k.dead = o.dead)) with e3 | e3
  all_goals
    rw [e1, e2, e3]
    focus (have kxs := And.intro e1 (And.intro e2 e3); have kk1 := uN [] (ref12_Same k.clk o.clk hk); have kk2 := uN [] (ref14_Same k.meta_ o.meta_ hm); (repeat' (first | refine G ?_ | refine AW.ret ?_ | (refine GC ?_ ?_ <;> intro h <;> (try simp only [hsB] at h) <;> try (exfalso; first | omega | contradiction)) | (refine GL ?_ ?_ <;> intro h <;> (try simp only [Bool.not_true, Bool.not_false] at h) <;> (try simp only [h]) <;> (try simp only [hsB] at h) <;> try (exfalso; first | omega | contradiction)) | fail)); all_goals clear kxs kk1 kk2)
    all_goals first | ((all_goals first | exact RetQ.fr 0 | exact RetQ.fn 0 | fail); done) | (exfalso; simp_all; done)
theorem ref15_Great (k : Sb) (hk : k.fits) : AC Try.prog 19 [sbV k] [] fun x σ => x = bv k.great ∧ σ = [] := by
  refine AC.walk Try.func19 rfl (by decide) (of_decide_eq_true rfl) ?_
  unfold Sb.great
  cases hg : k.clk.great <;> cases hg2 : k.meta_.great
  all_goals
    focus (have kxs := And.intro hg hg2; have kk1 := uN [] (ref12_Great k.clk hk.1); have kk2 := uN [] (ref14_Great k.meta_ hk.2.1); (repeat' (first | refine G ?_ | refine AW.ret ?_ | (refine GC ?_ ?_ <;> intro h <;> (try simp only [hsB] at h) <;> try (exfalso; first | omega | contradiction)) | (refine GL ?_ ?_ <;> intro h <;> (try simp only [Bool.not_true, Bool.not_false] at h) <;> (try simp only [h]) <;> (try simp only [hsB] at h) <;> try (exfalso; first | omega | contradiction)) | fail)); all_goals clear kxs kk1 kk2)
    all_goals first | ((all_goals first | exact RetQ.fr 0 | exact RetQ.fn 0 | fail); done) | (exfalso; simp_all; done)

theorem sib_eq {c c1 c2 c3 c4 : Cu} {k : Ck} {l : Prs} {f : Bool} {t : List UInt8} (h1 : c.clk = (k, c1)) (h2 : c1.prs = (l, c2)) (h3 : c2.flag = (f, c3)) (h4 : c3.blob 32768 = (t, c4)) : c.sib = (if c4.e ≠ 0 then sb0 else ⟨k, l, f, t⟩, c4) := by
  unfold Cu.sib Cu.sib0 rseq
  simp only [h1, h2, h3, h4]
theorem sib_bad {c : Cu} (h : c.sib0.2.e ≠ 0) : c.sib = (sb0, c.sib0.2) := by unfold Cu.sib; rw [if_pos h]
theorem sibling_Take (c : Cu) (h : c.Ok) : AC Try.prog 60 [.p 0 0] [Cu.ob c] fun x σ => x = sbV c.sib.1 ∧ σ = [Cu.ob c.sib.2] := by
  refine AC.walk Try.func60 rfl (by decide) (of_decide_eq_true rfl) ?_
  have ho1 := Cu.clk_ok h
  cases h1 : c.clk with
  | mk k c1 =>
  rw [h1] at ho1
  have ho2 := Cu.prs_ok ho1
  cases h2 : c1.prs with
  | mk l c2 =>
  rw [h2] at ho2
  have ho3 := Cu.flag_ok ho2
  cases h3 : c2.flag with
  | mk f c3 =>
  rw [h3] at ho3
  cases h4 : c3.blob 32768 with
  | mk t c4 =>
  have h2' : Cu.prs ⟨c1.s, c1.a, c1.e⟩ = (l, c2) := h2
  have h3' : Cu.flag ⟨c2.s, c2.a, c2.e⟩ = (f, c3) := h3
  have h4' : Cu.blob ⟨c3.s, c3.a, c3.e⟩ 32768 = (t, c4) := h4
  rw [sib_eq h1 h2 h3 h4]
  simp only at ho1 ho2 ho3 ⊢
  by_cases he : c4.e = 0
  · rw [if_neg (by simpa using he)]
    focus (have kxs := And.intro h1 (And.intro h2' (And.intro h3' h4')); have kk1 := uN [0] (dcode_Take c h); have kk2 := uN [0] (pairs_Take c1.s c1.a c1.e ho1); have kk3 := uN [0] (blob_Flag c2.s c2.a c2.e ho2); have kk4 := uN [0] (blob_Take c3.s c3.a c3.e 32768 ho3 (by decide)); have kk5 := uN [0] (cursor_Err c4.s c4.a c4.e); (repeat' (first | refine G ?_ | refine AW.ret ?_ | (refine GC ?_ ?_ <;> intro h <;> (try simp only [hsB] at h) <;> try (exfalso; first | omega | contradiction)) | (refine GL ?_ ?_ <;> intro h <;> (try simp only [Bool.not_true, Bool.not_false] at h) <;> (try simp only [h]) <;> (try simp only [hsB] at h) <;> try (exfalso; first | omega | contradiction)) | fail)); all_goals clear kxs kk1 kk2 kk3 kk4 kk5)
    all_goals first | ((all_goals first | exact RetQ.fr 1 | exact RetQ.fn 1 | fail); done) | (exfalso; simp_all; done)
  · rw [if_pos he]
    focus (have kxs := And.intro h1 (And.intro h2' (And.intro h3' h4')); have kk1 := uN [0] (dcode_Take c h); have kk2 := uN [0] (pairs_Take c1.s c1.a c1.e ho1); have kk3 := uN [0] (blob_Flag c2.s c2.a c2.e ho2); have kk4 := uN [0] (blob_Take c3.s c3.a c3.e 32768 ho3 (by decide)); have kk5 := uN [0] (cursor_Err c4.s c4.a c4.e); (repeat' (first | refine G ?_ | refine AW.ret ?_ | (refine GC ?_ ?_ <;> intro h <;> (try simp only [hsB] at h) <;> try (exfalso; first | omega | contradiction)) | (refine GL ?_ ?_ <;> intro h <;> (try simp only [Bool.not_true, Bool.not_false] at h) <;> (try simp only [h]) <;> (try simp only [hsB] at h) <;> try (exfalso; first | omega | contradiction)) | fail)); all_goals clear kxs kk1 kk2 kk3 kk4 kk5)
    all_goals first | (((all_goals first | refine RetQ.r 1 rfl (Nat.le_of_ble_eq_true rfl) rfl (by first | rfl | (simp only [go_sem, ↓reduceIte, Nat.reduceLT, Nat.lt_irrefl])) ⟨?_, ?_⟩ | refine RetQ.n 1 rfl (Nat.le_of_ble_eq_true rfl) rfl (by first | rfl | (simp only [go_sem, ↓reduceIte, Nat.reduceLT, Nat.lt_irrefl])) ⟨?_, ?_⟩); (all_goals first | rfl | (simp [sb0, ck0, *]; done) | ((simp only [go_sem, ↓reduceIte, Nat.reduceLT, sb0, ck0]; (repeat' split)) <;> first | rfl | (exfalso; omega) | (simp_all; done) | (simp_all; omega)))); done) | (exfalso; simp_all; done)
end Go.AW
