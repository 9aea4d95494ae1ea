/-
  clocks: what is right, the same, too great: the program's and the document's.
-/
import Derived.Test.YtbjdiepceokmkaaVec5
import Derived.Test.YtbjdiepceokmkaaMc
namespace Go.AW
open Go Go.Proofs
set_option maxHeartbeats 2000000
set_option maxRecDepth 10000
set_option linter.unusedSimpArgs false
set_option linter.unusedVariables false
attribute [local irreducible] thenQ blockQ RetQ AL AW AC AOp

abbrev ckV (k : Ck) : V := .a [.d (.l k.ctx.length (vecD k.ctx)), bv k.dotted, sv (bs k.dot.1), iv .u64 k.dot.2]
def Ck.fits (k : Ck) : Prop := k.ctx.fits ∧ k.dot.1.length ≤ 9223372036854775807 ∧ k.dot.2 < 18446744073709551616

theorem vector_Count (v : Vec) (a : List UInt8) (hv : v.length ≤ 9223372036854775807) : AC Try.prog 97 [.d (.l v.length (vecD v)), sv (bs a)] [] fun x σ => x = iv .u64 (v.count a) ∧ σ = [] := by
  refine AC.walk Try.func97 rfl (by decide) (of_decide_eq_true rfl) ?_
  generalize hR : v.count a = R
  focus (have kxs : 987654321 = 987654320 + 1 := rfl; (repeat' (first | refine G ?_ | refine AW.ret ?_ | (refine GC ?_ ?_ <;> intro h <;> (try simp only [hsB] at h) <;> try (exfalso; first | omega | contradiction)) | (refine GL ?_ ?_ <;> intro h <;> (try simp only [Bool.not_true, Bool.not_false] at h) <;> (try simp only [h]) <;> (try simp only [hsB] at h) <;> try (exfalso; first | omega | contradiction)) | fail)); all_goals clear kxs)
  refine AW.rounds [1, 4, 7, 8, 9] (fun i : Nat => [(1, sv (bs a)), (4, iv .u64 0), (7, .d (.l v.length (vecD v))), (8, iv .i64 v.length), (9, iv .i64 i)]) (fun _ => [])
    (fun i => i ≤ v.length ∧ Vec.count (v.drop i) a = R) (fun i => v.length - i) 0 ⟨Nat.zero_le _, hR⟩ rfl rfl (fun _ _ => Nat.zero_le _) (fun _ _ => rfl) (fun _ _ => rfl) ?_
  rintro i ⟨hi, hr⟩ J hJ
  by_cases hil : i < v.length
  · obtain ⟨x, r, hd⟩ := next_at hil
    have hcd := vec_drop hd
    rw [hd] at hr
    have hR2 : R = if x.1 = a then x.2 else Vec.count r a := hr.symm
    by_cases hx : x.1 = a
    · rw [if_pos hx] at hR2
      subst hR2
      focus (have kxs := hcd; (repeat' (first | refine G ?_ | refine AW.ret ?_ | (refine GC ?_ ?_ <;> intro h <;> (try simp only [hsB] at h) <;> try (exfalso; first | omega | contradiction)) | (refine GL ?_ ?_ <;> intro h <;> (try simp only [Bool.not_true, Bool.not_false] at h) <;> (try simp only [h]) <;> (try simp only [hsB] at h) <;> try (exfalso; first | omega | contradiction)) | fail)); all_goals clear kxs)
      all_goals first | (first | exact RetQ.zr 0 | exact RetQ.zn 0 | fail) | (exfalso; simp_all; done)
    · rw [if_neg hx] at hR2
      focus (have kxs := hcd; (repeat' (first | refine G ?_ | refine AW.ret ?_ | (refine GC ?_ ?_ <;> intro h <;> (try simp only [hsB] at h) <;> try (exfalso; first | omega | contradiction)) | (refine GL ?_ ?_ <;> intro h <;> (try simp only [Bool.not_true, Bool.not_false] at h) <;> (try simp only [h]) <;> (try simp only [hsB] at h) <;> try (exfalso; first | omega | contradiction)) | fail)); all_goals clear kxs)
      all_goals first | (refine hJ (i + 1) _ _ (by omega) ⟨hil, by rw [next_drop hd]; exact hR2.symm⟩ rfl rfl) | (exfalso; simp_all; done)
  · have h0 : v.drop i = [] := List.drop_eq_nil_of_le (by omega)
    rw [h0] at hr
    have hR0 : R = 0 := hr.symm
    rw [hR0]
    focus (have kxs : 987654321 = 987654320 + 1 := rfl; (repeat' (first | refine G ?_ | refine AW.ret ?_ | (refine GC ?_ ?_ <;> intro h <;> (try simp only [hsB] at h) <;> try (exfalso; first | omega | contradiction)) | (refine GL ?_ ?_ <;> intro h <;> (try simp only [Bool.not_true, Bool.not_false] at h) <;> (try simp only [h]) <;> (try simp only [hsB] at h) <;> try (exfalso; first | omega | contradiction)) | fail)); all_goals clear kxs)
    all_goals first | (first | exact RetQ.zr 0 | exact RetQ.zn 0 | fail) | ((all_goals first | exact RetQ.fr 0 | exact RetQ.fn 0 | fail); done)
theorem ref10_Count (v : Vec) (a : List UInt8) (hv : v.length ≤ 9223372036854775807) : AC Try.prog 108 [.d (.l v.length (vecD v)), sv (bs a)] [] fun x σ => x = iv .u64 (v.count a) ∧ σ = [] := by
  refine AC.walk Try.func108 rfl (by decide) (of_decide_eq_true rfl) ?_
  generalize hR : v.count a = R
  focus (have kxs : 987654321 = 987654320 + 1 := rfl; (repeat' (first | refine G ?_ | refine AW.ret ?_ | (refine GC ?_ ?_ <;> intro h <;> (try simp only [hsB] at h) <;> try (exfalso; first | omega | contradiction)) | (refine GL ?_ ?_ <;> intro h <;> (try simp only [Bool.not_true, Bool.not_false] at h) <;> (try simp only [h]) <;> (try simp only [hsB] at h) <;> try (exfalso; first | omega | contradiction)) | fail)); all_goals clear kxs)
  refine AW.rounds [0, 1, 4, 5] (fun i : Nat => [(0, .d (.l v.length (vecD v))), (1, sv (bs a)), (4, iv .u64 0), (5, iv .i64 i)]) (fun _ => [])
    (fun i => i ≤ v.length ∧ Vec.count (v.drop i) a = R) (fun i => v.length - i) 0 ⟨Nat.zero_le _, hR⟩ rfl rfl (fun _ _ => Nat.zero_le _) (fun _ _ => rfl) (fun _ _ => rfl) ?_
  rintro i ⟨hi, hr⟩ J hJ
  by_cases hil : i < v.length
  · obtain ⟨x, r, hd⟩ := next_at hil
    have hcd := vec_drop hd
    rw [hd] at hr
    have hR2 : R = if x.1 = a then x.2 else Vec.count r a := hr.symm
    by_cases hx : x.1 = a
    · rw [if_pos hx] at hR2
      subst hR2
      focus (have kxs := hcd; (repeat' (first | refine G ?_ | refine AW.ret ?_ | (refine GC ?_ ?_ <;> intro h <;> (try simp only [hsB] at h) <;> try (exfalso; first | omega | contradiction)) | (refine GL ?_ ?_ <;> intro h <;> (try simp only [Bool.not_true, Bool.not_false] at h) <;> (try simp only [h]) <;> (try simp only [hsB] at h) <;> try (exfalso; first | omega | contradiction)) | fail)); all_goals clear kxs)
      all_goals first | (first | exact RetQ.zr 0 | exact RetQ.zn 0 | fail) | (exfalso; simp_all; done)
    · rw [if_neg hx] at hR2
      focus (have kxs := hcd; (repeat' (first | refine G ?_ | refine AW.ret ?_ | (refine GC ?_ ?_ <;> intro h <;> (try simp only [hsB] at h) <;> try (exfalso; first | omega | contradiction)) | (refine GL ?_ ?_ <;> intro h <;> (try simp only [Bool.not_true, Bool.not_false] at h) <;> (try simp only [h]) <;> (try simp only [hsB] at h) <;> try (exfalso; first | omega | contradiction)) | fail)); all_goals clear kxs)
      all_goals first | (refine hJ (i + 1) _ _ (by omega) ⟨hil, by rw [next_drop hd]; exact hR2.symm⟩ rfl rfl) | (exfalso; simp_all; done)
  · have h0 : v.drop i = [] := List.drop_eq_nil_of_le (by omega)
    rw [h0] at hr
    have hR0 : R = 0 := hr.symm
    rw [hR0]
    focus (have kxs : 987654321 = 987654320 + 1 := rfl; (repeat' (first | refine G ?_ | refine AW.ret ?_ | (refine GC ?_ ?_ <;> intro h <;> (try simp only [hsB] at h) <;> try (exfalso; first | omega | contradiction)) | (refine GL ?_ ?_ <;> intro h <;> (try simp only [Bool.not_true, Bool.not_false] at h) <;> (try simp only [h]) <;> (try simp only [hsB] at h) <;> try (exfalso; first | omega | contradiction)) | fail)); all_goals clear kxs)
    all_goals first | (first | exact RetQ.zr 0 | exact RetQ.zn 0 | fail) | ((all_goals first | exact RetQ.fr 0 | exact RetQ.fn 0 | fail); done)

theorem dotted_Check (k : Ck) (hk : k.fits) : AC Try.prog 57 [ckV k] [] fun x σ => x = iv .i64 k.check ∧ σ = [] := by
  obtain ⟨v, f, t, n⟩ := k
  obtain ⟨hv, ht, hn⟩ := hk
  simp only at hv ht hn
  refine AC.walk Try.func57 rfl (by decide) (of_decide_eq_true rfl) ?_
  by_cases hc : v.check = 0
  case neg =>
    have hR : Ck.check ⟨v, f, (t, n)⟩ = v.check := by unfold Ck.check; rw [if_pos hc]
    rw [hR]
    focus (have kxs : 987654321 = 987654320 + 1 := rfl; have kk1 := uN [] (vector_Check v hv); (repeat' (first | (refine ADr.nil ?_; try clear hgv) | refine GO ?_ | refine AW.ret ?_ | (refine GC ?_ ?_ <;> intro h <;> (try simp only [hsB] at h) <;> try (exfalso; first | omega | contradiction)) | (refine GD ?_ ?_ <;> intro h <;> (try intro hgv) <;> (try simp only [Bool.not_true, Bool.not_false] at h) <;> (try simp only [h]) <;> (try simp only [hsB] at h) <;> try (exfalso; first | omega | contradiction)) | (refine GL ?_ ?_ <;> intro h <;> (try simp only [Bool.not_true, Bool.not_false] at h) <;> (try simp only [h]) <;> (try simp only [hsB] at h) <;> try (exfalso; first | omega | contradiction)) | fail)); all_goals clear kxs kk1)
    all_goals first | (first | exact RetQ.zr 0 | exact RetQ.zn 0 | fail) | (exfalso; simp_all; done)
  cases f with
  | false =>
    by_cases hz : t = [] ∧ n = 0
    · obtain ⟨rfl, rfl⟩ := hz
      have hR : Ck.check ⟨v, false, ([], 0)⟩ = 0 := by unfold Ck.check; simp [hc]
      rw [hR]
      focus (have kxs := hc; have kk1 := uN [] (vector_Check v hv); (repeat' (first | (refine ADr.nil ?_; try clear hgv) | refine GO ?_ | refine AW.ret ?_ | (refine GC ?_ ?_ <;> intro h <;> (try simp only [hsB] at h) <;> try (exfalso; first | omega | contradiction)) | (refine GD ?_ ?_ <;> intro h <;> (try intro hgv) <;> (try simp only [Bool.not_true, Bool.not_false] at h) <;> (try simp only [h]) <;> (try simp only [hsB] at h) <;> try (exfalso; first | omega | contradiction)) | (refine GL ?_ ?_ <;> intro h <;> (try simp only [Bool.not_true, Bool.not_false] at h) <;> (try simp only [h]) <;> (try simp only [hsB] at h) <;> try (exfalso; first | omega | contradiction)) | fail)); all_goals clear kxs kk1)
      all_goals first | (first | exact RetQ.zr 0 | exact RetQ.zn 0 | fail) | (exfalso; simp_all; done)
    · have hR : Ck.check ⟨v, false, (t, n)⟩ = 1 := by
        unfold Ck.check
        simp only
        rw [if_neg (by simpa using hc), if_pos trivial, if_pos (by intro e; exact hz ⟨(Prod.mk.inj e).1, (Prod.mk.inj e).2⟩)]
      rw [hR]
      focus (have kxs := hc; have kk1 := uN [] (vector_Check v hv); (repeat' (first | (refine ADr.nil ?_; try clear hgv) | refine GO ?_ | refine AW.ret ?_ | (refine GC ?_ ?_ <;> intro h <;> (try simp only [hsB] at h) <;> try (exfalso; first | omega | contradiction)) | (refine GD ?_ ?_ <;> intro h <;> (try intro hgv) <;> (try simp only [Bool.not_true, Bool.not_false] at h) <;> (try simp only [h]) <;> (try simp only [hsB] at h) <;> try (exfalso; first | omega | contradiction)) | (refine GL ?_ ?_ <;> intro h <;> (try simp only [Bool.not_true, Bool.not_false] at h) <;> (try simp only [h]) <;> (try simp only [hsB] at h) <;> try (exfalso; first | omega | contradiction)) | fail)); all_goals clear kxs kk1)
      all_goals first | (first | exact RetQ.zr 0 | exact RetQ.zn 0 | fail) | (exfalso; simp_all; try omega)
  | true =>
    have hR : Ck.check ⟨v, true, (t, n)⟩ = if 32 < t.length then 3 else if t = [] then 14 else if n = 0 then 7 else if n ≤ v.count t then 15 else 0 := by unfold Ck.check; simp [hc]
    rw [hR]
    clear hR
    focus (have kxs := hc; have kk1 := uN [] (vector_Check v hv); have kk2 := uN [] (vector_Count v t hv.1); (repeat' (first | (refine ADr.nil ?_; try clear hgv) | refine GO ?_ | refine AW.ret ?_ | (refine GC ?_ ?_ <;> intro h <;> (try simp only [hsB] at h) <;> try (exfalso; first | omega | contradiction)) | (refine GD ?_ ?_ <;> intro h <;> (try intro hgv) <;> (try simp only [Bool.not_true, Bool.not_false] at h) <;> (try simp only [h]) <;> (try simp only [hsB] at h) <;> try (exfalso; first | omega | contradiction)) | (refine GL ?_ ?_ <;> intro h <;> (try simp only [Bool.not_true, Bool.not_false] at h) <;> (try simp only [h]) <;> (try simp only [hsB] at h) <;> try (exfalso; first | omega | contradiction)) | fail)); all_goals clear kxs kk1 kk2)
    all_goals first
      | (rw [if_pos (by omega)]; (first | exact RetQ.zr 0 | exact RetQ.zn 0 | fail))
      | (rw [if_neg (by omega), if_pos (by first | assumption | simp_all)]; (first | exact RetQ.zr 0 | exact RetQ.zn 0 | fail))
      | (rw [if_neg (by omega), if_neg (by first | assumption | simp_all), if_pos (by omega)]; (first | exact RetQ.zr 0 | exact RetQ.zn 0 | fail))
      | (rw [if_neg (by omega), if_neg (by first | assumption | simp_all), if_neg (by omega), if_pos (by omega)]; (first | exact RetQ.zr 0 | exact RetQ.zn 0 | fail))
      | (rw [if_neg (by omega), if_neg (by first | assumption | simp_all), if_neg (by omega), if_neg (by omega)]; (first | exact RetQ.zr 0 | exact RetQ.zn 0 | fail))
theorem ref12_Check (k : Ck) (hk : k.fits) : AC Try.prog 67 [ckV k] [] fun x σ => x = iv .i64 k.check ∧ σ = [] := by
  obtain ⟨v, f, t, n⟩ := k
  obtain ⟨hv, ht, hn⟩ := hk
  simp only at hv ht hn
  refine AC.walk Try.func67 rfl (by decide) (of_decide_eq_true rfl) ?_
  by_cases hc : v.check = 0
  case neg =>
    have hR : Ck.check ⟨v, f, (t, n)⟩ = v.check := by unfold Ck.check; rw [if_pos hc]
    rw [hR]
    focus (have kxs : 987654321 = 987654320 + 1 := rfl; have kk1 := uN [] (ref10_Check v hv); (repeat' (first | (refine ADr.nil ?_; try clear hgv) | refine GO ?_ | refine AW.ret ?_ | (refine GC ?_ ?_ <;> intro h <;> (try simp only [hsB] at h) <;> try (exfalso; first | omega | contradiction)) | (refine GD ?_ ?_ <;> intro h <;> (try intro hgv) <;> (try simp only [Bool.not_true, Bool.not_false] at h) <;> (try simp only [h]) <;> (try simp only [hsB] at h) <;> try (exfalso; first | omega | contradiction)) | (refine GL ?_ ?_ <;> intro h <;> (try simp only [Bool.not_true, Bool.not_false] at h) <;> (try simp only [h]) <;> (try simp only [hsB] at h) <;> try (exfalso; first | omega | contradiction)) | fail)); all_goals clear kxs kk1)
    all_goals first | (first | exact RetQ.zr 0 | exact RetQ.zn 0 | fail) | (exfalso; simp_all; done)
  cases f with
  | false =>
    by_cases hz : t = [] ∧ n = 0
    · obtain ⟨rfl, rfl⟩ := hz
      have hR : Ck.check ⟨v, false, ([], 0)⟩ = 0 := by unfold Ck.check; simp [hc]
      rw [hR]
      focus (have kxs := hc; have kk1 := uN [] (ref10_Check v hv); (repeat' (first | (refine ADr.nil ?_; try clear hgv) | refine GO ?_ | refine AW.ret ?_ | (refine GC ?_ ?_ <;> intro h <;> (try simp only [hsB] at h) <;> try (exfalso; first | omega | contradiction)) | (refine GD ?_ ?_ <;> intro h <;> (try intro hgv) <;> (try simp only [Bool.not_true, Bool.not_false] at h) <;> (try simp only [h]) <;> (try simp only [hsB] at h) <;> try (exfalso; first | omega | contradiction)) | (refine GL ?_ ?_ <;> intro h <;> (try simp only [Bool.not_true, Bool.not_false] at h) <;> (try simp only [h]) <;> (try simp only [hsB] at h) <;> try (exfalso; first | omega | contradiction)) | fail)); all_goals clear kxs kk1)
      all_goals first | (first | exact RetQ.zr 0 | exact RetQ.zn 0 | fail) | (exfalso; simp_all; done)
    · have hR : Ck.check ⟨v, false, (t, n)⟩ = 1 := by
        unfold Ck.check
        simp only
        rw [if_neg (by simpa using hc), if_pos trivial, if_pos (by intro e; exact hz ⟨(Prod.mk.inj e).1, (Prod.mk.inj e).2⟩)]
      rw [hR]
      focus (have kxs := hc; have kk1 := uN [] (ref10_Check v hv); (repeat' (first | (refine ADr.nil ?_; try clear hgv) | refine GO ?_ | refine AW.ret ?_ | (refine GC ?_ ?_ <;> intro h <;> (try simp only [hsB] at h) <;> try (exfalso; first | omega | contradiction)) | (refine GD ?_ ?_ <;> intro h <;> (try intro hgv) <;> (try simp only [Bool.not_true, Bool.not_false] at h) <;> (try simp only [h]) <;> (try simp only [hsB] at h) <;> try (exfalso; first | omega | contradiction)) | (refine GL ?_ ?_ <;> intro h <;> (try simp only [Bool.not_true, Bool.not_false] at h) <;> (try simp only [h]) <;> (try simp only [hsB] at h) <;> try (exfalso; first | omega | contradiction)) | fail)); all_goals clear kxs kk1)
      all_goals first | (first | exact RetQ.zr 0 | exact RetQ.zn 0 | fail) | (exfalso; simp_all; try omega)
  | true =>
    have hR : Ck.check ⟨v, true, (t, n)⟩ = if 32 < t.length then 3 else if t = [] then 14 else if n = 0 then 7 else if n ≤ v.count t then 15 else 0 := by unfold Ck.check; simp [hc]
    rw [hR]
    clear hR
    have hxe : t = [] ↔ t.length = 0 := by simp
    focus (have kxs := hc; have kk1 := uN [] (ref10_Check v hv); have kk2 := uN [] (ref10_Count v t hv.1); (repeat' (first | (refine ADr.nil ?_; try clear hgv) | refine GO ?_ | refine AW.ret ?_ | (refine GC ?_ ?_ <;> intro h <;> (try simp only [hsB] at h) <;> try (exfalso; first | omega | contradiction)) | (refine GD ?_ ?_ <;> intro h <;> (try intro hgv) <;> (try simp only [Bool.not_true, Bool.not_false] at h) <;> (try simp only [h]) <;> (try simp only [hsB] at h) <;> try (exfalso; first | omega | contradiction)) | (refine GL ?_ ?_ <;> intro h <;> (try simp only [Bool.not_true, Bool.not_false] at h) <;> (try simp only [h]) <;> (try simp only [hsB] at h) <;> try (exfalso; first | omega | contradiction)) | fail)); all_goals clear kxs kk1 kk2)
    all_goals first
      | (rw [if_pos (by omega)]; (first | exact RetQ.zr 0 | exact RetQ.zn 0 | fail))
      | (rw [if_neg (by omega), if_pos (by rw [hxe]; omega)]; (first | exact RetQ.zr 0 | exact RetQ.zn 0 | fail))
      | (rw [if_neg (by omega), if_neg (by rw [hxe]; omega), if_pos (by omega)]; (first | exact RetQ.zr 0 | exact RetQ.zn 0 | fail))
      | (rw [if_neg (by omega), if_neg (by rw [hxe]; omega), if_neg (by omega), if_pos (by omega)]; (first | exact RetQ.zr 0 | exact RetQ.zn 0 | fail))
      | (rw [if_neg (by omega), if_neg (by rw [hxe]; omega), if_neg (by omega), if_neg (by omega)]; (first | exact RetQ.zr 0 | exact RetQ.zn 0 | fail))
theorem ck_eq (k o : Ck) : (decide (k.ctx = o.ctx) && (decide (k.dotted = o.dotted) && (decide (k.dot.1 = o.dot.1) && (decide ((k.dot.2 : Int) = o.dot.2) && true)))) = true ↔ k = o := by
  obtain ⟨a, b, c, d⟩ := k
  obtain ⟨a', b', c', d'⟩ := o
  simp only [Bool.and_eq_true, decide_eq_true_eq, and_true, Int.natCast_inj, Ck.mk.injEq, Prod.mk.injEq]
instance : DecidableEq Ck := fun k o => decidable_of_iff _ (ck_eq k o)
theorem ref12_Same (k o : Ck) (hk : k.ctx.length ≤ 9223372036854775807) : AC Try.prog 62 [ckV k, ckV o] [] fun x σ => x = bv (decide (k = o)) ∧ σ = [] := by
  refine AC.walk Try.func62 rfl (by decide) (of_decide_eq_true rfl) ?_
  have hR : decide (k = o) = (decide (k.ctx = o.ctx) && (decide (k.dotted = o.dotted) && (decide (k.dot.1 = o.dot.1) && (decide ((k.dot.2 : Int) = o.dot.2) && true)))) := by
    rw [Bool.eq_iff_iff, decide_eq_true_eq]; exact (ck_eq k o).symm
  rw [hR]
  clear hR
  rcases Bool.eq_false_or_eq_true (decide (k.ctx = o.ctx)) with e1 | e1 <;> rcases Bool.eq_false_or_eq_true (decide (k.dotted = o.dotted)) with e2 | e2
  all_goals
    rw [e1, e2]
    focus (have kxs := And.intro e1 e2; have kk1 := uN [] (ref10_Same k.ctx o.ctx hk); (repeat' (first | refine G ?_ | refine AW.ret ?_ | (refine GC ?_ ?_ <;> intro h <;> (try simp only [hsB] at h) <;> try (exfalso; first | omega | contradiction)) | (refine GL ?_ ?_ <;> intro h <;> (try simp only [Bool.not_true, Bool.not_false] at h) <;> (try simp only [h]) <;> (try simp only [hsB] at h) <;> try (exfalso; first | omega | contradiction)) | fail)); all_goals clear kxs kk1)
    all_goals first | ((all_goals first | exact RetQ.fr 0 | exact RetQ.fn 0 | fail); done) | (exfalso; simp_all; done)
theorem ref12_Great (k : Ck) (hk : k.fits) : AC Try.prog 64 [ckV k] [] fun x σ => x = bv k.great ∧ σ = [] := by
  refine AC.walk Try.func64 rfl (by decide) (of_decide_eq_true rfl) ?_
  unfold Ck.great
  cases hg : k.ctx.great
  all_goals
    focus (have kxs := hg; have kk1 := uN [] (ref10_Great k.ctx hk.1); (repeat' (first | refine G ?_ | refine AW.ret ?_ | (refine GC ?_ ?_ <;> intro h <;> (try simp only [hsB] at h) <;> try (exfalso; first | omega | contradiction)) | (refine GL ?_ ?_ <;> intro h <;> (try simp only [Bool.not_true, Bool.not_false] at h) <;> (try simp only [h]) <;> (try simp only [hsB] at h) <;> try (exfalso; first | omega | contradiction)) | fail)); all_goals clear kxs kk1)
    all_goals first | ((all_goals first | exact RetQ.fr 0 | exact RetQ.fn 0 | fail); done) | (exfalso; simp_all; done)
end Go.AW
