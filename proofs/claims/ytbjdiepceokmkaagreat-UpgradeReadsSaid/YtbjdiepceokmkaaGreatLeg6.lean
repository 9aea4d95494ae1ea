/-
  old objects that are the same, or alike, or too great: the program's and the document's.
-/
import Derived.Test.YtbjdiepceokmkaaGreatLeg5
namespace Go.AW
open Go Go.Proofs
set_option maxHeartbeats 2000000
set_option maxRecDepth 10000
set_option linter.unusedSimpArgs false
set_option linter.unusedVariables false
attribute [local irreducible] thenQ blockQ RetQ AL AW AC AOp

theorem os_dec (k o : Os1) : decide (k = o) = (decide (k.clk = o.clk) && (decide (k.dead = o.dead) && decide (k.val = o.val))) := by
  obtain ⟨a, b, c⟩ := k
  obtain ⟨d, e, f⟩ := o
  rw [Bool.eq_iff_iff]
  simp
theorem ref17_One (k o : Os1) (hk : k.clk.length ≤ 9223372036854775807) : AC Tryz.prog 52 [osV k, osV o] [] fun x σ => x = bv (decide (k = o)) ∧ σ = [] := by
  refine AC.walk Tryz.func52 rfl (by decide) (of_decide_eq_true rfl) ?_
  rw [os_dec]
  rcases Bool.eq_false_or_eq_true (decide (k.clk = o.clk)) with e1 | e1 <;> rcases Bool.eq_false_or_eq_true (decide (k.dead = o.dead)) with e2 | e2
  all_goals
    rw [e1, e2]
    focus (have kxs := And.intro e1 e2; have kk1 := uN [] (ref10_Same k.clk o.clk hk); (repeat' (first | refine G ?_ | refine AW.ret ?_ | (refine GC ?_ ?_ <;> intro h <;> (try simp only [hsB] at h) <;> try (exfalso; first | omega | contradiction)) | (refine GL ?_ ?_ <;> intro h <;> (try simp only [Bool.not_true, Bool.not_false] at h) <;> (try simp only [h]) <;> (try simp only [hsB] at h) <;> try (exfalso; first | omega | contradiction)) | fail)); all_goals clear kxs kk1)
    all_goals first | ((all_goals first | exact RetQ.fr 0 | exact RetQ.fn 0 | fail); done) | (exfalso; simp_all; done)
theorem legacy_same (k o : Os1) (hk : k.clk.length ≤ 9223372036854775807) : AC Tryz.prog 51 [osV k, osV o] [] fun x σ => x = bv (decide (k = o)) ∧ σ = [] := by
  refine AC.walk Tryz.func51 rfl (by decide) (of_decide_eq_true rfl) ?_
  rw [os_dec]
  rcases Bool.eq_false_or_eq_true (decide (k.clk = o.clk)) with e1 | e1 <;> rcases Bool.eq_false_or_eq_true (decide (k.dead = o.dead)) with e2 | e2
  all_goals
    rw [e1, e2]
    focus (have kxs := And.intro e1 e2; have kk1 := uN [] (vector_Same k.clk o.clk hk); (repeat' (first | refine G ?_ | refine AW.ret ?_ | (refine GC ?_ ?_ <;> intro h <;> (try simp only [hsB] at h) <;> try (exfalso; first | omega | contradiction)) | (refine GL ?_ ?_ <;> intro h <;> (try simp only [Bool.not_true, Bool.not_false] at h) <;> (try simp only [h]) <;> (try simp only [hsB] at h) <;> try (exfalso; first | omega | contradiction)) | fail)); all_goals clear kxs kk1)
    all_goals first | ((all_goals first | exact RetQ.fr 0 | exact RetQ.fn 0 | fail); done) | (exfalso; simp_all; done)

theorem ref17_Great (o : Od) (ho : o.fits) : AC Tryz.prog 9 [odV o] [] fun x σ => x = bv o.great ∧ σ = [] := by
  obtain ⟨key, l⟩ := o
  obtain ⟨hk, hl, hf⟩ := ho
  simp only at hk hl hf
  refine AC.walk Tryz.func9 rfl (by decide) (of_decide_eq_true rfl) ?_
  by_cases h0 : 200 < key.length ∨ 20 < l.length
  · have hc : Od.great ⟨key, l⟩ = true := by unfold Od.great; rcases h0 with h | h <;> simp [h]
    rw [hc]
    focus (have kxs : 987654321 = 987654320 + 1 := rfl; (repeat' (first | refine G ?_ | refine AW.ret ?_ | (refine GC ?_ ?_ <;> intro h <;> (try simp only [hsB] at h) <;> try (exfalso; first | omega | contradiction)) | (refine GL ?_ ?_ <;> intro h <;> (try simp only [Bool.not_true, Bool.not_false] at h) <;> (try simp only [h]) <;> (try simp only [hsB] at h) <;> try (exfalso; first | omega | contradiction)) | fail)); all_goals clear kxs)
    all_goals first | (exfalso; omega) | ((all_goals first | exact RetQ.fr 0 | exact RetQ.fn 0 | fail); done)
  generalize hR : (l.any fun x => x.clk.great || decide (200 < x.val.length)) = R
  have hc : Od.great ⟨key, l⟩ = R := by
    unfold Od.great
    simp only
    rw [hR, decide_eq_false (fun h => h0 (.inl h)), decide_eq_false (fun h => h0 (.inr h))]; rfl
  rw [hc]
  focus (have kxs : 987654321 = 987654320 + 1 := rfl; (repeat' (first | refine G ?_ | refine AW.ret ?_ | (refine GC ?_ ?_ <;> intro h <;> (try simp only [hsB] at h) <;> try (exfalso; first | omega | contradiction)) | (refine GL ?_ ?_ <;> intro h <;> (try simp only [Bool.not_true, Bool.not_false] at h) <;> (try simp only [h]) <;> (try simp only [hsB] at h) <;> try (exfalso; first | omega | contradiction)) | fail)); all_goals clear kxs)
  all_goals first | (exfalso; omega) | skip
  refine AW.rounds [1, 2, 3] (fun i : Nat => [(1, .p 0 0), (2, bv false), (3, iv .i64 i)]) (fun _ => [.box 35 [sv (bs key), .d (.l l.length (ossD l))]])
    (fun i => i ≤ l.length ∧ ((l.drop i).any fun x => x.clk.great || decide (200 < x.val.length)) = R) (fun i => l.length - i) 0 ⟨Nat.zero_le _, hR⟩ rfl rfl (fun _ _ => Nat.zero_le _) (fun _ _ => rfl) (fun _ _ => rfl) ?_
  rintro i ⟨hi, hr⟩ J hJ
  by_cases hil : i < l.length
  · obtain ⟨x, r, hd⟩ := next_at hil
    have hcd := oss_drop hd
    have hnd := next_drop hd
    rw [hd, List.any_cons] at hr
    have hfx := hf x (next_mem hd)
    by_cases hg : x.clk.great = true
    · rw [hg, Bool.true_or, Bool.true_or] at hr
      rw [← hr]
      focus (have kxs := And.intro hcd hg; have kk1 := uN [] (ref10_Great x.clk hfx.1); (repeat' (first | refine G ?_ | refine AW.ret ?_ | (refine GC ?_ ?_ <;> intro h <;> (try simp only [hsB] at h) <;> try (exfalso; first | omega | contradiction)) | (refine GL ?_ ?_ <;> intro h <;> (try simp only [Bool.not_true, Bool.not_false] at h) <;> (try simp only [h]) <;> (try simp only [hsB] at h) <;> try (exfalso; first | omega | contradiction)) | fail)); all_goals clear kxs kk1)
      all_goals first | ((all_goals first | exact RetQ.fr 0 | exact RetQ.fn 0 | fail); done) | (exfalso; simp_all; done)
    have hg : x.clk.great = false := by simpa using hg
    rw [hg, Bool.false_or] at hr
    by_cases hv : 200 < x.val.length
    · rw [decide_eq_true hv, Bool.true_or] at hr
      rw [← hr]
      focus (have kxs := And.intro hcd hg; have kk1 := uN [] (ref10_Great x.clk hfx.1); (repeat' (first | refine G ?_ | refine AW.ret ?_ | (refine GC ?_ ?_ <;> intro h <;> (try simp only [hsB] at h) <;> try (exfalso; first | omega | contradiction)) | (refine GL ?_ ?_ <;> intro h <;> (try simp only [Bool.not_true, Bool.not_false] at h) <;> (try simp only [h]) <;> (try simp only [hsB] at h) <;> try (exfalso; first | omega | contradiction)) | fail)); all_goals clear kxs kk1)
      all_goals first | (exfalso; omega) | ((all_goals first | exact RetQ.fr 0 | exact RetQ.fn 0 | fail); done) | (exfalso; simp_all; done)
    rw [decide_eq_false hv, Bool.false_or] at hr
    focus (have kxs := And.intro hcd hg; have kk1 := uN [] (ref10_Great x.clk hfx.1); (repeat' (first | refine G ?_ | refine AW.ret ?_ | (refine GC ?_ ?_ <;> intro h <;> (try simp only [hsB] at h) <;> try (exfalso; first | omega | contradiction)) | (refine GL ?_ ?_ <;> intro h <;> (try simp only [Bool.not_true, Bool.not_false] at h) <;> (try simp only [h]) <;> (try simp only [hsB] at h) <;> try (exfalso; first | omega | contradiction)) | fail)); all_goals clear kxs kk1)
    all_goals first | (exfalso; omega) | (refine hJ (i + 1) _ _ (by omega) ⟨hil, by rw [hnd]; exact hr⟩ rfl rfl) | (exfalso; simp_all; done)
  · have h0 : l.drop i = [] := List.drop_eq_nil_of_le (by omega)
    rw [h0] at hr
    have hR0 : R = false := hr.symm
    rw [hR0]
    focus (have kxs : 987654321 = 987654320 + 1 := rfl; (repeat' (first | refine G ?_ | refine AW.ret ?_ | (refine GC ?_ ?_ <;> intro h <;> (try simp only [hsB] at h) <;> try (exfalso; first | omega | contradiction)) | (refine GL ?_ ?_ <;> intro h <;> (try simp only [Bool.not_true, Bool.not_false] at h) <;> (try simp only [h]) <;> (try simp only [hsB] at h) <;> try (exfalso; first | omega | contradiction)) | fail)); all_goals clear kxs)
    all_goals first | ((all_goals first | exact RetQ.fr 0 | exact RetQ.fn 0 | fail); done)

theorem od_dec (k o : Od) : decide (k = o) = (decide (k.key = o.key) && decide (k.sibs = o.sibs)) := by
  rw [Bool.eq_iff_iff, decide_eq_true_eq]; exact (od_eq k o).symm
end Go.AW
