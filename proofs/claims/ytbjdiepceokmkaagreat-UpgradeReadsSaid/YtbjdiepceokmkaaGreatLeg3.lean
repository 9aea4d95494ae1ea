/-
  old objects: the document's: what is right, what is written.
-/
import Derived.Test.YtbjdiepceokmkaaGreatLeg2
namespace Go.AW
open Go Go.Proofs
set_option maxHeartbeats 2000000
set_option maxRecDepth 10000
set_option linter.unusedSimpArgs false
set_option linter.unusedVariables false
attribute [local irreducible] thenQ blockQ RetQ AL AW AC AOp

theorem mem_take {α : Type} {l r : List α} {y : α} {k i : Nat} (h : l.drop k = y :: r) (hk : k < i) : y ∈ l.take i := by
  have h1 : y ∈ l.take (k + 1) := by rw [next_take h]; simp
  have h2 : l.take (k + 1) = (l.take i).take (k + 1) := by rw [List.take_take, Nat.min_eq_left (by omega)]
  rw [h2] at h1
  exact List.mem_of_mem_take h1

theorem ref17_Check (o : Od) (ho : o.fits) : AC Tryz.prog 10 [odV o] [] fun x σ => x = iv .i64 o.check ∧ σ = [] := by
  obtain ⟨key, l⟩ := o
  obtain ⟨hk, hl, hf⟩ := ho
  simp only at hk hl hf
  refine AC.walk Tryz.func10 rfl (by decide) (of_decide_eq_true rfl) ?_
  by_cases ho : outside key l.length = 0
  case neg =>
    have hR : Od.check ⟨key, l⟩ = outside key l.length := by unfold Od.check; rw [if_pos ho]
    rw [hR]
    unfold outside at ho ⊢
    have hke : key = [] ↔ key.length = 0 := List.length_eq_zero_iff.symm
    focus (have kxs : 987654321 = 987654320 + 1 := rfl; (repeat' (first | (refine ADr.nil ?_; try clear hgv) | refine GO ?_ | refine AW.ret ?_ | (refine GC ?_ ?_ <;> intro h <;> (try simp only [hsB] at h) <;> try (exfalso; first | omega | contradiction)) | (refine GD ?_ ?_ <;> intro h <;> (try intro hgv) <;> (try simp only [Bool.not_true, Bool.not_false] at h) <;> (try simp only [h]) <;> (try simp only [hsB] at h) <;> try (exfalso; first | omega | contradiction)) | (refine GL ?_ ?_ <;> intro h <;> (try simp only [Bool.not_true, Bool.not_false] at h) <;> (try simp only [h]) <;> (try simp only [hsB] at h) <;> try (exfalso; first | omega | contradiction)) | fail)); all_goals clear kxs)
    all_goals first
      | (rw [if_pos (by omega)]; (first | exact RetQ.zr 0 | exact RetQ.zn 0 | fail))
      | (rw [if_neg (by omega), if_pos (hke.2 (by omega))]; (first | exact RetQ.zr 0 | exact RetQ.zn 0 | fail))
      | (rw [if_neg (by omega), if_neg (fun e => absurd (hke.1 e) (by omega)), if_pos (by omega)]; (first | exact RetQ.zr 0 | exact RetQ.zn 0 | fail))
      | (rw [if_neg (by omega), if_neg (fun e => absurd (hke.1 e) (by omega)), if_neg (by omega), if_pos (by omega)]; (first | exact RetQ.zr 0 | exact RetQ.zn 0 | fail))
      | (exfalso; rw [if_neg (by omega), if_neg (fun e => absurd (hke.1 e) (by omega)), if_neg (by omega), if_neg (by omega)] at ho; exact ho rfl)
      | trace_state
  generalize hR : ocheck [] l = R
  have hc : Od.check ⟨key, l⟩ = R := by unfold Od.check; rw [if_neg (by simpa using ho), hR]
  rw [hc]
  obtain ⟨ho1, ho2, ho3, ho4⟩ := outside_zero.1 ho
  have ho2' : key.length ≠ 0 := fun e => ho2 (List.length_eq_zero_iff.1 e)
  focus (have kxs : 987654321 = 987654320 + 1 := rfl; (repeat' (first | (refine ADr.nil ?_; try clear hgv) | refine GO ?_ | refine AW.ret ?_ | (refine GC ?_ ?_ <;> intro h <;> (try simp only [hsB] at h) <;> try (exfalso; first | omega | contradiction)) | (refine GD ?_ ?_ <;> intro h <;> (try intro hgv) <;> (try simp only [Bool.not_true, Bool.not_false] at h) <;> (try simp only [h]) <;> (try simp only [hsB] at h) <;> try (exfalso; first | omega | contradiction)) | (refine GL ?_ ?_ <;> intro h <;> (try simp only [Bool.not_true, Bool.not_false] at h) <;> (try simp only [h]) <;> (try simp only [hsB] at h) <;> try (exfalso; first | omega | contradiction)) | fail)); all_goals clear kxs)
  all_goals first | (exfalso; omega) | (exfalso; simp_all; done) | skip
  refine AW.rounds [1, 2, 3] (fun i : Nat => [(1, .p 0 0), (2, iv .i64 0), (3, iv .i64 i)]) (fun _ => [.box 35 [sv (bs key), .d (.l l.length (ossD l))]])
    (fun i => i ≤ l.length ∧ ocheck ((l.take i).map Os1.clk) (l.drop i) = R) (fun i => l.length - i) 0 ⟨Nat.zero_le _, hR⟩ rfl rfl (fun _ _ => Nat.zero_le _) (fun _ _ => rfl) (fun _ _ => rfl) ?_
  rintro i ⟨hi, hr⟩ J hJ
  by_cases hil : i < l.length
  · obtain ⟨x, r, hd⟩ := next_at hil
    have hcd := oss_drop hd
    rw [hd] at hr
    have hR2 := ostep hr
    have hfx := hf x (next_mem hd)
    by_cases hcc : x.clk.check = 0
    case neg =>
      rw [if_pos hcc] at hR2
      rw [hR2]
      focus (have kxs := hcd; have kk1 := uN [] (ref10_Check x.clk hfx.1); (repeat' (first | (refine ADr.nil ?_; try clear hgv) | refine GO ?_ | refine AW.ret ?_ | (refine GC ?_ ?_ <;> intro h <;> (try simp only [hsB] at h) <;> try (exfalso; first | omega | contradiction)) | (refine GD ?_ ?_ <;> intro h <;> (try intro hgv) <;> (try simp only [Bool.not_true, Bool.not_false] at h) <;> (try simp only [h]) <;> (try simp only [hsB] at h) <;> try (exfalso; first | omega | contradiction)) | (refine GL ?_ ?_ <;> intro h <;> (try simp only [Bool.not_true, Bool.not_false] at h) <;> (try simp only [h]) <;> (try simp only [hsB] at h) <;> try (exfalso; first | omega | contradiction)) | fail)); all_goals clear kxs kk1)
      all_goals first | (first | exact RetQ.zr 0 | exact RetQ.zn 0 | fail) | (exfalso; simp_all; done)
    rw [if_neg (by simpa using hcc)] at hR2
    by_cases hvl : 32768 < x.val.length
    · rw [if_pos hvl] at hR2
      rw [hR2]
      focus (have kxs := And.intro hcd hcc; have kk1 := uN [] (ref10_Check x.clk hfx.1); (repeat' (first | (refine ADr.nil ?_; try clear hgv) | refine GO ?_ | refine AW.ret ?_ | (refine GC ?_ ?_ <;> intro h <;> (try simp only [hsB] at h) <;> try (exfalso; first | omega | contradiction)) | (refine GD ?_ ?_ <;> intro h <;> (try intro hgv) <;> (try simp only [Bool.not_true, Bool.not_false] at h) <;> (try simp only [h]) <;> (try simp only [hsB] at h) <;> try (exfalso; first | omega | contradiction)) | (refine GL ?_ ?_ <;> intro h <;> (try simp only [Bool.not_true, Bool.not_false] at h) <;> (try simp only [h]) <;> (try simp only [hsB] at h) <;> try (exfalso; first | omega | contradiction)) | fail)); all_goals clear kxs kk1)
      all_goals first | (first | exact RetQ.zr 0 | exact RetQ.zn 0 | fail) | (exfalso; omega) | (exfalso; simp_all; done)
    rw [if_neg hvl] at hR2
    focus (have kxs := And.intro hcd hcc; have kk1 := uN [] (ref10_Check x.clk hfx.1); (repeat' (first | (refine ADr.nil ?_; try clear hgv) | refine GO ?_ | refine AW.ret ?_ | (refine GC ?_ ?_ <;> intro h <;> (try simp only [hsB] at h) <;> try (exfalso; first | omega | contradiction)) | (refine GD ?_ ?_ <;> intro h <;> (try intro hgv) <;> (try simp only [Bool.not_true, Bool.not_false] at h) <;> (try simp only [h]) <;> (try simp only [hsB] at h) <;> try (exfalso; first | omega | contradiction)) | (refine GL ?_ ?_ <;> intro h <;> (try simp only [Bool.not_true, Bool.not_false] at h) <;> (try simp only [h]) <;> (try simp only [hsB] at h) <;> try (exfalso; first | omega | contradiction)) | fail)); all_goals clear kxs kk1)
    all_goals first | (exfalso; omega) | (exfalso; simp_all; done) | skip
    refine AW.rounds [1, 2, 3, 5] (fun k : Nat => [(1, .p 0 0), (2, iv .i64 0), (3, iv .i64 i), (5, iv .i64 k)]) (fun _ => [.box 35 [sv (bs key), .d (.l l.length (ossD l))]])
      (fun k => k ≤ i ∧ x.clk ∉ (l.take k).map Os1.clk) (fun k => i - k) 0 ⟨Nat.zero_le _, by simp⟩ rfl rfl (fun _ _ => Nat.zero_le _) (fun _ _ => rfl) (fun _ _ => rfl) ?_
    rintro k ⟨hki, hkr⟩ J' hJ'
    by_cases hkl : k < i
    · obtain ⟨y, r', hd'⟩ := next_at (show k < l.length by omega)
      have hcd' := oss_drop hd'
      have hfy := hf y (next_mem hd')
      by_cases hyx : y.clk = x.clk
      · have hm : x.clk ∈ (l.take i).map Os1.clk := List.mem_map.2 ⟨y, mem_take hd' hkl, hyx⟩
        rw [if_pos hm] at hR2
        rw [hR2]
        have hyd : decide (y.clk = x.clk) = true := decide_eq_true hyx
        focus (have kxs := And.intro hcd (And.intro hcd' hyd); have kk1 := uN [] (ref10_Same y.clk x.clk hfy.1.1); (repeat' (first | (refine ADr.nil ?_; try clear hgv) | refine GO ?_ | refine AW.ret ?_ | (refine GC ?_ ?_ <;> intro h <;> (try simp only [hsB] at h) <;> try (exfalso; first | omega | contradiction)) | (refine GD ?_ ?_ <;> intro h <;> (try intro hgv) <;> (try simp only [Bool.not_true, Bool.not_false] at h) <;> (try simp only [h]) <;> (try simp only [hsB] at h) <;> try (exfalso; first | omega | contradiction)) | (refine GL ?_ ?_ <;> intro h <;> (try simp only [Bool.not_true, Bool.not_false] at h) <;> (try simp only [h]) <;> (try simp only [hsB] at h) <;> try (exfalso; first | omega | contradiction)) | fail)); all_goals clear kxs kk1)
        all_goals first | (first | exact RetQ.zr 0 | exact RetQ.zn 0 | fail) | (exfalso; omega) | (exfalso; simp_all; done)
      · have hne : x.clk ∉ (l.take (k + 1)).map Os1.clk := by
          rw [next_take hd', List.map_append]
          intro h
          rcases List.mem_append.1 h with h | h
          · exact hkr h
          · exact hyx (List.mem_singleton.1 h).symm
        have hyd : decide (y.clk = x.clk) = false := decide_eq_false hyx
        focus (have kxs := And.intro hcd (And.intro hcd' hyd); have kk1 := uN [] (ref10_Same y.clk x.clk hfy.1.1); (repeat' (first | (refine ADr.nil ?_; try clear hgv) | refine GO ?_ | refine AW.ret ?_ | (refine GC ?_ ?_ <;> intro h <;> (try simp only [hsB] at h) <;> try (exfalso; first | omega | contradiction)) | (refine GD ?_ ?_ <;> intro h <;> (try intro hgv) <;> (try simp only [Bool.not_true, Bool.not_false] at h) <;> (try simp only [h]) <;> (try simp only [hsB] at h) <;> try (exfalso; first | omega | contradiction)) | (refine GL ?_ ?_ <;> intro h <;> (try simp only [Bool.not_true, Bool.not_false] at h) <;> (try simp only [h]) <;> (try simp only [hsB] at h) <;> try (exfalso; first | omega | contradiction)) | fail)); all_goals clear kxs kk1)
        all_goals first
          | (exact hJ' (k + 1) _ _ (by omega) ⟨hkl, hne⟩ rfl rfl)
          | (exfalso; omega) | (exfalso; simp_all; done)
    · have hki' : k = i := by omega
      subst hki'
      rw [if_neg hkr] at hR2
      focus (have kxs : 987654321 = 987654320 + 1 := rfl; (repeat' (first | (refine ADr.nil ?_; try clear hgv) | refine GO ?_ | refine AW.ret ?_ | (refine GC ?_ ?_ <;> intro h <;> (try simp only [hsB] at h) <;> try (exfalso; first | omega | contradiction)) | (refine GD ?_ ?_ <;> intro h <;> (try intro hgv) <;> (try simp only [Bool.not_true, Bool.not_false] at h) <;> (try simp only [h]) <;> (try simp only [hsB] at h) <;> try (exfalso; first | omega | contradiction)) | (refine GL ?_ ?_ <;> intro h <;> (try simp only [Bool.not_true, Bool.not_false] at h) <;> (try simp only [h]) <;> (try simp only [hsB] at h) <;> try (exfalso; first | omega | contradiction)) | fail)); all_goals clear kxs)
      all_goals first
        | (refine hJ (k + 1) _ _ (by omega) ⟨hil, ?_⟩ rfl rfl; rw [next_drop hd, next_take hd, List.map_append, hR2]; rfl)
        | (exfalso; omega) | (exfalso; simp_all; done)
  · have h0 : l.drop i = [] := List.drop_eq_nil_of_le (by omega)
    rw [h0] at hr
    have hR0 : R = 0 := hr.symm
    rw [hR0]
    focus (have kxs : 987654321 = 987654320 + 1 := rfl; (repeat' (first | (refine ADr.nil ?_; try clear hgv) | refine GO ?_ | refine AW.ret ?_ | (refine GC ?_ ?_ <;> intro h <;> (try simp only [hsB] at h) <;> try (exfalso; first | omega | contradiction)) | (refine GD ?_ ?_ <;> intro h <;> (try intro hgv) <;> (try simp only [Bool.not_true, Bool.not_false] at h) <;> (try simp only [h]) <;> (try simp only [hsB] at h) <;> try (exfalso; first | omega | contradiction)) | (refine GL ?_ ?_ <;> intro h <;> (try simp only [Bool.not_true, Bool.not_false] at h) <;> (try simp only [h]) <;> (try simp only [hsB] at h) <;> try (exfalso; first | omega | contradiction)) | fail)); all_goals clear kxs)
    all_goals first | (first | exact RetQ.zr 0 | exact RetQ.zn 0 | fail) | ((all_goals first | exact RetQ.fr 0 | exact RetQ.fn 0 | fail); done)

end Go.AW
