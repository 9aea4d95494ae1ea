/-
  slices.IndexFunc, slices.ContainsFunc over siblings: with whatever closure that only looks.
-/
import Derived.Test.YtbjdiepceokmkaaGreatSeq
import Derived.Test.YtbjdiepceokmkaaGreatSib4
namespace Go.AW
open Go Go.Proofs
set_option maxHeartbeats 2000000
set_option maxRecDepth 10000
set_option linter.unusedSimpArgs false
set_option linter.unusedVariables false
attribute [local irreducible] thenQ blockQ RetQ AL AW AC AOp

theorem index_Sib (l : List Sb) (g : FuncId) (ca : List V) (σ : List Ob) (p : Sb → Bool) (hca : lts σ.length ca = true) (hσ : obsLt σ.length σ = true) (hnz : nzs ca = ca)
    (hl : l.length ≤ 9223372036854775807) (hc : ∀ x ∈ l, AC Tryz.prog g (sbV x :: ca) σ fun y σ' => y = bv (p x) ∧ σ' = σ) :
    AC Tryz.prog 87 [.d (.l l.length (sbsD l)), .f (.func g) [] ca] σ fun y σ' => y = iv .i64 (idx p l 0) ∧ σ' = σ := by
  refine AC.walk Tryz.func87 rfl (by decide) (of_decide_eq_true rfl) ?_
  generalize hR : idx p l 0 = R
  focus (have kxs : 987654321 = 987654320 + 1 := rfl; (repeat' (first | refine G ?_ | refine AW.ret ?_ | (refine GC ?_ ?_ <;> intro h <;> (try simp only [hsB] at h) <;> try (exfalso; first | omega | contradiction)) | (refine GL ?_ ?_ <;> intro h <;> (try simp only [Bool.not_true, Bool.not_false] at h) <;> (try simp only [h]) <;> (try simp only [hsB] at h) <;> try (exfalso; first | omega | contradiction)) | fail)); all_goals clear kxs)
  refine AW.rounds [0, 1, 4, 7, 8] (fun i : Nat => [(0, .d (.l l.length (sbsD l))), (1, .f (.func g) [] ca), (4, iv .i64 0), (7, iv .i64 l.length), (8, iv .i64 i)]) (fun _ => σ) (fun i => i ≤ l.length ∧ idx p (l.drop i) i = R) (fun i => l.length - i) 0 ⟨Nat.zero_le _, hR⟩ rfl (by simp)
    (fun _ _ => Nat.le_refl _) (fun _ _ => hσ) (fun _ _ => by simp [tLt, V.lt, hca, lts]) ?_
  rintro i ⟨hi, hr⟩ J hJ
  by_cases hil : i < l.length
  · obtain ⟨x, r, hd⟩ := next_at hil
    have hcx := hc x (next_mem hd)
    have hcd := sbs_drop hd
    rw [hd] at hr
    have hnx : nzs (sbV x :: ca) = sbV x :: ca := by
      show _ :: nzs ca = _
      rw [hnz]; rfl
    focus (have kxs := hcd; (repeat' (first | refine G ?_ | refine AW.ret ?_ | (refine GC ?_ ?_ <;> intro h <;> (try simp only [hsB] at h) <;> try (exfalso; first | omega | contradiction)) | (refine GL ?_ ?_ <;> intro h <;> (try simp only [Bool.not_true, Bool.not_false] at h) <;> (try simp only [h]) <;> (try simp only [hsB] at h) <;> try (exfalso; first | omega | contradiction)) | fail)); all_goals clear kxs)
    refine AL.callv (by decide) fun Kr hK => ?_
    refine AOp.cS (fun _ _ => rfl) rfl hcx hnx ?_
    rintro y obs ⟨hy, hobs⟩
    rw [hy, hobs]
    refine hK _ _ ?_
    clear hK Kr
    have hr2 : R = if p x = true then (i : Int) else idx p r (i + 1) := hr.symm
    cases hp : p x with
    | true =>
      rw [hp, if_pos rfl] at hr2
      rw [hr2]
      focus (have kxs : 987654321 = 987654320 + 1 := rfl; (repeat' (first | refine G ?_ | refine AW.ret ?_ | (refine GC ?_ ?_ <;> intro h <;> (try simp only [hsB] at h) <;> try (exfalso; first | omega | contradiction)) | (refine GL ?_ ?_ <;> intro h <;> (try simp only [Bool.not_true, Bool.not_false] at h) <;> (try simp only [h]) <;> (try simp only [hsB] at h) <;> try (exfalso; first | omega | contradiction)) | fail)); all_goals clear kxs)
      all_goals first | exact RetQ.r σ.length rfl (Nat.le_refl _) (by rw [List.take_length]; exact hσ) rfl ⟨rfl, List.take_length⟩ | (exfalso; simp_all; done)
    | false =>
      rw [hp, if_neg (by decide)] at hr2
      focus (have kxs : 987654321 = 987654320 + 1 := rfl; (repeat' (first | refine G ?_ | refine AW.ret ?_ | (refine GC ?_ ?_ <;> intro h <;> (try simp only [hsB] at h) <;> try (exfalso; first | omega | contradiction)) | (refine GL ?_ ?_ <;> intro h <;> (try simp only [Bool.not_true, Bool.not_false] at h) <;> (try simp only [h]) <;> (try simp only [hsB] at h) <;> try (exfalso; first | omega | contradiction)) | fail)); all_goals clear kxs)
      all_goals first | (refine hJ (i + 1) _ _ (by omega) ⟨hil, by rw [next_drop hd]; exact hr2.symm⟩ rfl (by simp)) | (exfalso; simp_all; done)
  · have h0 : l.drop i = [] := List.drop_eq_nil_of_le (by omega)
    rw [h0] at hr
    have hR0 : R = -1 := hr.symm
    rw [hR0]
    focus (have kxs : 987654321 = 987654320 + 1 := rfl; (repeat' (first | refine G ?_ | refine AW.ret ?_ | (refine GC ?_ ?_ <;> intro h <;> (try simp only [hsB] at h) <;> try (exfalso; first | omega | contradiction)) | (refine GL ?_ ?_ <;> intro h <;> (try simp only [Bool.not_true, Bool.not_false] at h) <;> (try simp only [h]) <;> (try simp only [hsB] at h) <;> try (exfalso; first | omega | contradiction)) | fail)); all_goals clear kxs)
    all_goals first | exact RetQ.r σ.length rfl (Nat.le_refl _) (by rw [List.take_length]; exact hσ) rfl ⟨rfl, List.take_length⟩ | (exfalso; simp_all; done)

theorem contains_Sib (l : List Sb) (g : FuncId) (ca : List V) (σ : List Ob) (p : Sb → Bool) (hca : lts σ.length ca = true) (hσ : obsLt σ.length σ = true) (hnz : nzs ca = ca)
    (hl : l.length ≤ 9223372036854775807) (hc : ∀ x ∈ l, AC Tryz.prog g (sbV x :: ca) σ fun y σ' => y = bv (p x) ∧ σ' = σ) :
    AC Tryz.prog 46 [.d (.l l.length (sbsD l)), .f (.func g) [] ca] σ fun y σ' => y = bv (l.any p) ∧ σ' = σ := by
  refine AC.walk Tryz.func46 rfl (by decide) (of_decide_eq_true rfl) ?_
  have hi := index_Sib l g ca σ p hca hσ hnz hl hc
  have ha := idx_any p l 0 (Int.le_refl 0)
  have hge : decide (idx p l 0 ≥ 0) = l.any p := ha
  focus (have kxs := hge; (repeat' (first | refine G ?_ | refine AW.ret ?_ | (refine GC ?_ ?_ <;> intro h <;> (try simp only [hsB] at h) <;> try (exfalso; first | omega | contradiction)) | (refine GL ?_ ?_ <;> intro h <;> (try simp only [Bool.not_true, Bool.not_false] at h) <;> (try simp only [h]) <;> (try simp only [hsB] at h) <;> try (exfalso; first | omega | contradiction)) | fail)); all_goals clear kxs)
  refine AL.callv (by decide) fun Kr hK => ?_
  refine AOp.cS (fun _ _ => rfl) rfl hi rfl ?_
  rintro y obs ⟨hy, hobs⟩
  rw [hy, hobs]
  refine hK _ _ ?_
  clear hK Kr
  focus (have kxs := hge; (repeat' (first | refine G ?_ | refine AW.ret ?_ | (refine GC ?_ ?_ <;> intro h <;> (try simp only [hsB] at h) <;> try (exfalso; first | omega | contradiction)) | (refine GL ?_ ?_ <;> intro h <;> (try simp only [Bool.not_true, Bool.not_false] at h) <;> (try simp only [h]) <;> (try simp only [hsB] at h) <;> try (exfalso; first | omega | contradiction)) | fail)); all_goals clear kxs)
  all_goals first | exact RetQ.r σ.length rfl (Nat.le_refl _) (by rw [List.take_length]; exact hσ) rfl ⟨rfl, List.take_length⟩ | (exfalso; simp_all; done)
end Go.AW
