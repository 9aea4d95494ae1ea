/-
  slices.IndexFunc, slices.ContainsFunc: with whatever closure that only looks.
-/
import Derived.Test.YtbjdiepceokmkaaGreatAwGo
import Derived.Test.YtbjdiepceokmkaaGreatAwSelf
import Derived.Test.YtbjdiepceokmkaaGreatMc
namespace Go.AW
open Go Go.Proofs
set_option maxHeartbeats 2000000
set_option maxRecDepth 10000
set_option linter.unusedSimpArgs false
set_option linter.unusedVariables false
attribute [local irreducible] thenQ blockQ RetQ AL AW AC AOp

/-- The first place of a thing that is so, or -1. -/
def idx {α : Type} (p : α → Bool) : List α → Int → Int
  | [], _ => -1
  | x :: l, i => if p x = true then i else idx p l (i + 1)
theorem idx_any {α : Type} (p : α → Bool) : ∀ (l : List α) (i : Int), 0 ≤ i → decide (0 ≤ idx p l i) = l.any p
  | [], i, h => by simp [idx]
  | x :: l, i, h => by
    unfold idx
    rw [List.any_cons]
    split
    · rename_i hx; simp [hx, h]
    · rename_i hx
      rw [idx_any p l (i + 1) (by omega)]
      have : p x = false := by simpa using hx
      rw [this, Bool.false_or]

theorem index_OldSib {α : Type} (l : List α) (D3 : α → List D) (h3 : ∀ x, ∃ a b c, D3 x = [a, b, c] ∧ nz (.d a) = .d a ∧ nz (.d b) = .d b ∧ nz (.d c) = .d c) (g : FuncId) (ca : List V) (σ : List Ob) (p : α → Bool) (hca : lts σ.length ca = true) (hσ : obsLt σ.length σ = true) (hnz : nzs ca = ca)
    (hl : l.length ≤ 9223372036854775807) (hc : ∀ x ∈ l, AC Tryz.prog g (.a ((D3 x).map .d) :: ca) σ fun y σ' => y = bv (p x) ∧ σ' = σ) :
    AC Tryz.prog 88 [.d (.l l.length ((l.map D3).flatten)), .f (.func g) [] ca] σ fun y σ' => y = iv .i64 (idx p l 0) ∧ σ' = σ := by
  refine AC.walk Tryz.func88 rfl (by decide) (of_decide_eq_true rfl) ?_
  generalize hR : idx p l 0 = R
  focus (have kxs : 987654321 = 987654320 + 1 := rfl; (repeat' (first | refine G ?_ | refine AW.ret ?_ | (refine GC ?_ ?_ <;> intro h <;> (try simp only [hsB] at h) <;> try (exfalso; first | omega | contradiction)) | (refine GL ?_ ?_ <;> intro h <;> (try simp only [Bool.not_true, Bool.not_false] at h) <;> (try simp only [h]) <;> (try simp only [hsB] at h) <;> try (exfalso; first | omega | contradiction)) | fail)); all_goals clear kxs)
  refine AW.rounds [0, 1, 4, 7, 8] (fun i : Nat => [(0, .d (.l l.length ((l.map D3).flatten))), (1, .f (.func g) [] ca), (4, iv .i64 0), (7, iv .i64 l.length), (8, iv .i64 i)]) (fun _ => σ) (fun i => i ≤ l.length ∧ idx p (l.drop i) i = R) (fun i => l.length - i) 0 ⟨Nat.zero_le _, hR⟩ rfl (by simp)
    (fun _ _ => Nat.le_refl _) (fun _ _ => hσ) (fun _ _ => by simp [tLt, V.lt, hca, lts]) ?_
  rintro i ⟨hi, hr⟩ J hJ
  by_cases hil : i < l.length
  · obtain ⟨x, r, hd⟩ := next_at hil
    obtain ⟨a, b, c, hx, ha, hb, hcn⟩ := h3 x
    have hcx := hc x (next_mem hd)
    rw [hx] at hcx
    have hcd : ((l.map D3).flatten).drop (i * 3) = a :: b :: c :: (r.map D3).flatten := by
      rw [flat_drop (f := D3) (sz := 3) (fun x => by obtain ⟨a, b, c, h, _⟩ := h3 x; rw [h]; rfl), hd]
      simp only [List.map_cons, List.flatten_cons, hx]
      rfl
    rw [hd] at hr
    have hnx : nzs (V.a [.d a, .d b, .d c] :: ca) = V.a [.d a, .d b, .d c] :: ca := by
      show V.a [nz (.d a), nz (.d b), nz (.d c)] :: nzs ca = _
      rw [ha, hb, hcn, hnz]
    focus (have kxs := hcd; (repeat' (first | refine G ?_ | refine AW.ret ?_ | (refine GC ?_ ?_ <;> intro h <;> (try simp only [hsB] at h) <;> try (exfalso; first | omega | contradiction)) | (refine GL ?_ ?_ <;> intro h <;> (try simp only [Bool.not_true, Bool.not_false] at h) <;> (try simp only [h]) <;> (try simp only [hsB] at h) <;> try (exfalso; first | omega | contradiction)) | fail)); all_goals clear kxs)
    refine AL.callv (by decide) fun Kr hK => ?_
    refine AOp.cS (fun _ _ => rfl) rfl hcx hnx ?_
    rintro y obs ⟨hy, hobs⟩
    rw [hy, hobs]
    refine hK _ _ ?_
    clear hK Kr
    have hr2 : R = if p x = true then (i : Int) else idx p r (i + 1) := hr.symm
    cases hp : p x with
    | true =>
      rw [hp, if_pos rfl] at hr2
      rw [hr2]
      focus (have kxs : 987654321 = 987654320 + 1 := rfl; (repeat' (first | refine G ?_ | refine AW.ret ?_ | (refine GC ?_ ?_ <;> intro h <;> (try simp only [hsB] at h) <;> try (exfalso; first | omega | contradiction)) | (refine GL ?_ ?_ <;> intro h <;> (try simp only [Bool.not_true, Bool.not_false] at h) <;> (try simp only [h]) <;> (try simp only [hsB] at h) <;> try (exfalso; first | omega | contradiction)) | fail)); all_goals clear kxs)
      all_goals first | exact RetQ.r σ.length rfl (Nat.le_refl _) (by rw [List.take_length]; exact hσ) rfl ⟨rfl, List.take_length⟩ | (exfalso; simp_all; done)
    | false =>
      rw [hp, if_neg (by decide)] at hr2
      focus (have kxs : 987654321 = 987654320 + 1 := rfl; (repeat' (first | refine G ?_ | refine AW.ret ?_ | (refine GC ?_ ?_ <;> intro h <;> (try simp only [hsB] at h) <;> try (exfalso; first | omega | contradiction)) | (refine GL ?_ ?_ <;> intro h <;> (try simp only [Bool.not_true, Bool.not_false] at h) <;> (try simp only [h]) <;> (try simp only [hsB] at h) <;> try (exfalso; first | omega | contradiction)) | fail)); all_goals clear kxs)
      all_goals first | (refine hJ (i + 1) _ _ (by omega) ⟨hil, by rw [next_drop hd]; exact hr2.symm⟩ rfl (by simp)) | (exfalso; simp_all; done)
  · have h0 : l.drop i = [] := List.drop_eq_nil_of_le (by omega)
    rw [h0] at hr
    have hR0 : R = -1 := hr.symm
    rw [hR0]
    focus (have kxs : 987654321 = 987654320 + 1 := rfl; (repeat' (first | refine G ?_ | refine AW.ret ?_ | (refine GC ?_ ?_ <;> intro h <;> (try simp only [hsB] at h) <;> try (exfalso; first | omega | contradiction)) | (refine GL ?_ ?_ <;> intro h <;> (try simp only [Bool.not_true, Bool.not_false] at h) <;> (try simp only [h]) <;> (try simp only [hsB] at h) <;> try (exfalso; first | omega | contradiction)) | fail)); all_goals clear kxs)
    all_goals first | exact RetQ.r σ.length rfl (Nat.le_refl _) (by rw [List.take_length]; exact hσ) rfl ⟨rfl, List.take_length⟩ | (exfalso; simp_all; done)

theorem contains_OldSib {α : Type} (l : List α) (D3 : α → List D) (h3 : ∀ x, ∃ a b c, D3 x = [a, b, c] ∧ nz (.d a) = .d a ∧ nz (.d b) = .d b ∧ nz (.d c) = .d c) (g : FuncId) (ca : List V) (σ : List Ob) (p : α → Bool) (hca : lts σ.length ca = true) (hσ : obsLt σ.length σ = true) (hnz : nzs ca = ca)
    (hl : l.length ≤ 9223372036854775807) (hc : ∀ x ∈ l, AC Tryz.prog g (.a ((D3 x).map .d) :: ca) σ fun y σ' => y = bv (p x) ∧ σ' = σ) :
    AC Tryz.prog 48 [.d (.l l.length ((l.map D3).flatten)), .f (.func g) [] ca] σ fun y σ' => y = bv (l.any p) ∧ σ' = σ := by
  refine AC.walk Tryz.func48 rfl (by decide) (of_decide_eq_true rfl) ?_
  have hi := index_OldSib l D3 h3 g ca σ p hca hσ hnz hl hc
  have ha := idx_any p l 0 (Int.le_refl 0)
  have hge : decide (idx p l 0 ≥ 0) = l.any p := ha
  focus (have kxs := hge; (repeat' (first | refine G ?_ | refine AW.ret ?_ | (refine GC ?_ ?_ <;> intro h <;> (try simp only [hsB] at h) <;> try (exfalso; first | omega | contradiction)) | (refine GL ?_ ?_ <;> intro h <;> (try simp only [Bool.not_true, Bool.not_false] at h) <;> (try simp only [h]) <;> (try simp only [hsB] at h) <;> try (exfalso; first | omega | contradiction)) | fail)); all_goals clear kxs)
  refine AL.callv (by decide) fun Kr hK => ?_
  refine AOp.cS (fun _ _ => rfl) rfl hi rfl ?_
  rintro y obs ⟨hy, hobs⟩
  rw [hy, hobs]
  refine hK _ _ ?_
  clear hK Kr
  focus (have kxs := hge; (repeat' (first | refine G ?_ | refine AW.ret ?_ | (refine GC ?_ ?_ <;> intro h <;> (try simp only [hsB] at h) <;> try (exfalso; first | omega | contradiction)) | (refine GL ?_ ?_ <;> intro h <;> (try simp only [Bool.not_true, Bool.not_false] at h) <;> (try simp only [h]) <;> (try simp only [hsB] at h) <;> try (exfalso; first | omega | contradiction)) | fail)); all_goals clear kxs)
  all_goals first | exact RetQ.r σ.length rfl (Nat.le_refl _) (by rw [List.take_length]; exact hσ) rfl ⟨rfl, List.take_length⟩ | (exfalso; simp_all; done)
end Go.AW
