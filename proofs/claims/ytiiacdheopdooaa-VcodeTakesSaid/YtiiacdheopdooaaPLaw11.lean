/-
  Plain: what row 11 asks of vectors and their bytes.
-/
import Derived.Test.YtiiacdheopdooaaPPens
namespace Go.AW
set_option linter.unusedVariables false

/-- The vector of a whole text, or none, and an error. -/
def vecw (s : List UInt8) : Vec × Int := (if (Cu.vec ⟨s, 0, 0⟩).2.fin.e ≠ 0 then [] else (Cu.vec ⟨s, 0, 0⟩).1, (Cu.vec ⟨s, 0, 0⟩).2.fin.e)
/-- The bytes of a vector, or none, and an error. -/
def vece (v : Vec) : List UInt8 × Int := Pe.fin (Pe.vec ⟨[], 65536, 0⟩ v)
theorem Pens.whole {α : Type} {W : Pe → α → Pe} {enc : α → List UInt8} {ok : α → Prop} (h : Pens W enc ok) {x : α} (hx : ok x) (hl : (enc x).length ≤ 65536) : Pe.fin (W ⟨[], 65536, 0⟩ x) = (enc x, 0) := by
  rw [h.fit ⟨[], 65536, 0⟩ x rfl hx (by simp only [List.length_nil, Nat.zero_add]; omega)]
  simp [Pe.fin]
theorem vece_good {v : Vec} (h : gvec v) : vece v = (evec v, 0) := pens_vec.whole h.1 (Nat.le_trans (evec_len h) (by decide))
theorem vece_bad {v : Vec} (h : v.check ≠ 0) : vece v = ([], v.check) := by
  unfold vece Pe.vec
  rw [if_pos h]
  unfold Pe.fin Pe.fail
  simp [h]
theorem vecw_fore {v : Vec} (h : gvec v) : vecw (evec v) = (v, 0) := by
  unfold vecw
  rw [trip_vec.whole_fore h]
  simp [Cu.fin]
theorem vecw_back {s : List UInt8} (h : (vecw s).2 = 0) : gvec (vecw s).1 ∧ s = evec (vecw s).1 := by
  unfold vecw at h ⊢
  simp only at h ⊢
  rw [if_neg (by simpa using h)]
  exact trip_vec.whole_back h
theorem vecw_bad {s : List UInt8} (h : (vecw s).2 ≠ 0) : (vecw s).1 = [] := by
  unfold vecw at h ⊢
  simp only at h ⊢
  rw [if_pos h]
theorem vecw_cut {v : Vec} (h : gvec v) {i : Nat} (hi : i < (evec v).length) : vecw ((evec v).take i) = ([], 2) := by
  unfold vecw
  rw [trip_vec.whole_cut h hi]
  simp
theorem vecw_trail {v : Vec} (h : gvec v) {r : List UInt8} (hr : r ≠ []) : vecw (evec v ++ r) = ([], 8) := by
  unfold vecw
  rw [trip_vec.whole_trail h hr]
  simp
theorem Cu.vec_len (c : Cu) : c.vec.1.length ≤ 64 := by
  unfold Cu.vec
  simp only
  split
  · exact Nat.zero_le _
  · unfold Cu.ents
    rw [Cu.many_length]
    unfold Cu.count
    split
    · exact Nat.zero_le _
    split
    · exact Nat.zero_le _
    · have : (64 : Int).toNat = 64 := rfl
      omega
theorem Vec.great_len {v : Vec} (h : v.great = false) (hn : ∀ x ∈ v, x.2 < 18446744073709551616) : (evec v).length ≤ 12010 := by
  unfold Vec.great at h
  simp only [Bool.or_eq_false_iff, decide_eq_false_iff_not, List.any_eq_false, decide_eq_true_eq] at h
  have h3 := ents_len v 100 (by decide) (fun x hx => by have := h.2 x hx; omega) hn
  have h4 := vput_len10 (n := v.length) (by omega)
  unfold evec
  rw [List.length_append]
  have : v.length * (100 + 20) ≤ 100 * 120 := Nat.mul_le_mul (by omega) (by decide)
  omega
theorem vecs_len (l : List Vec) (h : ∀ v ∈ l, (evec v).length ≤ 12010) : (l.map evec).flatten.length ≤ l.length * 12010 := by
  induction l with
  | nil => simp
  | cons v l ih =>
    have h1 := h v List.mem_cons_self
    have h2 := ih fun x hx => h x (List.mem_cons_of_mem _ hx)
    simp only [List.map_cons, List.flatten_cons, List.length_append, List.length_cons, Nat.succ_mul]
    omega
/-- So many vectors have been read. -/
def Cu.vecn : Nat → Cu → Cu
  | 0, c => c
  | n + 1, c => (Cu.vecn n c).vec.2
theorem Cu.vecn_ok {c : Cu} (h : c.Ok) : ∀ n, (Cu.vecn n c).Ok
  | 0 => h
  | n + 1 => Cu.vec_ok (Cu.vecn_ok h n)
end Go.AW
