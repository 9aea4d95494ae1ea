/-
  Plain: lists of things, cell by cell; how far a list has been read.
-/
import Derived.Test.YtiiacdheopdooaaPVec
namespace Go.AW
set_option linter.unusedVariables false

theorem flat_drop {α β : Type} {f : α → List β} {sz : Nat} (hf : ∀ x, (f x).length = sz) : ∀ (l : List α) (i : Nat), ((l.map f).flatten).drop (i * sz) = ((l.drop i).map f).flatten
  | [], i => by simp
  | x :: l, 0 => by simp
  | x :: l, i + 1 => by
    have h := hf x
    rw [Nat.succ_mul, Nat.add_comm, ← List.drop_drop]
    simp only [List.map_cons, List.flatten_cons, List.drop_succ_cons]
    rw [List.drop_left' h]
    exact flat_drop hf l i
theorem flat_len {α β : Type} {f : α → List β} {sz : Nat} (hf : ∀ x, (f x).length = sz) : ∀ (l : List α), ((l.map f).flatten).length = l.length * sz
  | [] => by simp
  | x :: l => by
    simp only [List.map_cons, List.flatten_cons, List.length_append, List.length_cons, Nat.succ_mul]
    rw [hf x, flat_len hf l, Nat.add_comm]
theorem next_take {α : Type} {l r : List α} {a : α} {i : Nat} (h : l.drop i = a :: r) : l.take (i + 1) = l.take i ++ [a] := by
  have h1 : l[i]? = some a := by
    have := congrArg List.head? h
    simpa [List.head?_drop] using this
  rw [List.take_add_one, h1]; rfl
theorem next_drop {α : Type} {l r : List α} {a : α} {i : Nat} (h : l.drop i = a :: r) : l.drop (i + 1) = r := by
  rw [← List.drop_drop, h]; rfl
theorem next_mem {α : Type} {l r : List α} {a : α} {i : Nat} (h : l.drop i = a :: r) : a ∈ l := List.mem_of_mem_drop (i := i) (by rw [h]; exact List.mem_cons_self)
theorem next_at {α : Type} {l : List α} {i : Nat} (h : i < l.length) : ∃ a r, l.drop i = a :: r := ⟨_, _, List.drop_eq_getElem_cons h⟩

section
variable {α κ : Type} {R : κ → Cu → α × Cu} {next : κ → α → κ}
/-- So much has been read: what is left to be read is the same. -/
def Fam (R : κ → Cu → α × Cu) (next : κ → α → κ) (n : Nat) (k0 : κ) (c0 : Cu) (out : List α) (k : κ) (c : Cu) : Prop :=
  out.length ≤ n ∧ (Cu.many R next n k0 c0).2 = (Cu.many R next (n - out.length) k c).2 ∧ (c.e = 0 → (Cu.many R next n k0 c0).1 = out ++ (Cu.many R next (n - out.length) k c).1)
theorem Fam.start (n : Nat) (k0 : κ) (c0 : Cu) : Fam R next n k0 c0 [] k0 c0 := ⟨Nat.zero_le _, rfl, fun _ => rfl⟩
theorem Fam.step {n : Nat} {k0 k : κ} {c0 c : Cu} {out : List α} (h : Fam R next n k0 c0 out k c) (hc : c.e = 0) (hn : out.length < n) : Fam R next n k0 c0 (out ++ [(R k c).1]) (next k (R k c).1) (R k c).2 := by
  obtain ⟨h1, h2, h3⟩ := h
  have e : n - out.length = (n - (out ++ [(R k c).1]).length) + 1 := by simp only [List.length_append, List.length_cons, List.length_nil]; omega
  rw [e] at h2 h3
  refine ⟨by simp only [List.length_append, List.length_cons, List.length_nil]; omega, h2, fun _ => ?_⟩
  rw [h3 hc, List.append_assoc]
  rfl
theorem Fam.done {n : Nat} {k0 k : κ} {c0 c : Cu} {out : List α} (h : Fam R next n k0 c0 out k c) (hc : c.e = 0) (hn : ¬ out.length < n) : Cu.many R next n k0 c0 = (out, c) := by
  obtain ⟨h1, h2, h3⟩ := h
  have e : n - out.length = 0 := by omega
  rw [e] at h2 h3
  refine Prod.ext ?_ h2
  rw [h3 hc]; simp [Cu.many]
theorem Fam.bad {n : Nat} {k0 k : κ} {c0 c : Cu} {out : List α} (hst : ∀ k c, c.e ≠ 0 → (R k c).2 = c) (h : Fam R next n k0 c0 out k c) (hc : c.e ≠ 0) : (Cu.many R next n k0 c0).2 = c := by
  rw [h.2.1]
  exact Cu.many_stuck hst _ _ _ hc
end
theorem Cu.count_max (c : Cu) (max : Int) : (c.count max).1 ≤ max.toNat := by
  unfold Cu.count
  split
  · exact Nat.zero_le _
  split
  · exact Nat.zero_le _
  · omega
theorem Cu.blob_lim (c : Cu) (max : Int) (h : (c.blob max).2.e = 0) : (c.blob max).1.length ≤ max.toNat := ((trip_blob max).back c h).1.1
end Go.AW
