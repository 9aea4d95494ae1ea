/-
  Plain: writers, and readers of a whole text.
-/
import Derived.Test.YtiiacdheopdooaaPVec
namespace Go.AW
set_option linter.unusedVariables false

section
variable {α : Type} {R : Cu → α × Cu} {enc : α → List UInt8} {good : α → Prop}
theorem Trip.whole_fore (h : Trip R enc good) {x : α} (hx : good x) : R ⟨enc x, 0, 0⟩ = (x, ⟨enc x, (enc x).length, 0⟩) := by
  have := h.fore ⟨enc x, 0, 0⟩ x [] hx rfl (Nat.zero_le _) (by simp)
  simpa using this
theorem Trip.whole_back (h : Trip R enc good) {s : List UInt8} (hs : (R ⟨s, 0, 0⟩).2.fin.e = 0) : good (R ⟨s, 0, 0⟩).1 ∧ s = enc (R ⟨s, 0, 0⟩).1 := by
  have h1 : (R ⟨s, 0, 0⟩).2.e = 0 ∧ s.length ≤ (R ⟨s, 0, 0⟩).2.a := by
    have ht := h.text ⟨s, 0, 0⟩
    unfold Cu.fin at hs
    simp only [ht] at hs
    split at hs
    · exact absurd hs (by decide)
    · rename_i hn
      exact ⟨hs, Nat.le_of_not_lt fun hlt => hn ⟨hs, hlt⟩⟩
  obtain ⟨g1, g2, g3⟩ := h.back ⟨s, 0, 0⟩ h1.1
  refine ⟨g1, ?_⟩
  rw [List.drop_eq_nil_of_le h1.2] at g3
  simpa using g3
theorem Trip.whole_cut (h : Trip R enc good) {x : α} (hx : good x) {i : Nat} (hi : i < (enc x).length) : (R ⟨(enc x).take i, 0, 0⟩).2.fin.e = 2 := by
  have := h.cut ⟨(enc x).take i, 0, 0⟩ x ((enc x).drop i) hx rfl (Nat.zero_le _) (by simp) (by
    intro e
    have := congrArg List.length e
    simp at this; omega)
  unfold Cu.fin
  simp [this]
theorem Trip.whole_trail (h : Trip R enc good) {x : α} (hx : good x) {r : List UInt8} (hr : r ≠ []) : (R ⟨enc x ++ r, 0, 0⟩).2.fin.e = 8 := by
  have := h.fore ⟨enc x ++ r, 0, 0⟩ x r hx rfl (Nat.zero_le _) (by simp)
  have hl : 0 < r.length := List.length_pos_iff.2 hr
  rw [this]
  unfold Cu.fin
  simp [hl]
/-- What is written so is one thing alone. -/
theorem Trip.inj (h : Trip R enc good) {x y : α} (hx : good x) (hy : good y) (he : enc x = enc y) : x = y := by
  have h1 := h.whole_fore hx
  have h2 := h.whole_fore hy
  rw [he, h2] at h1
  exact (Prod.mk.inj h1).1.symm
end

/-- A writer. -/
structure Pens {α : Type} (W : Pe → α → Pe) (enc : α → List UInt8) (ok : α → Prop) : Prop where
  stuck : ∀ p x, p.e ≠ 0 → W p x = p
  m : ∀ p x, (W p x).m = p.m
  len : ∀ p x, (W p x).b.length ≤ p.b.length + (enc x).length
  cap : ∀ p x, ((W p x).b.length : Int) ≤ p.m ∨ (W p x).b.length ≤ p.b.length
  yes : ∀ p x, (W p x).e = 0 → p.e = 0 ∧ (W p x).b = p.b ++ enc x ∧ ok x
  fit : ∀ p x, p.e = 0 → ok x → ((p.b.length + (enc x).length : Nat) : Int) ≤ p.m → W p x = ⟨p.b ++ enc x, p.m, 0⟩

section
variable {α : Type} {W : Pe → α → Pe} {enc : α → List UInt8} {ok : α → Prop}
theorem Pens.keep (h : Pens W enc ok) {p : Pe} {x : α} (hp : p.Ok) (hl : p.m ≤ 140737488355328 ∨ p.b.length + (enc x).length ≤ 140737488355328) : (W p x).Ok := by
  have h1 := h.m p x
  have h2 := h.len p x
  have h3 := h.cap p x
  obtain ⟨g1, g2, g3⟩ := hp
  exact ⟨by omega, by omega, by omega⟩
theorem Pens.iff (h : Pens W enc ok) {ok' : α → Prop} (hk : ∀ x, ok x ↔ ok' x) : Pens W enc ok' := by
  have : ok = ok' := funext fun x => propext (hk x)
  rw [← this]; exact h
theorem pens_text : Pens (fun p (s : List UInt8) => Pe.text p s) id (fun _ => True) where
  stuck := fun p x h => Pe.text_stuck h x
  m := fun p x => Pe.text_m p x
  len := fun p x => Pe.text_len p x
  cap := fun p x => by rcases Pe.text_fit p x with e | e <;> omega
  yes := fun p x h => ⟨(Pe.text_yes h).1, (Pe.text_yes h).2, trivial⟩
  fit := fun p x h _ hl => by
    simp only [id] at hl
    unfold Pe.text
    rw [if_neg (by simpa using h), if_neg (by omega)]
    obtain ⟨b, m, e⟩ := p
    simp only at h
    subst h
    rfl
/-- One writer of a part behind another one. -/
theorem Pens.on {β : Type} (h : Pens W enc ok) (f : β → α) : Pens (fun p x => W p (f x)) (fun x => enc (f x)) (fun x => ok (f x)) :=
  ⟨fun p x => h.stuck p _, fun p x => h.m p _, fun p x => h.len p _, fun p x => h.cap p _, fun p x => h.yes p _, fun p x => h.fit p _⟩
theorem Pens.seq {W' : Pe → α → Pe} {enc' : α → List UInt8} {ok' : α → Prop} (h : Pens W enc ok) (h' : Pens W' enc' ok') : Pens (fun p x => W' (W p x) x) (fun x => enc x ++ enc' x) (fun x => ok x ∧ ok' x) where
  stuck := fun p x hp => by
    show W' (W p x) x = p
    rw [h.stuck p x hp, h'.stuck p x hp]
  m := fun p x => by
    show (W' (W p x) x).m = p.m
    rw [h'.m, h.m]
  len := fun p x => by
    have h1 := h.len p x
    have h2 := h'.len (W p x) x
    show (W' (W p x) x).b.length ≤ _
    rw [List.length_append]; omega
  cap := fun p x => by
    have h1 := h.cap p x
    have h2 := h.m p x
    have h3 := h'.cap (W p x) x
    show ((W' (W p x) x).b.length : Int) ≤ _ ∨ (W' (W p x) x).b.length ≤ _
    omega
  yes := fun p x hp => by
    obtain ⟨g1, g2, g3⟩ := h'.yes (W p x) x hp
    obtain ⟨k1, k2, k3⟩ := h.yes p x g1
    refine ⟨k1, ?_, k3, g3⟩
    show (W' (W p x) x).b = _
    rw [g2, k2, List.append_assoc]
  fit := fun p x hp hk hl => by
    rw [List.length_append] at hl
    show W' (W p x) x = _
    rw [h.fit p x hp hk.1 (by omega), h'.fit ⟨p.b ++ enc x, p.m, 0⟩ x rfl hk.2 (by simp only [List.length_append]; omega), List.append_assoc]
/-- .. unless something isn't right. -/
theorem Pens.chk (h : Pens W enc ok) (c : α → Int) : Pens (fun p x => if c x ≠ 0 then p.fail (c x) else W p x) enc (fun x => c x = 0 ∧ ok x) where
  stuck := fun p x hp => by
    show (if c x ≠ 0 then p.fail (c x) else W p x) = p
    rw [Pe.fail_stuck hp, h.stuck p x hp, ite_self]
  m := fun p x => by
    show (if c x ≠ 0 then p.fail (c x) else W p x).m = p.m
    split
    · rfl
    · exact h.m p x
  len := fun p x => by
    show (if c x ≠ 0 then p.fail (c x) else W p x).b.length ≤ _
    split
    · show p.b.length ≤ _; omega
    · exact h.len p x
  cap := fun p x => by
    show ((if c x ≠ 0 then p.fail (c x) else W p x).b.length : Int) ≤ _ ∨ (if c x ≠ 0 then p.fail (c x) else W p x).b.length ≤ _
    split
    · exact .inr (Nat.le_refl _)
    · exact h.cap p x
  yes := fun p x hp => by
    have hp : (if c x ≠ 0 then p.fail (c x) else W p x).e = 0 := hp
    show _ ∧ (if c x ≠ 0 then p.fail (c x) else W p x).b = _ ∧ _
    by_cases hc : c x = 0
    · rw [if_neg (by simpa using hc)] at hp ⊢
      obtain ⟨g1, g2, g3⟩ := h.yes p x hp
      exact ⟨g1, g2, hc, g3⟩
    · rw [if_pos hc] at hp
      exact absurd hp (Pe.fail_e hc)
  fit := fun p x hp hk hl => by
    show (if c x ≠ 0 then p.fail (c x) else W p x) = _
    rw [if_neg (by simpa using hk.1)]
    exact h.fit p x hp hk.2 hl
theorem Pens.fold (h : Pens W enc ok) : Pens (fun p (l : List α) => l.foldl W p) (fun l => (l.map enc).flatten) (fun l => ∀ x ∈ l, ok x) where
  stuck := fun p l hp => by
    induction l with
    | nil => rfl
    | cons x l ih => simp only [List.foldl_cons, h.stuck p x hp]; exact ih
  m := fun p l => by
    induction l generalizing p with
    | nil => rfl
    | cons x l ih => simp only [List.foldl_cons]; rw [ih, h.m]
  len := fun p l => by
    induction l generalizing p with
    | nil => simp
    | cons x l ih =>
      have h1 := h.len p x
      have h2 := ih (W p x)
      simp only [List.foldl_cons, List.map_cons, List.flatten_cons, List.length_append] at *
      omega
  cap := fun p l => by
    induction l generalizing p with
    | nil => exact .inr (Nat.le_refl _)
    | cons x l ih =>
      have h1 := h.cap p x
      have h2 := h.m p x
      have h3 := ih (W p x)
      simp only [List.foldl_cons]
      omega
  yes := fun p l hp => by
    induction l generalizing p with
    | nil => exact ⟨hp, by simp, by simp⟩
    | cons x l ih =>
      obtain ⟨g1, g2, g3⟩ := ih (W p x) hp
      obtain ⟨k1, k2, k3⟩ := h.yes p x g1
      refine ⟨k1, ?_, fun y hy => ?_⟩
      · simp only [List.foldl_cons, List.map_cons, List.flatten_cons]
        rw [g2, k2, List.append_assoc]
      · rcases List.mem_cons.1 hy with rfl | hy
        · exact k3
        · exact g3 y hy
  fit := fun p l hp hk hl => by
    induction l generalizing p with
    | nil =>
      obtain ⟨b, m, e⟩ := p
      simp only at hp
      subst hp
      simp
    | cons x l ih =>
      simp only [List.map_cons, List.flatten_cons, List.length_append] at hl ⊢
      simp only [List.foldl_cons]
      rw [h.fit p x hp (hk x List.mem_cons_self) (by omega), ih ⟨p.b ++ enc x, p.m, 0⟩ rfl (fun y hy => hk y (List.mem_cons_of_mem _ hy)) (by simp only [List.length_append]; omega), List.append_assoc]
end

theorem pens_v : Pens (fun p (n : Nat) => Pe.text p (vput n)) vput (fun _ => True) := pens_text.on vput
theorem pens_blob (max : Int) : Pens (fun p (s : List UInt8) => Pe.blob p max s) eblob (fun s => s.length ≤ max.toNat) := by
  have h := ((pens_v.on List.length).seq pens_text).chk (fun s : List UInt8 => if max.toNat < s.length then 3 else 0)
  have e : (fun p (s : List UInt8) => Pe.blob p max s) = fun p (s : List UInt8) => if (if max.toNat < s.length then (3 : Int) else 0) ≠ 0 then p.fail (if max.toNat < s.length then 3 else 0) else (p.text (vput s.length)).text s := by
    funext p s
    unfold Pe.blob
    by_cases hs : max.toNat < s.length
    · rw [if_pos hs, if_pos hs, if_pos (by decide)]
    · rw [if_neg hs, if_neg hs, if_neg (by decide)]
  rw [e]
  refine Pens.iff h fun s => ?_
  constructor
  · rintro ⟨h1, _⟩
    split at h1
    · exact absurd h1 (by decide)
    · omega
  · intro h1
    exact ⟨by rw [if_neg (by omega)], trivial, trivial⟩
theorem pens_count (max : Int) : Pens (fun p (n : Nat) => Pe.count p max n) vput (fun n => n ≤ max.toNat) := by
  have h := pens_v.chk (fun n : Nat => if max.toNat < n then 3 else 0)
  have e : (fun p (n : Nat) => Pe.count p max n) = fun p (n : Nat) => if (if max.toNat < n then (3 : Int) else 0) ≠ 0 then p.fail (if max.toNat < n then 3 else 0) else p.text (vput n) := by
    funext p n
    unfold Pe.count
    rw [if_neg (by omega)]
    by_cases hs : max.toNat < n
    · rw [if_pos (by omega), if_pos hs, if_pos (by decide)]
    · rw [if_neg (by omega), if_neg hs, if_neg (by decide)]
      rfl
  rw [e]
  refine Pens.iff h fun s => ?_
  constructor
  · rintro ⟨h1, _⟩
    split at h1
    · exact absurd h1 (by decide)
    · omega
  · intro h1
    exact ⟨by rw [if_neg (by omega)], trivial⟩
theorem pens_flag : Pens Pe.flag eflag (fun _ => True) := pens_text.on eflag
theorem pens_ent : Pens Pe.ent eent (fun x => x.1.length ≤ 32) :=
  Pens.iff (((pens_blob 32).on (Prod.fst (β := Nat))).seq (pens_v.on (Prod.snd (α := List UInt8)))) fun x => by simp
theorem pens_ents : Pens Pe.ents (fun v => (v.map eent).flatten) (fun v => ∀ x ∈ v, x.1.length ≤ 32) := pens_ent.fold
theorem vcheck_len : ∀ (v : Vec) (p : List UInt8), vcheck p v = 0 → ∀ x ∈ v, x.1.length ≤ 32
  | [], p, h => by simp
  | x :: v, p, h => by
    unfold vcheck at h
    split at h
    · exact absurd h (by decide)
    split at h
    · exact absurd h (by decide)
    split at h
    · exact absurd h (by decide)
    split at h
    · exact absurd h (by decide)
    intro y hy
    rcases List.mem_cons.1 hy with rfl | hy
    · omega
    · exact vcheck_len v x.1 h y hy
theorem Vec.check_len {v : Vec} (h : v.check = 0) : v.length ≤ 64 ∧ ∀ x ∈ v, x.1.length ≤ 32 := by
  unfold Vec.check at h
  split at h
  · exact absurd h (by decide)
  · exact ⟨by omega, vcheck_len v [] h⟩
theorem pens_vec : Pens Pe.vec evec (fun v => v.check = 0) :=
  Pens.iff (Pens.chk ((pens_v.on List.length).seq pens_ents) Vec.check) fun v => ⟨fun h => h.1, fun h => ⟨h, trivial, (Vec.check_len h).2⟩⟩
theorem pens_vecs : Pens Pe.vecs (fun l => (l.map evec).flatten) (fun l => ∀ v ∈ l, v.check = 0) := pens_vec.fold

theorem eent_len (x : En) (h : x.1.length < 18446744073709551616) (h2 : x.2 < 18446744073709551616) : (eent x).length ≤ x.1.length + 20 := by
  unfold eent eblob
  have h1 := vput_len10 h
  have h3 := vput_len10 h2
  simp only [List.length_append]
  omega
theorem ents_len : ∀ (v : Vec) (k : Nat), k < 18446744073709551616 → (∀ x ∈ v, x.1.length ≤ k) → (∀ x ∈ v, x.2 < 18446744073709551616) → (v.map eent).flatten.length ≤ v.length * (k + 20)
  | [], k, _, _, _ => by simp
  | x :: v, k, hk, h1, h2 => by
    have := ents_len v k hk (fun y hy => h1 y (List.mem_cons_of_mem _ hy)) (fun y hy => h2 y (List.mem_cons_of_mem _ hy))
    have g1 := h1 x List.mem_cons_self
    have := eent_len x (by omega) (h2 x List.mem_cons_self)
    simp only [List.map_cons, List.flatten_cons, List.length_append, List.length_cons, Nat.succ_mul]
    omega
/-- A right vector's bytes are few. -/
theorem evec_len {v : Vec} (h : gvec v) : (evec v).length ≤ 4000 := by
  obtain ⟨h1, h2⟩ := Vec.check_len h.1
  have h3 := ents_len v 32 (by decide) h2 h.2
  have h4 := vput_len10 (n := v.length) (by omega)
  unfold evec
  rw [List.length_append]
  have : v.length * (32 + 20) ≤ 64 * 52 := Nat.mul_le_mul h1 (by decide)
  omega
end Go.AW
