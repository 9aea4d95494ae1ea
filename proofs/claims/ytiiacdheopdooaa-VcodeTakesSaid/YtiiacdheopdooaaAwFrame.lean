/-
  The calculus: a contract serves in every store that holds the objects it speaks of; calls.
-/
import Derived.Test.YtiiacdheopdooaaAwCall
namespace Go.AW
open Go

set_option linter.unusedVariables false
set_option linter.unusedSimpArgs false

/-- The numbers of a callee's objects, seen from the caller. -/
def gm (ι : List Nat) (n : Nat) (j : Nat) : Nat := if j < ι.length then ι.getD j 0 else n + (j - ι.length)

def mrg {α : Type} : List α → List Nat → List α → List α
  | σ, [], news => σ ++ news
  | σ, i :: ι, ob :: obs => mrg (σ.set i ob) ι obs
  | σ, _ :: _, [] => σ

section lists
variable {α : Type}

theorem mrg_length : ∀ (ι : List Nat) (σ obs : List α), ι.length ≤ obs.length → (mrg σ ι obs).length = σ.length + (obs.length - ι.length)
  | [], σ, obs, _ => by simp [mrg]
  | i :: ι, σ, [], h => by simp at h
  | i :: ι, σ, ob :: obs, h => by
    simp only [mrg, List.length_cons] at h ⊢
    rw [mrg_length ι _ obs (by omega)]
    simp

theorem mrg_out : ∀ (ι : List Nat) (σ obs : List α) (i : Nat), i ∉ ι → i < σ.length → (mrg σ ι obs)[i]? = σ[i]?
  | [], σ, obs, i, _, hi => by simp only [mrg]; exact List.getElem?_append_left hi
  | j :: ι, σ, [], i, _, hi => rfl
  | j :: ι, σ, ob :: obs, i, h, hi => by
    simp only [mrg]
    rw [mrg_out ι _ obs i (fun hm => h (List.mem_cons_of_mem _ hm)) (by simpa using hi), List.getElem?_set_ne (fun e => h (by rw [e]; exact List.mem_cons_self))]

theorem mrg_at : ∀ (ι : List Nat) (σ obs : List α) (j i : Nat), ι.Nodup → (∀ i ∈ ι, i < σ.length) → ι.length ≤ obs.length → ι[j]? = some i → (mrg σ ι obs)[i]? = obs[j]?
  | [], σ, obs, j, i, _, _, _, h => by simp at h
  | a :: ι, σ, [], j, i, _, _, hl, _ => by simp at hl
  | a :: ι, σ, ob :: obs, j, i, hn, hlt, hl, h => by
    simp only [mrg]
    obtain ⟨h1, h2⟩ := List.nodup_cons.1 hn
    cases j with
    | zero =>
      simp at h
      subst h
      rw [mrg_out ι _ obs a h1 (by simpa using hlt a List.mem_cons_self), List.getElem?_set_self (hlt a List.mem_cons_self)]
      rfl
    | succ j =>
      have := mrg_at ι (σ.set a ob) obs j i h2 (fun i hi => by simpa using hlt i (List.mem_cons_of_mem _ hi)) (by simpa using hl) (by simpa using h)
      simpa using this

theorem mrg_new : ∀ (ι : List Nat) (σ obs : List α) (j : Nat), ι.length ≤ obs.length → (mrg σ ι obs)[σ.length + j]? = obs[ι.length + j]?
  | [], σ, obs, j, _ => by
    simp only [mrg]
    rw [List.getElem?_append_right (by omega)]
    simp
  | i :: ι, σ, [], j, h => by simp at h
  | i :: ι, σ, ob :: obs, j, h => by
    simp only [mrg]
    have := mrg_new ι (σ.set i ob) obs j (by simpa using h)
    simp only [List.length_set] at this
    rw [this, List.length_cons]
    rw [show ι.length + 1 + j = ι.length + j + 1 from by omega]
    rfl
end lists

section
variable {P : Program} {N k B : Nat} {T : Tm} {F F' : Nat → Prop} {σ σ' σs : List Ob} {μ μ' μs : List Value} {w w' : World} {g : Nat → Nat}

mutual
/-- From the greater store into the smaller one. -/
theorem VR.unren (h : ∀ i ob, σ[g i]? = some ob → ∃ ob', σs[i]? = some ob' ∧ ob = ob'.ren g ∧ μs[i]? = μ[g i]?) : ∀ (x : V) (v : Value), VR F σ μ w (x.ren g) v → VR F σs μs w x v
  | .d x, v, hv => by simpa only [V.ren, VR] using hv
  | .a xs, v, hv => by
    simp only [V.ren, VR] at hv ⊢
    obtain ⟨cs, e, hv⟩ := hv
    exact ⟨cs, e, VRs.unren h xs _ hv⟩
  | .t xs, v, hv => by
    simp only [V.ren, VR] at hv ⊢
    obtain ⟨cs, e, hv⟩ := hv
    exact ⟨cs, e, VRs.unren h xs _ hv⟩
  | .p i off, v, hv => by
    simp only [V.ren, VR] at hv ⊢
    obtain ⟨b, T, cs, h1, h2, h3⟩ := hv
    obtain ⟨ob', g1, g2, g3⟩ := h i _ h1
    cases ob' with
    | box T' cs' =>
      simp [Ob.ren] at g2
      obtain ⟨rfl, rfl⟩ := g2
      exact ⟨b, T, cs', g1, g3.trans h2, h3⟩
    | row E sz n cs' => simp [Ob.ren] at g2
  | .c xs, v, hv => by simpa only [V.ren, VR] using hv
  | .o i n, v, hv => by
    simp only [V.ren, VR] at hv ⊢
    obtain ⟨E, sz, m, cs, u, A, cap, h1, h2, h3⟩ := hv
    obtain ⟨ob', g1, g2, g3⟩ := h i _ h1
    cases ob' with
    | row E' sz' n' cs' =>
      simp [Ob.ren] at g2
      obtain ⟨rfl, rfl, rfl, rfl⟩ := g2
      exact ⟨E, sz, m, cs, u, A, cap, g1, g3.trans h2, h3⟩
    | box E cs' => simp [Ob.ren] at g2
  | .e i n off, v, hv => by
    simp only [V.ren, VR] at hv ⊢
    obtain ⟨E, sz, m, cs, u, b, h1, h2, h3⟩ := hv
    obtain ⟨ob', g1, g2, g3⟩ := h i _ h1
    cases ob' with
    | row E' sz' n' cs' =>
      simp [Ob.ren] at g2
      obtain ⟨rfl, rfl, rfl, rfl⟩ := g2
      exact ⟨E, sz, m, cs, u, b, g1, g3.trans h2, h3⟩
    | box E cs' => simp [Ob.ren] at g2
  | .f fn a b, v, hv => by
    simp only [V.ren, VR] at hv ⊢
    obtain ⟨x, y, e, h1, h2⟩ := hv
    exact ⟨x, y, e, VRs.unren h a _ h1, VRs.unren h b _ h2⟩
  | .u, v, hv => by simp [VR]
theorem VRs.unren (h : ∀ i ob, σ[g i]? = some ob → ∃ ob', σs[i]? = some ob' ∧ ob = ob'.ren g ∧ μs[i]? = μ[g i]?) : ∀ (xs : List V) (vs : List Value), VRs F σ μ w (rens g xs) vs → VRs F σs μs w xs vs
  | [], vs, hv => by simpa [rens, VRs] using hv
  | x :: xs, vs, hv => by
    simp only [rens, VRs] at hv ⊢
    obtain ⟨v, us, e, h1, h2⟩ := hv
    exact ⟨v, us, e, VR.unren h x v h1, VRs.unren h xs us h2⟩
end

mutual
/-- From the smaller store into the greater one. -/
theorem VR.toren (h : ∀ i ob, σs[i]? = some ob → σ[g i]? = some (ob.ren g) ∧ μ[g i]? = μs[i]?) : ∀ (x : V) (v : Value), VR F σs μs w x v → VR F σ μ w (x.ren g) v
  | .d x, v, hv => by simpa only [V.ren, VR] using hv
  | .a xs, v, hv => by
    simp only [V.ren, VR] at hv ⊢
    obtain ⟨cs, e, hv⟩ := hv
    exact ⟨cs, e, VRs.toren h xs _ hv⟩
  | .t xs, v, hv => by
    simp only [V.ren, VR] at hv ⊢
    obtain ⟨cs, e, hv⟩ := hv
    exact ⟨cs, e, VRs.toren h xs _ hv⟩
  | .p i off, v, hv => by
    simp only [V.ren, VR] at hv ⊢
    obtain ⟨b, T, cs, h1, h2, h3⟩ := hv
    have := h i _ h1
    exact ⟨b, T, rens g cs, this.1, this.2.trans h2, h3⟩
  | .c xs, v, hv => by simpa only [V.ren, VR] using hv
  | .o i n, v, hv => by
    simp only [V.ren, VR] at hv ⊢
    obtain ⟨E, sz, m, cs, u, A, cap, h1, h2, h3⟩ := hv
    have := h i _ h1
    exact ⟨E, sz, m, cs, u, A, cap, this.1, this.2.trans h2, h3⟩
  | .e i n off, v, hv => by
    simp only [V.ren, VR] at hv ⊢
    obtain ⟨E, sz, m, cs, u, b, h1, h2, h3⟩ := hv
    have := h i _ h1
    exact ⟨E, sz, m, cs, u, b, this.1, this.2.trans h2, h3⟩
  | .f fn a b, v, hv => by
    simp only [V.ren, VR] at hv ⊢
    obtain ⟨x, y, e, h1, h2⟩ := hv
    exact ⟨x, y, e, VRs.toren h a _ h1, VRs.toren h b _ h2⟩
  | .u, v, hv => by simp [V.ren, VR]
theorem VRs.toren (h : ∀ i ob, σs[i]? = some ob → σ[g i]? = some (ob.ren g) ∧ μ[g i]? = μs[i]?) : ∀ (xs : List V) (vs : List Value), VRs F σs μs w xs vs → VRs F σ μ w (rens g xs) vs
  | [], vs, hv => by simpa [rens, VRs] using hv
  | x :: xs, vs, hv => by
    simp only [rens, VRs] at hv ⊢
    obtain ⟨v, us, e, h1, h2⟩ := hv
    exact ⟨v, us, e, VR.toren h x v h1, VRs.toren h xs us h2⟩
end

theorem blk_ren (ob : Ob) (v : Value) : blk (ob.ren g) v = blk ob v := by
  cases ob with
  | row E sz n cs => rfl
  | box T cs =>
    cases v with
    | pointer a => cases a <;> rfl
    | slice a l c => cases a <;> rfl
    | _ => rfl

theorem Keep.grows {m : Nat} (h : Keep m σ μ σ' μ') (hm : σ.length = m) (hl : μ.length = σ.length) : σ.length ≤ σ'.length := by
  rcases Nat.eq_zero_or_pos σ.length with e | e
  · omega
  · have h0 : σ[σ.length - 1]? = some σ[σ.length - 1] := List.getElem?_eq_getElem (by omega)
    have h1 : μ[σ.length - 1]? = some (μ[σ.length - 1]'(by omega)) := List.getElem?_eq_getElem _
    cases ho : σ[σ.length - 1] with
    | box T cs =>
      rw [ho] at h0
      obtain ⟨⟨c, g1⟩, _⟩ := h.box _ T cs _ (by omega) h0 h1
      have := (List.getElem?_eq_some_iff.1 g1).1
      omega
    | row E sz n cs =>
      rw [ho] at h0
      obtain ⟨_, c, _, g1, _⟩ := h.row _ E sz n cs _ (by omega) h0 h1
      have := (List.getElem?_eq_some_iff.1 g1).1
      omega

/-- How the callee's store lies in the caller's. -/
structure Emb (ι : List Nat) (σs σ : List Ob) : Prop where
  len : ι.length = σs.length
  nodup : ι.Nodup
  at_ : ∀ (j i : Nat), ι[j]? = some i → σ[i]? = (σs[j]?).map (Ob.ren (gm ι σ.length))

theorem AC.frame {f : FuncId} {args : List V} {Q : V → List Ob → Prop} {ι : List Nat} (hemb : Emb ι σs σ) (h : AC P f args σs Q) :
    AC P f (rens (gm ι σ.length) args) σ fun x σ' => ∃ y obs, Q y obs ∧ σs.length ≤ obs.length ∧ x = y.ren (gm ι σ.length) ∧ σ' = mrg σ ι (obs.map (Ob.ren (gm ι σ.length))) := by
  refine ⟨h.1, fun F μ w vals st hv => ?_⟩
  let g := gm ι σ.length
  let μs : List Value := ι.map fun i => (μ[i]?).getD undef
  have hlt : ∀ (j i : Nat), ι[j]? = some i → i < σ.length := fun j i hj => by
    have h1 := hemb.at_ j i hj
    have hjl : j < σs.length := by rw [← hemb.len]; exact (List.getElem?_eq_some_iff.1 hj).1
    rw [List.getElem?_eq_getElem hjl] at h1
    exact (List.getElem?_eq_some_iff.1 h1).1
  have hmem : ∀ i ∈ ι, i < σ.length := fun i hi => by
    obtain ⟨j, hj⟩ := List.mem_iff_getElem?.1 hi
    exact hlt j i hj
  have hμs : ∀ (j i : Nat), ι[j]? = some i → μs[j]? = μ[i]? := fun j i hj => by
    have : i < μ.length := by rw [st.len]; exact hlt j i hj
    show (ι.map fun i => (μ[i]?).getD undef)[j]? = μ[i]?
    rw [List.getElem?_map, hj, List.getElem?_eq_getElem this]
    simp [List.getElem?_eq_getElem this]
  have hg : ∀ (j i : Nat), ι[j]? = some i → g j = i := fun j i hj => by
    have hjl := (List.getElem?_eq_some_iff.1 hj).1
    simp only [g, gm, if_pos hjl]
    rw [List.getD_eq_getElem?_getD, hj]
    rfl
  have un : ∀ (i : Nat) (ob : Ob), σ[g i]? = some ob → ∃ ob', σs[i]? = some ob' ∧ ob = ob'.ren g ∧ μs[i]? = μ[g i]? := by
    intro i ob hi
    rcases Nat.lt_or_ge i ι.length with hl | hl
    · have hj : ι[i]? = some ι[i] := List.getElem?_eq_getElem hl
      rw [hg i _ hj] at hi ⊢
      have h1 := hemb.at_ i _ hj
      rw [hi] at h1
      obtain ⟨ob', g1, g2⟩ := Option.map_eq_some_iff.1 h1.symm
      exact ⟨ob', g1, g2.symm, hμs i _ hj⟩
    · have := (List.getElem?_eq_some_iff.1 hi).1
      simp only [g, gm] at this
      rw [if_neg (by omega)] at this
      omega
  have hs : ∀ (j : Nat) (ob : Ob), σs[j]? = some ob → ∃ i : Nat, ι[j]? = some i ∧ σ[i]? = some (ob.ren g) := fun j ob hj => by
    have hjl : j < ι.length := by rw [hemb.len]; exact (List.getElem?_eq_some_iff.1 hj).1
    have h0 : ι[j]? = some ι[j] := List.getElem?_eq_getElem hjl
    have h1 := hemb.at_ j _ h0
    rw [hj] at h1
    exact ⟨_, h0, h1⟩
  have sts : St σs.length w.heap.size F σs μs w := by
    refine ⟨by simp [μs, hemb.len], fun j ob u h1 h2 => ?_, fun j l ob u ob' u' b h1 h2 h3 h4 h5 h6 => ?_, st.lt, Nat.le_refl _⟩
    · obtain ⟨i, hi, hi2⟩ := hs j ob h1
      rw [hμs j i hi] at h2
      have := st.obj i _ u hi2 h2
      have hjl := (List.getElem?_eq_some_iff.1 h1).1
      have hil := hlt j i hi
      cases ob with
      | box T cs =>
        obtain ⟨b, arr, e1, e2, e3, e4, _⟩ := this
        exact ⟨b, arr, e1, e2, VRs.unren un _ _ e3, e4, fun h => absurd hjl (by omega)⟩
      | row E sz n cs =>
        obtain ⟨vs, e1, e2, e3⟩ := this
        rw [if_neg (by omega)] at e1
        exact ⟨vs, by rw [if_neg (by omega)]; exact e1, e2, e3⟩
    · obtain ⟨i, hi, hi2⟩ := hs j ob h1
      obtain ⟨i', hi', hi2'⟩ := hs l ob' h3
      rw [hμs j i hi] at h2
      rw [hμs l i' hi'] at h4
      have := st.sep i i' _ u _ u' b hi2 h2 hi2' h4 (by rw [blk_ren]; exact h5) (by rw [blk_ren]; exact h6)
      subst this
      exact (List.getElem?_inj (List.getElem?_eq_some_iff.1 hi).1 hemb.nodup).1 (hi.trans hi'.symm)
  have livs : ∀ b, Live σs μs b → Live σ μ b := by
    rintro b ⟨j, ob, u, h1, h2, h3⟩
    obtain ⟨i, hi, hi2⟩ := hs j ob h1
    rw [hμs j i hi] at h2
    exact ⟨i, _, u, hi2, h2, by rw [blk_ren]; exact h3⟩
  refine (h.2 F μs w vals sts (VRs.unren un _ _ hv)).mono fun e w' hq => ?_
  obtain ⟨v, y, F', obs, μo, he, hq, sp, st', hy⟩ := hq
  have hgrow : σs.length ≤ obs.length := sp.keep.grows rfl sts.len
  have hrl : ι.length ≤ (obs.map (Ob.ren g)).length := by rw [List.length_map, hemb.len]; exact hgrow
  have hml : ι.length ≤ μo.length := by rw [st'.len, hemb.len]; exact hgrow
  have hmμ : ∀ i ∈ ι, i < μ.length := fun i hi => by rw [st.len]; exact hmem i hi
  let σ' := mrg σ ι (obs.map (Ob.ren g))
  let μ' := mrg μ ι μo
  -- the new store, number by number
  have num : ∀ i, i < σ'.length → (∃ j, g j = i ∧ j < obs.length ∧ σ'[i]? = (obs[j]?).map (Ob.ren g) ∧ μ'[i]? = μo[j]?) ∨ (i ∉ ι ∧ i < σ.length ∧ σ'[i]? = σ[i]? ∧ μ'[i]? = μ[i]?) := by
    intro i hi
    rcases Nat.lt_or_ge i σ.length with hl | hl
    · by_cases hm : i ∈ ι
      · obtain ⟨j, hj⟩ := List.mem_iff_getElem?.1 hm
        left
        refine ⟨j, hg j i hj, ?_, ?_, ?_⟩
        · have := (List.getElem?_eq_some_iff.1 hj).1
          simp at hrl; omega
        · rw [mrg_at ι σ _ j i hemb.nodup hmem hrl hj, List.getElem?_map]
        · exact mrg_at ι μ μo j i hemb.nodup hmμ hml hj
      · exact .inr ⟨hm, hl, mrg_out ι σ _ i hm hl, mrg_out ι μ _ i hm (by rw [st.len]; exact hl)⟩
    · left
      have hlen := mrg_length ι σ _ hrl
      have hi' : i < σ.length + ((obs.map (Ob.ren g)).length - ι.length) := hlen ▸ hi
      simp only [List.length_map] at hi' hrl
      refine ⟨ι.length + (i - σ.length), ?_, by omega, ?_, ?_⟩
      · simp only [g, gm]
        rw [if_neg (by omega)]
        omega
      · have := mrg_new ι σ (obs.map (Ob.ren g)) (i - σ.length) (by simpa using hrl)
        rw [show σ.length + (i - σ.length) = i from by omega, List.getElem?_map] at this
        exact this
      · have := mrg_new ι μ μo (i - σ.length) hml
        rw [show μ.length + (i - σ.length) = i from by rw [st.len]; omega] at this
        exact this
  have atg : ∀ (j : Nat) (ob : Ob), obs[j]? = some ob → σ'[g j]? = some (ob.ren g) ∧ μ'[g j]? = μo[j]? := by
    intro j ob hj
    have hjl := (List.getElem?_eq_some_iff.1 hj).1
    rcases Nat.lt_or_ge j ι.length with hl | hl
    · have h0 : ι[j]? = some ι[j] := List.getElem?_eq_getElem hl
      rw [hg j _ h0]
      refine ⟨?_, mrg_at ι μ μo j _ hemb.nodup hmμ hml h0⟩
      rw [mrg_at ι σ _ j _ hemb.nodup hmem hrl h0, List.getElem?_map, hj]
      rfl
    · have e : g j = σ.length + (j - ι.length) := by simp only [g, gm]; rw [if_neg (by omega)]
      rw [e]
      refine ⟨?_, ?_⟩
      · rw [mrg_new ι σ _ _ hrl, List.getElem?_map, show ι.length + (j - ι.length) = j from by omega, hj]
        rfl
      · rw [← st.len, mrg_new ι μ μo _ hml, show ι.length + (j - ι.length) = j from by omega]
  have ginj : ∀ j l, j < obs.length → l < obs.length → g j = g l → j = l := by
    intro j l hj hl e
    have val : ∀ j : Nat, (∃ i : Nat, ι[j]? = some i ∧ g j = i ∧ i < σ.length) ∨ (ι.length ≤ j ∧ g j = σ.length + (j - ι.length)) := by
      intro j
      rcases Nat.lt_or_ge j ι.length with h | h
      · have h0 : ι[j]? = some ι[j] := List.getElem?_eq_getElem h
        exact .inl ⟨_, h0, hg j _ h0, hlt j _ h0⟩
      · exact .inr ⟨h, by simp only [g, gm]; rw [if_neg (by omega)]⟩
    rcases val j with ⟨i, a1, a2, a3⟩ | ⟨a1, a2⟩ <;> rcases val l with ⟨i', b1, b2, b3⟩ | ⟨b1, b2⟩
    · rw [a2, b2] at e
      subst e
      exact (List.getElem?_inj (List.getElem?_eq_some_iff.1 a1).1 hemb.nodup).1 (a1.trans b1.symm)
    · omega
    · omega
    · omega
  have keep : Keep σ.length σ μ σ' μ' := by
    refine ⟨fun i T cs u hi h1 h2 => ?_, fun i E sz m cs u hi h1 h2 => ?_⟩
    · by_cases hm : i ∈ ι
      · obtain ⟨j, hj⟩ := List.mem_iff_getElem?.1 hm
        have hjl : j < σs.length := by rw [← hemb.len]; exact (List.getElem?_eq_some_iff.1 hj).1
        have h3 := hemb.at_ j i hj
        rw [h1] at h3
        obtain ⟨ob, e1, e2⟩ := Option.map_eq_some_iff.1 h3.symm
        cases ob with
        | box T' cs' =>
          simp [Ob.ren] at e2
          obtain ⟨rfl, rfl⟩ := e2
          obtain ⟨⟨c2, k1⟩, k2⟩ := sp.keep.box j T' cs' u hjl e1 ((hμs j i hj).trans h2)
          have := atg j _ k1
          rw [hg j i hj] at this
          exact ⟨⟨_, this.1⟩, this.2.trans k2⟩
        | row E sz n c => simp [Ob.ren] at e2
      · exact ⟨⟨cs, (mrg_out ι σ _ i hm hi).trans h1⟩, (mrg_out ι μ _ i hm (by rw [st.len]; exact hi)).trans h2⟩
    · by_cases hm : i ∈ ι
      · obtain ⟨j, hj⟩ := List.mem_iff_getElem?.1 hm
        have hjl : j < σs.length := by rw [← hemb.len]; exact (List.getElem?_eq_some_iff.1 hj).1
        have h3 := hemb.at_ j i hj
        rw [h1] at h3
        obtain ⟨ob, e1, e2⟩ := Option.map_eq_some_iff.1 h3.symm
        cases ob with
        | row E' sz' m' cs' =>
          simp [Ob.ren] at e2
          obtain ⟨rfl, rfl, rfl, rfl⟩ := e2
          obtain ⟨m2, c2, u2, k1, k2, k3⟩ := sp.keep.row j E' sz' m' cs' u hjl e1 ((hμs j i hj).trans h2)
          have := atg j _ k1
          rw [hg j i hj] at this
          exact ⟨m2, c2, u2, this.1, this.2.trans k2, k3⟩
        | box T c => simp [Ob.ren] at e2
      · exact ⟨m, cs, u, (mrg_out ι σ _ i hm hi).trans h1, (mrg_out ι μ _ i hm (by rw [st.len]; exact hi)).trans h2, Nat.le_refl _, fun _ => rfl⟩
  have mem : Mem F w F' w' := sp.memF sts
  have frameB : ∀ (i : Nat) (ob : Ob) (u : Value) (b : Nat), i ∉ ι → σ[i]? = some ob → μ[i]? = some u → blk ob u = some b → b < w.heap.size ∧ w'.heap[b]? = w.heap[b]? ∧ ¬ Live σs μs b := by
    intro i ob u b hm h1 h2 h3
    have hb := st.lt b (st.live_F ⟨i, ob, u, h1, h2, h3⟩)
    have hnl : ¬ Live σs μs b := by
      rintro ⟨j, ob', u', e1, e2, e3⟩
      obtain ⟨i', hi', hi2'⟩ := hs j ob' e1
      rw [hμs j i' hi'] at e2
      have := st.sep i i' ob u _ u' b h1 h2 hi2' e2 h3 (by rw [blk_ren]; exact e3)
      subst this
      exact hm (List.mem_of_getElem? hi')
    exact ⟨hb, sp.mem b hb hnl, hnl⟩
  have newB : ∀ (j : Nat) (ob : Ob) (u : Value) (b : Nat), obs[j]? = some ob → μo[j]? = some u → blk ob u = some b → Live σs μs b ∨ w.heap.size ≤ b := fun j ob u b h1 h2 h3 => sp.live b ⟨j, ob, u, h1, h2, h3⟩
  refine ⟨v, _, F', σ', μ', he, ⟨y, obs, hq, hgrow, rfl, rfl⟩, ?_, ?_, VR.toren (fun i ob hi => atg i ob hi) y v hy⟩
  · refine ⟨sp.os, sp.tape, sp.output, sp.size, fun b hb hl => sp.mem b hb fun h => hl (livs b h), sp.fnew, sp.fold, ?_, keep, ?_⟩
    · rintro b ⟨i, ob, u, h1, h2, h3⟩
      rcases num i (List.getElem?_eq_some_iff.1 h1).1 with ⟨j, _, hj, e1, e2⟩ | ⟨hm, hl, e1, e2⟩
      · rw [e1] at h1
        rw [e2] at h2
        obtain ⟨ob', k1, rfl⟩ := Option.map_eq_some_iff.1 h1
        rw [blk_ren] at h3
        exact (newB j ob' u b k1 h2 h3).imp (livs b) id
      · rw [e1] at h1
        rw [e2] at h2
        exact .inl ⟨i, ob, u, h1, h2, h3⟩
    · intro i E sz m cs u E' sz' m' cs' u' hi a1 a2 a3 a4 b hb
      by_cases hm : i ∈ ι
      · obtain ⟨j, hj⟩ := List.mem_iff_getElem?.1 hm
        have hjl : j < σs.length := by rw [← hemb.len]; exact (List.getElem?_eq_some_iff.1 hj).1
        have h3 := hemb.at_ j i hj
        rw [a1] at h3
        obtain ⟨ob, e1, e2⟩ := Option.map_eq_some_iff.1 h3.symm
        cases ob with
        | row E1 sz1 m1 cs1 =>
          have q1 : σ'[i]? = (obs[j]?).map (Ob.ren g) := by rw [mrg_at ι σ _ j i hemb.nodup hmem hrl hj, List.getElem?_map]
          have q2 : μ'[i]? = μo[j]? := mrg_at ι μ μo j i hemb.nodup hmμ hml hj
          rw [q1] at a3
          rw [q2] at a4
          obtain ⟨ob2, k1, k2⟩ := Option.map_eq_some_iff.1 a3
          cases ob2 with
          | row E2 sz2 m2 cs2 => exact sp.rows j E1 sz1 m1 cs1 u E2 sz2 m2 cs2 u' hjl e1 ((hμs j i hj).trans a2) k1 a4 b hb
          | box T c => simp [Ob.ren] at k2
        | box T c => simp [Ob.ren] at e2
      · rw [show μ'[i]? = μ[i]? from mrg_out ι μ _ i hm (by rw [st.len]; exact hi), a2] at a4
        obtain rfl := Option.some.inj a4
        exact .inl hb
  · refine ⟨?_, fun i ob u h1 h2 => ?_, fun i l ob u ob' u' b h1 h2 h3 h4 h5 h6 => ?_, st'.lt, sp.size⟩
    · show (mrg μ ι μo).length = (mrg σ ι (obs.map (Ob.ren g))).length
      rw [mrg_length ι μ μo hml, mrg_length ι σ _ hrl, st.len, st'.len, List.length_map]
    · rcases num i (List.getElem?_eq_some_iff.1 h1).1 with ⟨j, hgj, hj, e1, e2⟩ | ⟨hm, hl, e1, e2⟩
      · rw [e1] at h1
        rw [e2] at h2
        obtain ⟨ob', k1, rfl⟩ := Option.map_eq_some_iff.1 h1
        have hi_or : i < σ.length ∨ σs.length ≤ j := by
          rcases Nat.lt_or_ge j ι.length with h | h
          · have h0 : ι[j]? = some ι[j] := List.getElem?_eq_getElem h
            rw [hg j _ h0] at hgj
            exact .inl (hgj ▸ hlt j _ h0)
          · exact .inr (by rw [← hemb.len]; exact h)
        have := st'.obj j ob' u k1 h2
        cases ob' with
        | box T cs =>
          obtain ⟨b, arr, d1, d2, d3, d4, d5⟩ := this
          exact ⟨b, arr, d1, d2, VRs.toren (fun i ob hi => atg i ob hi) _ _ d3, d4, fun h => d5 (by omega)⟩
        | row E sz n cs =>
          obtain ⟨vs, d1, d2, d3⟩ := this
          refine ⟨vs, ⟨d1.1, ?_⟩, d2, d3⟩
          rcases d1.2 with h | ⟨gg, cap, cur, r1, r2, r3⟩
          · exact .inl h
          · refine .inr ⟨gg, cap, cur, r1, ?_, r3⟩
            split
            · rw [if_pos (by omega)] at r2
              exact r2
            · exact Nat.zero_le _
      · rw [e1] at h1
        rw [e2] at h2
        refine ObOk.mono mem st.len keep (fun b hb => ?_) (st.obj i ob u h1 h2)
        obtain ⟨r1, r2, _⟩ := frameB i ob u b hm h1 h2 hb
        exact ⟨r2, fun hF => sp.fold b r1 hF⟩
    · rcases num i (List.getElem?_eq_some_iff.1 h1).1 with ⟨j, hgj, hj, e1, e2⟩ | ⟨hm, hl, e1, e2⟩ <;>
        rcases num l (List.getElem?_eq_some_iff.1 h3).1 with ⟨j', hgj', hj', e1', e2'⟩ | ⟨hm', hl', e1', e2'⟩
      · rw [e1] at h1; rw [e2] at h2; rw [e1'] at h3; rw [e2'] at h4
        obtain ⟨ob1, k1, rfl⟩ := Option.map_eq_some_iff.1 h1
        obtain ⟨ob2, k2, rfl⟩ := Option.map_eq_some_iff.1 h3
        rw [blk_ren] at h5 h6
        have := st'.sep j j' ob1 u ob2 u' b k1 h2 k2 h4 h5 h6
        rw [← hgj, ← hgj', this]
      · rw [e1] at h1; rw [e2] at h2; rw [e1'] at h3; rw [e2'] at h4
        obtain ⟨ob1, k1, rfl⟩ := Option.map_eq_some_iff.1 h1
        rw [blk_ren] at h5
        obtain ⟨r1, _, r3⟩ := frameB l ob' u' b hm' h3 h4 h6
        rcases newB j ob1 u b k1 h2 h5 with h | h
        · exact (r3 h).elim
        · omega
      · rw [e1] at h1; rw [e2] at h2; rw [e1'] at h3; rw [e2'] at h4
        obtain ⟨ob2, k2, rfl⟩ := Option.map_eq_some_iff.1 h3
        rw [blk_ren] at h6
        obtain ⟨r1, _, r3⟩ := frameB i ob u b hm h1 h2 h5
        rcases newB j' ob2 u' b k2 h4 h6 with h | h
        · exact (r3 h).elim
        · omega
      · rw [e1] at h1; rw [e2] at h2; rw [e1'] at h3; rw [e2'] at h4
        exact st.sep i l ob u ob' u' b h1 h2 h3 h4 h5 h6

/-! ### Calls -/

theorem run_call {f : FuncId} {fv : Operand} {args : Array Operand} {ts : Array TypeId} {ty : TypeId} {pos : String} {af : Array Edge} {gd : Option (Nat × Bool)} {dst : Option Tmp} {a : Act} {fi ca : Array Value}
    (he : Ent P f) (hf : a.eval fv = .func (.func f) fi ca) :
    (execOp a.eval ⟨dst, .call { callee := .value fv, args := args, argTypes := ts }, ty, pos, af, gd⟩).run P w = .ok (.enter f (fi ++ args.map a.eval ++ ca)) w := by
  obtain ⟨fn, c, h1, h2, h3⟩ := he
  simp [execOp, resolve, Deferred.ofValue, hf, invoke, callFunc, program, Sem.run, h1, h2, h3]

/-- A call of a Go function, by its contract. -/
theorem AOp.call {Q : V → List Ob → Prop} {f : FuncId} {fv : Operand} {args : Array Operand} {ts : Array TypeId} {ty : TypeId} {pos : String} {af : Array Edge} {gd : Option (Nat × Bool)} {dst : Option Tmp} {fi ca : List V}
    (hf : ev T fv = .f (.func f) fi ca) (h : AC P f (nzs (fi ++ args.toList.map (ev T) ++ ca)) σ Q) : AOp P N k ⟨dst, .call { callee := .value fv, args := args, argTypes := ts }, ty, pos, af, gd⟩ T σ Q := by
  intro B F μ w a st tr next X hn
  have hx := ev_ok tr fv
  rw [hf] at hx
  simp only [VR] at hx
  obtain ⟨x, y, hv, h1, h2⟩ := hx
  unfold Oper.wp
  rw [run_call h.1 hv]
  show Calls P f _ w _
  have hargs : VRs F σ μ w (fi ++ args.toList.map (ev T) ++ ca) (x ++ args.map a.eval ++ y).toList := by
    simp only [Array.toList_append, Array.toList_map]
    exact VRs.append (VRs.append h1 (evs_ok tr _)) h2
  have hc := h.2 F μ w _ st.lower (nzs_ok _ _ hargs)
  simp only [Array.toArray_toList] at hc
  refine hc.mono fun e w' ⟨v, z, F', σ', μ', he, hq, sp, st', hz⟩ => ?_
  subst he
  obtain ⟨g1, g2⟩ := St.raise st st' sp
  exact hn v w' ⟨z, F', σ', μ', hq, g2, g1, sp.keep, hz⟩

/-- .. of some of the frame's objects. -/
theorem AOp.callι {Q Qs : V → List Ob → Prop} {f : FuncId} {fv : Operand} {args : Array Operand} {ts : Array TypeId} {ty : TypeId} {pos : String} {af : Array Edge} {gd : Option (Nat × Bool)} {dst : Option Tmp} {fi ca as : List V}
    (ι : List Nat) (hf : ev T fv = .f (.func f) fi ca) (hc : AC P f as σs Qs) (hemb : Emb ι σs σ) (has : nzs (fi ++ args.toList.map (ev T) ++ ca) = rens (gm ι σ.length) as)
    (h : ∀ y obs, Qs y obs → Q (y.ren (gm ι σ.length)) (mrg σ ι (obs.map (Ob.ren (gm ι σ.length))))) : AOp P N k ⟨dst, .call { callee := .value fv, args := args, argTypes := ts }, ty, pos, af, gd⟩ T σ Q := by
  refine AOp.call hf ?_
  rw [has]
  exact (AC.frame hemb hc).mono fun x σ' ⟨y, obs, hq, _, hx, hs⟩ => by rw [hx, hs]; exact h y obs hq
end
end Go.AW
