/-
  The calculus: nil slices among data are rows of no elements.
-/
import Derived.Test.YtidkhiomlljfiaaAwFrz
namespace Go.AW
open Go
set_option linter.unusedVariables false

mutual
def nzD : D → D
  | .s (.slice none 0 0) => .l 0 []
  | .l n xs => .l n (nzDs xs)
  | x => x
def nzDs : List D → List D
  | [] => []
  | x :: xs => nzD x :: nzDs xs
end
mutual
theorem nzD_ok {F : Nat → Prop} {w : World} : ∀ (x : D) (v : Value), DR F w x v → DR F w (nzD x) v
  | .s u, v, h => by
    unfold nzD
    split
    · rename_i e
      cases e
      simp only [DR] at h ⊢
      exact ⟨none, 0, h, Nat.le_refl _, .inl (by simp)⟩
    · rename_i e; cases e
    · exact h
  | .l n xs, v, h => by
    simp only [nzD, DR] at h ⊢
    obtain ⟨A, cap, hv, hn, ⟨rfl, h⟩ | ⟨b, off, vs, hA, hb, hF, hc, hd⟩⟩ := h
    · exact ⟨A, cap, hv, hn, .inl ⟨rfl, h⟩⟩
    · exact ⟨A, cap, hv, hn, .inr ⟨b, off, vs, hA, hb, hF, hc, nzDs_ok xs vs hd⟩⟩
theorem nzDs_ok {F : Nat → Prop} {w : World} : ∀ (xs : List D) (vs : List Value), DRs F w xs vs → DRs F w (nzDs xs) vs
  | [], vs, h => h
  | x :: xs, vs, h => by
    simp only [nzDs, DRs] at h ⊢
    obtain ⟨v, us, hv, h1, h2⟩ := h
    exact ⟨v, us, hv, nzD_ok x v h1, nzDs_ok xs us h2⟩
end
mutual
def nzV : V → V
  | .d x => .d (nzD x)
  | .a xs => .a (nzVs xs)
  | x => x
def nzVs : List V → List V
  | [] => []
  | x :: xs => nzV x :: nzVs xs
end
mutual
theorem nzV_ok {F : Nat → Prop} {σ : List Ob} {μ : List Value} {w : World} : ∀ (x : V) (v : Value), VR F σ μ w x v → VR F σ μ w (nzV x) v
  | .d x, v, h => by simp only [nzV, VR] at h ⊢; exact nzD_ok x v h
  | .a xs, v, h => by
    simp only [nzV, VR] at h ⊢
    obtain ⟨cs, hv, h⟩ := h
    exact ⟨cs, hv, nzVs_ok xs _ h⟩
  | .t _, v, h => h
  | .p _ _, v, h => h
  | .c _, v, h => h
  | .o _ _, v, h => h
  | .e _ _ _, v, h => h
  | .b _ _ _, v, h => h
  | .f _ _ _, v, h => h
  | .u, v, h => h
theorem nzVs_ok {F : Nat → Prop} {σ : List Ob} {μ : List Value} {w : World} : ∀ (xs : List V) (vs : List Value), VRs F σ μ w xs vs → VRs F σ μ w (nzVs xs) vs
  | [], vs, h => h
  | x :: xs, vs, h => by
    simp only [nzVs, VRs] at h ⊢
    obtain ⟨v, us, hv, h1, h2⟩ := h
    exact ⟨v, us, hv, nzV_ok x v h1, nzVs_ok xs us h2⟩
end
theorem AC.nzd {P : Program} {f : FuncId} {σ : List Ob} {Q : V → List Ob → Prop} (args : List V) (h : AC P f (nzVs args) σ Q) : AC P f args σ Q := by
  unfold AC at h ⊢
  exact ⟨h.1, fun F μ w vals st hv => h.2 F μ w vals st (nzVs_ok args vals hv)⟩


def nzOb : Ob → Ob
  | .row E sz n cs => .row E sz n (nzDs cs)
  | ob => ob
attribute [go_sem] nzOb nzDs nzD
theorem obsLt_nz (m : Nat) : ∀ σ : List Ob, obsLt m (σ.map nzOb) = obsLt m σ
  | [] => rfl
  | x :: σ => by
    simp only [List.map_cons, obsLt, obsLt_nz m σ]
    cases x <;> rfl
section
variable {P : Program} {N k B : Nat} {T : Tm} {F : Nat → Prop} {σ : List Ob} {μ : List Value} {w : World}
theorem nz_at {i : Nat} {ob : Ob} (h : (σ.map nzOb)[i]? = some ob) : ∃ ob0, σ[i]? = some ob0 ∧ ob = nzOb ob0 := by
  rw [List.getElem?_map] at h
  cases hc : σ[i]? with
  | none => rw [hc] at h; cases h
  | some ob0 => rw [hc] at h; exact ⟨ob0, rfl, (Option.some.inj h).symm⟩
theorem blk_nz (ob : Ob) (h : Value) : blk (nzOb ob) h = blk ob h := by
  cases h with
  | pointer a => cases a <;> cases ob <;> rfl
  | slice a _ _ => cases a <;> cases ob <;> rfl
  | _ => cases ob <;> rfl
theorem Keep.nz : Keep σ.length σ μ (σ.map nzOb) μ := by
  refine ⟨fun i T cs h _ h1 h2 => ⟨⟨cs, by rw [List.getElem?_map, h1]; rfl⟩, h2⟩, fun i E sz m cs h _ h1 h2 => ⟨m, nzDs cs, h, by rw [List.getElem?_map, h1]; rfl, h2, Nat.le_refl _, fun _ => rfl⟩⟩
theorem Live.nz {b : Nat} (h : Live (σ.map nzOb) μ b) : Live σ μ b := by
  obtain ⟨i, ob, u, h1, h2, h3⟩ := h
  obtain ⟨ob0, g1, rfl⟩ := nz_at h1
  exact ⟨i, ob0, u, g1, h2, by rw [blk_nz] at h3; exact h3⟩
theorem St.nz (st : St k B F σ μ w) : St k B F (σ.map nzOb) μ w := by
  have hm : Mem F w F w := ⟨Nat.le_refl _, fun b _ hf => ⟨rfl, hf⟩⟩
  refine ⟨by rw [List.length_map]; exact st.len, fun i ob h h1 h2 => ?_, fun i j ob h ob' h' b h1 h2 h3 h4 h5 h6 => ?_, st.lt, st.base⟩
  · obtain ⟨ob0, g1, rfl⟩ := nz_at h1
    have hh := st.obj i ob0 h g1 h2
    cases ob0 with
    | box T cs =>
      obtain ⟨b, arr, e1, e2, e3, e4, e5⟩ := hh
      exact ⟨b, arr, e1, e2, VRs.mono hm st.len Keep.nz _ _ e3, e4, e5⟩
    | row E sz n cs =>
      obtain ⟨vs, e1, e2, e3⟩ := hh
      exact ⟨vs, e1, nzDs_ok _ _ e2, e3⟩
  · obtain ⟨o1, g1, rfl⟩ := nz_at h1
    obtain ⟨o2, g2, rfl⟩ := nz_at h3
    rw [blk_nz] at h5 h6
    exact st.sep i j o1 h o2 h' b g1 h2 g2 h4 h5 h6
theorem Stp.nz : Stp k B F σ μ w F (σ.map nzOb) μ w :=
  ⟨rfl, rfl, rfl, Nat.le_refl _, fun _ _ _ => rfl, fun _ h => .inl h, fun _ _ h => h, fun _ h => .inl h.nz, Keep.any Keep.nz, fun i E sz m cs h E' sz' m' cs' h' _ _ h2 _ h4 b hb => by
    rw [h2] at h4
    obtain rfl := Option.some.inj h4
    exact .inl hb⟩
theorem AW.nzr {c : Code} {Q : Ex → Tm → List Ob → Prop} (h : AW P N k c Q T (σ.map nzOb)) : AW P N k c Q T σ := by
  intro B F μ w a st tr hd
  have hm : Mem F w F w := ⟨Nat.le_refl _, fun b _ hf => ⟨rfl, hf⟩⟩
  exact wp_mono (h B F μ w a st.nz ⟨tr.1, fun t => VR.mono hm st.len Keep.nz _ _ (tr.2 t)⟩ hd) (APost.trans Stp.nz)
/-- A loop whose slots and store are those of a thing x, nil slices among its rows' data being rows of no elements. -/
theorem AW.roundsN {Q : Ex → Tm → List Ob → Prop} {X : Type} {c : Code} (ts : List Nat) (Tf : X → Tm) (σf : X → List Ob) (Pf : X → Prop) (μf : X → Nat) (x0 : X) (h0 : Pf x0) (hT : fzT σ (σf x0).length (keepT T ts) = Tf x0) (hσ : (σ.take (σf x0).length).map nzOb = σf x0)
    (hk : ∀ x, Pf x → k ≤ (σf x).length) (ho : ∀ x, Pf x → obsLt (σf x).length (σf x) = true) (ht : ∀ x, Pf x → tLt (σf x).length (Tf x) = true)
    (round : ∀ x, Pf x → ∀ J : Tm → List Ob → Prop, (∀ x' T' σ', μf x' < μf x → Pf x' → fzT σ' (σf x').length (keepT T' ts) = Tf x' → (σ'.take (σf x').length).map nzOb = σf x' → J T' σ') → AW P N k c (thenQ J Q) (Tf x) (σf x)) : AW P N k (.loop c) Q T σ := by
  refine AW.loop (fun n T σ => ∃ x, μf x = n ∧ Pf x ∧ fzT σ (σf x).length (keepT T ts) = Tf x ∧ (σ.take (σf x).length).map nzOb = σf x) (μf x0) ⟨x0, rfl, h0, hT, hσ⟩ ?_
  rintro n T σ ⟨x, rfl, hp, hT, hσ⟩ J hJ
  refine AW.freeze ts (σf x).length (hk x hp) (by rw [← obsLt_nz, hσ]; exact ho x hp) (by rw [hT]; exact ht x hp) ?_
  refine AW.nzr ?_
  rw [hT, hσ]
  exact round x hp J fun x' T' σ' h1 h2 h3 h4 => hJ (μf x') T' σ' h1 ⟨x', rfl, h2, h3, h4⟩
end
end Go.AW
