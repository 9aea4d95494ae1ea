/-
  The calculus: a function's end, its contract; a call of it, in whatever store.
-/
import Derived.Test.YtiiacdheopdooaaAwCtl
namespace Go.AW
open Go

set_option linter.unusedVariables false
set_option linter.unusedSimpArgs false

mutual
def V.ren (g : Nat → Nat) : V → V
  | .d x => .d x
  | .a xs => .a (rens g xs)
  | .t xs => .t (rens g xs)
  | .p i off => .p (g i) off
  | .c xs => .c xs
  | .o i n => .o (g i) n
  | .e i n off => .e (g i) n off
  | .f fn a b => .f fn (rens g a) (rens g b)
  | .u => .u
def rens (g : Nat → Nat) : List V → List V
  | [] => []
  | x :: xs => x.ren g :: rens g xs
end
def Ob.ren (g : Nat → Nat) : Ob → Ob
  | .box T cs => .box T (rens g cs)
  | .row E sz n cs => .row E sz n cs

mutual
def V.lt (m : Nat) : V → Bool
  | .d _ => true
  | .a xs => lts m xs
  | .t xs => lts m xs
  | .p i _ => decide (i < m)
  | .c _ => true
  | .o i _ => decide (i < m)
  | .e i _ _ => decide (i < m)
  | .f _ a b => lts m a && lts m b
  | .u => true
def lts (m : Nat) : List V → Bool
  | [] => true
  | x :: xs => x.lt m && lts m xs
end
def Ob.lt (m : Nat) : Ob → Bool
  | .box _ cs => lts m cs
  | _ => true
def obsLt (m : Nat) : List Ob → Bool
  | [] => true
  | x :: xs => x.lt m && obsLt m xs

mutual
def nz : V → V
  | .d (.s (.slice none 0 0)) => .d (.l 0 [])
  | .a xs => .a (nzs xs)
  | x => x
def nzs : List V → List V
  | [] => []
  | x :: xs => nz x :: nzs xs
end

mutual
def fz (σ : List Ob) (m : Nat) : V → V
  | .d (.s (.slice none 0 0)) => .d (.l 0 [])
  | .o i n => if i < m then .o i n else match σ[i]? with
    | some (.row _ _ n' cs) => if n = n' then .d (.l n cs) else .u
    | _ => .u
  | .a xs => .a (fzs σ m xs)
  | .t xs => .t (fzs σ m xs)
  | x => x
def fzs (σ : List Ob) (m : Nat) : List V → List V
  | [] => []
  | x :: xs => fz σ m x :: fzs σ m xs
end

section
variable {P : Program} {N k B : Nat} {T : Tm} {F F' : Nat → Prop} {σ σ' : List Ob} {μ μ' : List Value} {w w' : World}

mutual
theorem nz_ok : ∀ (x : V) (v : Value), VR F σ μ w x v → VR F σ μ w (nz x) v
  | .d x, v, h => by
    unfold nz
    split
    · rename_i e
      rw [e] at h
      simp only [VR, DR] at h
      exact ⟨none, 0, h, Nat.le_refl _, .inl ⟨rfl, rfl⟩⟩
    · rename_i e; cases e
    · exact h
  | .a xs, v, h => by
    simp only [nz, VR] at h ⊢
    obtain ⟨cs, hv, h⟩ := h
    exact ⟨cs, hv, nzs_ok xs _ h⟩
  | .t xs, v, h => by simpa only [nz] using h
  | .p i off, v, h => by simpa only [nz] using h
  | .c xs, v, h => by simpa only [nz] using h
  | .o i n, v, h => by simpa only [nz] using h
  | .e i n off, v, h => by simpa only [nz] using h
  | .f fn a b, v, h => by simpa only [nz] using h
  | .u, v, h => by simpa only [nz] using h
theorem nzs_ok : ∀ (xs : List V) (vs : List Value), VRs F σ μ w xs vs → VRs F σ μ w (nzs xs) vs
  | [], vs, h => by simpa [nzs, VRs] using h
  | x :: xs, vs, h => by
    simp only [nzs, VRs] at h ⊢
    obtain ⟨v, us, hv, h1, h2⟩ := h
    exact ⟨v, us, hv, nz_ok x v h1, nzs_ok xs us h2⟩
end

/-- Values under another store, number by number the same. -/
structure Sub (m : Nat) (F : Nat → Prop) (σ : List Ob) (μ : List Value) (w : World) (F' : Nat → Prop) (σ' : List Ob) (μ' : List Value) (w' : World) : Prop where
  mem : Mem F w F' w'
  obs : ∀ i, i < m → σ'[i]? = σ[i]? ∧ μ'[i]? = μ[i]?

mutual
theorem VR.sub {m : Nat} (h : Sub m F σ μ w F' σ' μ' w') : ∀ (x : V) (v : Value), x.lt m = true → VR F σ μ w x v → VR F' σ' μ' w' x v
  | .d x, v, _, hv => by simp only [VR] at hv ⊢; exact DR.mono h.mem x v hv
  | .a xs, v, hl, hv => by
    simp only [VR, V.lt] at hv hl ⊢
    obtain ⟨cs, e, hv⟩ := hv
    exact ⟨cs, e, VRs.sub h xs _ hl hv⟩
  | .t xs, v, hl, hv => by
    simp only [VR, V.lt] at hv hl ⊢
    obtain ⟨cs, e, hv⟩ := hv
    exact ⟨cs, e, VRs.sub h xs _ hl hv⟩
  | .p i off, v, hl, hv => by
    simp only [VR, V.lt, decide_eq_true_eq] at hv hl ⊢
    rw [(h.obs i hl).1, (h.obs i hl).2]
    exact hv
  | .c xs, v, _, hv => by
    simp only [VR] at hv ⊢
    obtain ⟨b, off, vs, e, hb, hF, hc, hd⟩ := hv
    have := h.mem.2 b hb hF
    exact ⟨b, off, vs, e, Nat.lt_of_lt_of_le hb h.mem.1, this.2, cellsAt_of_block this.1 hc, DRs.mono h.mem xs vs hd⟩
  | .o i n, v, hl, hv => by
    simp only [VR, V.lt, decide_eq_true_eq] at hv hl ⊢
    rw [(h.obs i hl).1, (h.obs i hl).2]
    exact hv
  | .e i n off, v, hl, hv => by
    simp only [VR, V.lt, decide_eq_true_eq] at hv hl ⊢
    rw [(h.obs i hl).1, (h.obs i hl).2]
    exact hv
  | .f fn a b, v, hl, hv => by
    simp only [VR, V.lt, Bool.and_eq_true] at hv hl ⊢
    obtain ⟨x, y, e, h1, h2⟩ := hv
    exact ⟨x, y, e, VRs.sub h a _ hl.1 h1, VRs.sub h b _ hl.2 h2⟩
  | .u, v, _, hv => by simp [VR]
theorem VRs.sub {m : Nat} (h : Sub m F σ μ w F' σ' μ' w') : ∀ (xs : List V) (vs : List Value), lts m xs = true → VRs F σ μ w xs vs → VRs F' σ' μ' w' xs vs
  | [], vs, _, hv => by simpa [VRs] using hv
  | x :: xs, vs, hl, hv => by
    simp only [VRs, lts, Bool.and_eq_true] at hv hl ⊢
    obtain ⟨v, us, e, h1, h2⟩ := hv
    exact ⟨v, us, e, VR.sub h x v hl.1 h1, VRs.sub h xs us hl.2 h2⟩
end

theorem obsLt_get {m : Nat} : ∀ {l : List Ob} {i : Nat} {ob : Ob}, obsLt m l = true → l[i]? = some ob → ob.lt m = true
  | [], i, ob, _, h => by simp at h
  | x :: l, i, ob, hl, h => by
    simp only [obsLt, Bool.and_eq_true] at hl
    cases i with
    | zero => simp at h; subst h; exact hl.1
    | succ i => exact obsLt_get hl.2 (by simpa using h)

/-- The objects behind number m are left. -/
theorem St.cut (st : St k B F σ μ w) {m : Nat} (hk : k ≤ m) (ho : obsLt m (σ.take m) = true) :
    ∃ F', (∀ b, F' b ↔ F b ∧ (b < B ∨ Live (σ.take m) (μ.take m) b)) ∧ St k B F' (σ.take m) (μ.take m) w ∧ Stp k B F σ μ w F' (σ.take m) (μ.take m) w ∧ Sub m F σ μ w F' (σ.take m) (μ.take m) w := by
  let F' : Nat → Prop := fun b => F b ∧ (b < B ∨ Live (σ.take m) (μ.take m) b)
  have hs : ∀ i ob, (σ.take m)[i]? = some ob → i < m ∧ σ[i]? = some ob := fun i ob h => by
    rw [List.getElem?_take] at h
    split at h
    · exact ⟨by assumption, h⟩
    · simp at h
  have hm : ∀ i v, (μ.take m)[i]? = some v → i < m ∧ μ[i]? = some v := fun i ob h => by
    rw [List.getElem?_take] at h
    split at h
    · exact ⟨by assumption, h⟩
    · simp at h
  have obs : ∀ i, i < m → (σ.take m)[i]? = σ[i]? ∧ (μ.take m)[i]? = μ[i]? := fun i hi => by
    rw [List.getElem?_take, List.getElem?_take, if_pos hi, if_pos hi]; exact ⟨rfl, rfl⟩
  have mem : Mem F w F' w := ⟨Nat.le_refl _, fun b _ hf => ⟨rfl, fun h => hf h.1⟩⟩
  have sub : Sub m F σ μ w F' (σ.take m) (μ.take m) w := ⟨mem, obs⟩
  refine ⟨F', fun b => Iff.rfl, ⟨by simp [st.len], fun i ob u h1 h2 => ?_, fun i j ob u ob' u' b h1 h2 h3 h4 => st.sep i j ob u ob' u' b (hs i ob h1).2 (hm i u h2).2 (hs j ob' h3).2 (hm j u' h4).2, fun b hb => st.lt b hb.1, st.base⟩,
    ⟨rfl, rfl, rfl, Nat.le_refl _, fun _ _ _ => rfl, fun b hb => .inl hb.1, fun b hb hf => ⟨hf, .inl hb⟩, fun b hb => ?_, ?_, fun i E sz n cs u E' sz' n' cs' u' hi a1 a2 a3 a4 b hb => ?_⟩, sub⟩
  · have hlt := obsLt_get ho h1
    have live : ∀ b, blk ob u = some b → Live (σ.take m) (μ.take m) b := fun b hb => ⟨i, ob, u, h1, h2, hb⟩
    have := st.obj i ob u (hs i ob h1).2 (hm i u h2).2
    cases ob with
    | box T cs =>
      obtain ⟨b, arr, rfl, e2, e3, e4, e5⟩ := this
      exact ⟨b, arr, rfl, e2, VRs.sub sub cs _ hlt e3, ⟨e4, .inr (live b rfl)⟩, e5⟩
    | row E sz n cs =>
      obtain ⟨vs, e1, e2, e3⟩ := this
      exact ⟨vs, e1, DRs.mono mem _ _ e2, fun b hb => ⟨e3 b hb, .inr (live b ((blk_row u (row_no_ptr e1)).trans hb))⟩⟩
  · obtain ⟨i, ob, u, h1, h2, h3⟩ := hb
    exact .inl ⟨i, ob, u, (hs i ob h1).2, (hm i u h2).2, h3⟩
  · refine ⟨fun i T cs u hi a1 a2 => ?_, fun i E sz n cs u hi a1 a2 => ?_⟩
    · have := obs i (by omega)
      exact ⟨⟨cs, this.1.trans a1⟩, this.2.trans a2⟩
    · have := obs i (by omega)
      exact ⟨n, cs, u, this.1.trans a1, this.2.trans a2, Nat.le_refl _, fun _ => rfl⟩
  · have := obs i (by omega)
    rw [this.2, a2] at a4
    obtain rfl := Option.some.inj a4
    exact .inl hb

mutual
theorem fz_ok (st : St k B F σ μ w) {m : Nat} (hk : k ≤ m) (hF : ∀ b, F' b → F b ∧ (b < B ∨ Live (σ.take m) (μ.take m) b)) (hs : Sub m F σ μ w F' (σ.take m) (μ.take m) w) :
    ∀ (x : V) (v : Value), (fz σ m x).lt m = true → VR F σ μ w x v → VR F' (σ.take m) (μ.take m) w (fz σ m x) v
  | .d x, v, hl, hv => by
    unfold fz
    split
    · rename_i e
      rw [e] at hv
      simp only [VR, DR] at hv
      exact ⟨none, 0, hv, Nat.le_refl _, .inl ⟨rfl, rfl⟩⟩
    · rename_i e; cases e
    · rename_i e; cases e
    · rename_i e; cases e
    · exact VR.sub hs _ v (by simp [V.lt]) hv
  | .a xs, v, hl, hv => by
    simp only [fz, VR, V.lt] at hl hv ⊢
    obtain ⟨cs, e, hv⟩ := hv
    exact ⟨cs, e, fzs_ok st hk hF hs xs _ hl hv⟩
  | .t xs, v, hl, hv => by
    simp only [fz, VR, V.lt] at hl hv ⊢
    obtain ⟨cs, e, hv⟩ := hv
    exact ⟨cs, e, fzs_ok st hk hF hs xs _ hl hv⟩
  | .o i n, v, hl, hv => by
    simp only [fz] at hl ⊢
    split
    · rename_i hi
      exact VR.sub hs _ v (by simp [V.lt, hi]) hv
    · rename_i hi
      split
      · rename_i E sz n' cs hr
        split
        · rename_i hn
          subst hn
          obtain ⟨hμ, vs, hown, hd, hF0⟩ := own_hdr st hr hv
          rcases hown.2 with ⟨rfl, rfl⟩ | ⟨g, cap, cur, rfl, hb, hh, hc, _⟩
          · have h0 : vs = [] := List.eq_nil_of_length_eq_zero (by simpa using hown.1)
            subst h0
            have h1 := DRs.length hd
            have h2 : cs = [] := List.eq_nil_of_length_eq_zero (by simpa using h1.symm)
            subst h2
            exact ⟨none, 0, rfl, Nat.le_refl _, .inl ⟨rfl, rfl⟩⟩
          · have hg : g < w.heap.size := (Array.getElem?_eq_some_iff.1 hh).1
            rw [if_pos (by omega)] at hb
            refine ⟨_, cap, rfl, hc, .inr ⟨g, 0, vs, rfl, hg, fun hf => ?_, row_range hown rfl, DRs.mono hs.mem _ _ hd⟩⟩
            rcases (hF g hf).2 with h1 | ⟨j, ob, u, h1, h2, h3⟩
            · omega
            · rw [List.getElem?_take] at h1 h2
              split at h1
              · rename_i hj
                rw [if_pos hj] at h2
                have := st.sep j i ob u _ _ g h1 h2 hr hμ h3 rfl
                omega
              · simp at h1
        · exact trivial
      · exact trivial
  | .p i off, v, hl, hv => by simp only [fz] at hl ⊢; exact VR.sub hs _ v hl hv
  | .c xs, v, hl, hv => by simp only [fz] at hl ⊢; exact VR.sub hs _ v hl hv
  | .e i n off, v, hl, hv => by simp only [fz] at hl ⊢; exact VR.sub hs _ v hl hv
  | .f fn a b, v, hl, hv => by simp only [fz] at hl ⊢; exact VR.sub hs _ v hl hv
  | .u, v, hl, hv => by simp only [fz] at hl ⊢; exact VR.sub hs _ v hl hv
theorem fzs_ok (st : St k B F σ μ w) {m : Nat} (hk : k ≤ m) (hF : ∀ b, F' b → F b ∧ (b < B ∨ Live (σ.take m) (μ.take m) b)) (hs : Sub m F σ μ w F' (σ.take m) (μ.take m) w) :
    ∀ (xs : List V) (vs : List Value), lts m (fzs σ m xs) = true → VRs F σ μ w xs vs → VRs F' (σ.take m) (μ.take m) w (fzs σ m xs) vs
  | [], vs, _, hv => by simpa [fzs, VRs] using hv
  | x :: xs, vs, hl, hv => by
    simp only [fzs, VRs, lts, Bool.and_eq_true] at hv hl ⊢
    obtain ⟨v, us, e, h1, h2⟩ := hv
    exact ⟨v, us, e, fz_ok st hk hF hs x v hl.1 h1, fzs_ok st hk hF hs xs us hl.2 h2⟩
end

def tLt (m : Nat) : Tm → Bool
  | [] => true
  | (_, x) :: T => x.lt m && tLt m T

theorem look_lt {m : Nat} : ∀ {T : Tm} (t : Nat), tLt m T = true → (look T t).lt m = true
  | [], t, _ => rfl
  | (n, x) :: T, t, h => by
    simp only [tLt, Bool.and_eq_true] at h
    simp only [look]
    split
    · exact h.1
    · exact look_lt t h.2

/-- Some slots are looked up anew, all others forgotten, and so are the objects behind number m. -/
def keepT (T : Tm) : List Nat → Tm
  | [] => []
  | t :: ts => (t, look T t) :: keepT T ts

theorem look_keepT (T : Tm) : ∀ (ts : List Nat) (t : Nat), look (keepT T ts) t = .u ∨ look (keepT T ts) t = look T t
  | [], t => .inl rfl
  | s :: ts, t => by
    simp only [keepT, look]
    split
    · rename_i e; subst e; exact .inr rfl
    · exact look_keepT T ts t

theorem AW.forget {c : Code} {Q : Ex → Tm → List Ob → Prop} (ts : List Nat) (m : Nat) (hk : k ≤ m) (ho : obsLt m (σ.take m) = true) (ht : tLt m (keepT T ts) = true)
    (h : AW P N k c Q (keepT T ts) (σ.take m)) : AW P N k c Q T σ := by
  intro B F μ w a st tr hd
  obtain ⟨F', _, g1, g2, g3⟩ := St.cut st hk ho
  refine wp_mono (h B F' (μ.take m) w a g1 ⟨tr.1, fun t => ?_⟩ hd) (APost.trans g2)
  refine VR.sub g3 _ _ (look_lt t ht) ?_
  rcases look_keepT T ts t with e | e
  · rw [e]; trivial
  · rw [e]; exact tr.2 t

/-! ### A function's end -/

def resV (P : Program) (σ : List Ob) (T : Tm) : List ResultVar → Option (List V)
  | [] => some []
  | .tmp t :: r => (resV P σ T r).map (look T t :: ·)
  | .cell a t :: r => match look T a with
    | .p i off => match rdx P t σ (.p i off) with
      | some y => (resV P σ T r).map (y :: ·)
      | none => none
    | _ => none

def one1 : List V → V
  | [x] => x
  | xs => .t xs

theorem resV_ok (st : St k B F σ μ w) {tm : Array Value} (tr : TR N F σ μ w T tm) : ∀ (rs : List ResultVar) (xs : List V), resV P σ T rs = some xs →
    ∃ vs : List Value, (rs.mapM (fun | .tmp t => pure (tm.getD t undef) | .cell a t => do loadVar t (← asAddr (tm.getD a undef)) : ResultVar → Sem Value)).run P w = .ok vs w ∧ VRs F σ μ w xs vs
  | [], xs, h => by
    simp only [resV, Option.some.injEq] at h
    subst h
    exact ⟨[], by simp, rfl⟩
  | .tmp t :: r, xs, h => by
    simp only [resV] at h
    cases hr : resV P σ T r with
    | none => simp [hr] at h
    | some ys =>
      simp [hr] at h
      subst h
      obtain ⟨vs, g1, g2⟩ := resV_ok st tr r ys hr
      exact ⟨_ :: vs, by simp only [List.mapM_cons, Sem.run_bind, Sem.run_pure, Result.andThen_ok, g1], ⟨_, _, rfl, tr.2 t, g2⟩⟩
  | .cell a t :: r, xs, h => by
    simp only [resV] at h
    split at h
    · rename_i i off e1
      split at h
      · rename_i y hy
        cases hr : resV P σ T r with
        | none => simp [hr] at h
        | some ys =>
          simp [hr] at h
          subst h
          obtain ⟨vs, g1, g2⟩ := resV_ok st tr r ys hr
          have ha := tr.2 a
          rw [e1] at ha
          obtain ⟨u, k1, k2⟩ := run_rdx (P := P) st hy ha
          have ha' := ha
          simp only [VR] at ha'
          obtain ⟨b, _, _, _, _, hv⟩ := ha'
          rw [hv] at k1
          refine ⟨u :: vs, ?_, ⟨_, _, rfl, k2, g2⟩⟩
          simp only [Instr.loadAt, Instr.sureAddr, Sem.run_bind, Sem.run_pure, Result.andThen_ok] at k1
          have hh : (do loadVar t (← asAddr (tm.getD a undef)) : Sem Value).run P w = .ok u w := by
            rw [hv]
            simp [asAddr, k1]
          rw [List.mapM_cons, Sem.run_bind, hh]
          simp only [Result.andThen_ok]
          rw [Sem.run_bind, g1]
          rfl
      · simp at h
    · simp at h

theorem run_results (st : St k B F σ μ w) {tm : Array Value} {fn : Func} {xs : List V} (tr : TR N F σ μ w T tm) (h : resV P σ T fn.results.toList = some xs) :
    ∃ v, (results fn tm).run P w = .ok v w ∧ VR F σ μ w (one1 xs) v := by
  obtain ⟨vs, g1, g2⟩ := resV_ok st tr _ xs h
  have hr : (results fn tm).run P w = .ok (if h : vs.toArray.size = 1 then vs.toArray[0] else .tuple vs.toArray) w := by
    unfold results
    rw [Sem.run_bind, Array.mapM_eq_mapM_toList, Sem.run_map]
    erw [g1]
    rfl
  refine ⟨_, hr, ?_⟩
  cases xs with
  | nil =>
    simp only [VRs] at g2
    subst g2
    exact ⟨#[], rfl, rfl⟩
  | cons x xs =>
    simp only [VRs] at g2
    obtain ⟨v, us, rfl, h1, h2⟩ := g2
    cases xs with
    | nil =>
      simp only [VRs] at h2
      subst h2
      exact h1
    | cons y ys =>
      have h2' := h2
      simp only [VRs] at h2
      obtain ⟨v2, us2, rfl, _⟩ := h2
      exact ⟨(v :: v2 :: us2).toArray, by simp, ⟨v, _, rfl, h1, h2'⟩⟩

def ent : Nat → List V → Tm
  | _, [] => []
  | i, x :: xs => (i, x) :: ent (i + 1) xs

theorem look_ent : ∀ (xs : List V) (vs : List Value) (i t : Nat), VRs F σ μ w xs vs → VR F σ μ w (look (ent i xs) t) ((vs[t - i]?).getD undef) ∨ look (ent i xs) t = .u
  | [], vs, i, t, h => .inr rfl
  | x :: xs, vs, i, t, h => by
    simp only [VRs] at h
    obtain ⟨v, us, rfl, h1, h2⟩ := h
    simp only [ent, look]
    split
    · rename_i e
      subst e
      exact .inl (by simpa using h1)
    · rename_i e
      rcases look_ent xs us (i + 1) t h2 with g | g
      · rcases Nat.lt_or_ge t i with hlt | hge
        · right
          have : ∀ (xs : List V) (j : Nat), t < j → look (ent j xs) t = .u := by
            intro xs
            induction xs with
            | nil => intro j _; rfl
            | cons y ys ih =>
              intro j hj
              simp only [ent, look]
              rw [if_neg (by omega)]
              exact ih (j + 1) (by omega)
          exact this xs (i + 1) (by omega)
        · left
          have : t - i = (t - (i + 1)) + 1 := by omega
          rw [this]
          simpa using g
      · exact .inr g

/-- A FUNCTION, out of its code. -/
theorem AC.intro {f : FuncId} {fn : Func} {c : Code} {args : List V} {Q : V → List Ob → Prop} (hf : P.funcs[f]? = some fn) (hb : fn.body = some c) (hname : fn.name ≠ "runtime.NumGoroutine") (hN : args.length ≤ fn.ntmps)
    (h : AW P fn.ntmps σ.length c (fun e T' σ' => (match e with | .exit _ => False | _ => True) ∧ ∃ xs m, resV P σ' T' fn.results.toList = some xs ∧ σ.length ≤ m ∧ obsLt m (σ'.take m) = true ∧ (fz σ' m (one1 xs)).lt m = true ∧ Q (fz σ' m (one1 xs)) (σ'.take m)) (ent 0 args) σ) :
    AC P f args σ Q := by
  refine ⟨⟨fn, c, hf, hb, hname⟩, fun F μ w vals st hv => ?_⟩
  refine calls_of_wp hf hb ?_
  have hlen := VRs.length hv
  have tr : TR fn.ntmps F σ μ w (ent 0 args) (vals.toArray ++ Array.replicate (fn.ntmps - vals.toArray.size) undef) := by
    refine ⟨by simp; omega, fun t => ?_⟩
    rcases look_ent args vals 0 t hv with g | g
    · have e : (vals.toArray ++ Array.replicate (fn.ntmps - vals.toArray.size) undef).getD t undef = (vals[t - 0]?).getD undef := by
        rw [Array.getD_eq_getD_getElem?, Array.getElem?_append]
        simp only [List.size_toArray, Nat.sub_zero]
        split
        · simp
        · rename_i hlt
          rw [List.getElem?_eq_none (by omega), Array.getElem?_replicate]
          split <;> rfl
      rw [e]
      exact g
    · rw [g]; trivial
  refine wp_mono (h w.heap.size F μ w _ st tr rfl) fun e a' w' g => ?_
  have key : ∀ a' w', Cfg σ.length w.heap.size fn.ntmps F σ μ w (fun T' σ' => ∃ xs m, resV P σ' T' fn.results.toList = some xs ∧ σ.length ≤ m ∧ obsLt m (σ'.take m) = true ∧ (fz σ' m (one1 xs)).lt m = true ∧ Q (fz σ' m (one1 xs)) (σ'.take m)) a' w' →
      a'.defers = [] ∧ ∃ v, (results fn a'.tmps).run P w' = .ok v w' ∧ ∃ v1 x F' σ' μ', Ending.returned v = .returned v1 ∧ Q x σ' ∧ Stp σ.length w.heap.size F σ μ w F' σ' μ' w' ∧ St σ.length w.heap.size F' σ' μ' w' ∧ VR F' σ' μ' w' x v1 := by
    rintro a' w' ⟨F', σ', μ', T', ⟨xs, m, h1, h2, h3, h4, hq⟩, g1, g2, g3, g4⟩
    obtain ⟨v, hr, hv⟩ := run_results g2 g3 h1
    obtain ⟨F2, hF2, k1, k2, k3⟩ := St.cut g2 h2 h3
    exact ⟨g4, v, hr, v, _, F2, _, _, rfl, hq, g1.trans k2, k1, fz_ok g2 h2 (fun b hb => (hF2 b).1 hb) k3 _ v h4 hv⟩
  cases e with
  | normal => exact key a' w' (Cfg.mono g fun T σ q => q.2)
  | ret => exact key a' w' (Cfg.mono g fun T σ q => q.2)
  | exit id =>
    obtain ⟨_, _, _, _, q, _⟩ := g
    exact q.1.elim
  | goto l => exact g.elim
  | panic c => exact g.elim
  | outgrown => exact g.elim
end
end Go.AW
