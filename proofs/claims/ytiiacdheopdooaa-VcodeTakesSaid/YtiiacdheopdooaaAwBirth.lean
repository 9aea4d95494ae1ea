/-
  The calculus: a nil slice becomes a row of the frame's own, of no elements yet.
-/
import Derived.Test.YtiiacdheopdooaaAwRules
namespace Go.AW
open Go

def bV (j : Nat) : V → V
  | .d (.s (.slice none 0 0)) => .o j 0
  | x => x
def bT (ts : List Nat) (j : Nat) : Tm → Tm
  | [] => []
  | (t, x) :: T => (t, bif ts.contains t then bV j x else x) :: bT ts j T
def bC (ps : List (Nat × Nat)) (j i c : Nat) : List V → List V
  | [] => []
  | x :: xs => (bif ps.contains (i, c) then bV j x else x) :: bC ps j i (c + 1) xs
def bO (ps : List (Nat × Nat)) (j i : Nat) : List Ob → List Ob
  | [] => []
  | .box T cs :: σ => .box T (bC ps j i 0 cs) :: bO ps j (i + 1) σ
  | ob :: σ => ob :: bO ps j (i + 1) σ

section
variable {P : Program} {N k B : Nat} {F : Nat → Prop} {T : Tm} {σ : List Ob} {μ : List Value} {w : World}

def bOb (ps : List (Nat × Nat)) (j i : Nat) : Ob → Ob
  | .box T cs => .box T (bC ps j i 0 cs)
  | ob => ob

theorem bO_get (ps : List (Nat × Nat)) (j : Nat) : ∀ (σ : List Ob) (i n : Nat), (bO ps j i σ)[n]? = (σ[n]?).map (bOb ps j (i + n))
  | [], i, n => by simp [bO]
  | .box T cs :: σ, i, 0 => by simp [bO, bOb]
  | .row E sz m cs :: σ, i, 0 => by simp [bO, bOb]
  | .box T cs :: σ, i, n + 1 => by simp only [bO, List.getElem?_cons_succ]; rw [bO_get ps j σ (i + 1) n, show i + 1 + n = i + (n + 1) by omega]
  | .row E sz m cs :: σ, i, n + 1 => by simp only [bO, List.getElem?_cons_succ]; rw [bO_get ps j σ (i + 1) n, show i + 1 + n = i + (n + 1) by omega]
theorem bO_len (ps : List (Nat × Nat)) (j : Nat) : ∀ (σ : List Ob) (i : Nat), (bO ps j i σ).length = σ.length
  | [], i => rfl
  | .box T cs :: σ, i => by simp [bO, bO_len ps j σ]
  | .row E sz m cs :: σ, i => by simp [bO, bO_len ps j σ]

theorem Mem.refl (F : Nat → Prop) (w : World) : Mem F w F w := ⟨Nat.le_refl _, fun _ _ h => ⟨rfl, h⟩⟩

theorem bO_get' {ps : List (Nat × Nat)} {E sz i : Nat} (hi : i < σ.length) : (bO ps σ.length 0 σ ++ [Ob.row E sz 0 []])[i]? = (σ[i]?).map (bOb ps σ.length i) := by
  rw [List.getElem?_append_left (by rw [bO_len]; exact hi), bO_get, Nat.zero_add]
theorem bO_get_new {ps : List (Nat × Nat)} {E sz : Nat} : (bO ps σ.length 0 σ ++ [Ob.row E sz 0 []])[σ.length]? = some (.row E sz 0 []) := by
  rw [List.getElem?_append_right (by rw [bO_len]; exact Nat.le_refl _), bO_len]; simp

theorem keep_birth (hl : μ.length = σ.length) (ps : List (Nat × Nat)) (E sz n : Nat) : Keep n σ μ (bO ps σ.length 0 σ ++ [.row E sz 0 []]) (μ ++ [.slice none 0 0]) := by
  refine ⟨fun i T cs h hn hs hm => ?_, fun i E' sz' m cs h hn hs hm => ?_⟩
  · have hi := (List.getElem?_eq_some_iff.1 hs).1
    rw [bO_get' hi, hs, List.getElem?_append_left (by omega)]
    exact ⟨⟨_, rfl⟩, hm⟩
  · have hi := (List.getElem?_eq_some_iff.1 hs).1
    rw [bO_get' hi, hs, List.getElem?_append_left (by omega)]
    exact ⟨m, cs, h, rfl, hm, Nat.le_refl _, fun _ => rfl⟩

theorem VR.birth (hl : μ.length = σ.length) (ps : List (Nat × Nat)) (E sz : Nat) (b : Bool) (x : V) (v : Value) (h : VR F σ μ w x v) :
    VR F (bO ps σ.length 0 σ ++ [.row E sz 0 []]) (μ ++ [.slice none 0 0]) w (bif b then bV σ.length x else x) v := by
  have g := VR.mono (Mem.refl F w) hl (keep_birth hl ps E sz σ.length) x v h
  cases b with
  | false => exact g
  | true =>
    simp only [cond_true]
    unfold bV
    split
    · simp only [VR, DR] at h
      subst h
      exact ⟨E, sz, 0, [], .slice none 0 0, none, 0, bO_get_new, by rw [List.getElem?_append_right (by omega), hl]; simp, rfl, Nat.le_refl _, fun _ => rfl⟩
    · exact g
theorem VRs.birth (hl : μ.length = σ.length) (ps : List (Nat × Nat)) (E sz i : Nat) : ∀ (c : Nat) (xs : List V) (vs : List Value), VRs F σ μ w xs vs →
    VRs F (bO ps σ.length 0 σ ++ [.row E sz 0 []]) (μ ++ [.slice none 0 0]) w (bC ps σ.length i c xs) vs
  | c, [], vs, h => by simpa [bC, VRs] using h
  | c, x :: xs, vs, h => by
    simp only [bC, VRs] at h ⊢
    obtain ⟨v, us, e, h1, h2⟩ := h
    exact ⟨v, us, e, VR.birth hl ps E sz _ x v h1, VRs.birth hl ps E sz i (c + 1) xs us h2⟩

theorem look_bT (ts : List Nat) (j : Nat) : ∀ (T : Tm) (t : Nat), look (bT ts j T) t = (bif ts.contains t then bV j (look T t) else look T t)
  | [], t => by
    simp only [bT, look]
    cases ts.contains t <;> rfl
  | (n, x) :: T, t => by
    simp only [bT, look]
    split
    · rename_i e; subst e; rfl
    · exact look_bT ts j T t

theorem blk_bOb {ps : List (Nat × Nat)} {j i : Nat} (ob : Ob) (h : Value) : blk (bOb ps j i ob) h = blk ob h := by
  cases ob <;> cases h <;> (try rfl) <;> first | (rename_i a; cases a <;> rfl) | (rename_i a _ _; cases a <;> rfl)

theorem live_birth {ps : List (Nat × Nat)} {E sz b : Nat} (hl : μ.length = σ.length) (h : Live (bO ps σ.length 0 σ ++ [.row E sz 0 []]) (μ ++ [.slice none 0 0]) b) : Live σ μ b := by
  obtain ⟨i, ob, u, h1, h2, h3⟩ := h
  by_cases hi : i < σ.length
  · rw [bO_get' hi] at h1
    rw [List.getElem?_append_left (by omega)] at h2
    cases e : σ[i]? with
    | none => rw [e] at h1; simp at h1
    | some o =>
      rw [e] at h1
      obtain rfl := Option.some.inj h1
      rw [blk_bOb] at h3
      exact ⟨i, o, u, e, h2, h3⟩
  · have hi2 : i = σ.length := by
      have := (List.getElem?_eq_some_iff.1 h1).1
      simp [bO_len] at this; omega
    subst hi2
    rw [bO_get_new] at h1
    obtain rfl := Option.some.inj h1
    rw [List.getElem?_append_right (by omega), hl] at h2
    simp at h2
    subst h2
    simp [blk] at h3

theorem St.birth (st : St k B F σ μ w) (ps : List (Nat × Nat)) (E sz : Nat) : St k B F (bO ps σ.length 0 σ ++ [.row E sz 0 []]) (μ ++ [.slice none 0 0]) w := by
  have hl := st.len
  have old : ∀ {i : Nat} {ob : Ob} {u : Value}, (bO ps σ.length 0 σ ++ [.row E sz 0 []])[i]? = some ob → (μ ++ [.slice none 0 0])[i]? = some u → (∃ o, σ[i]? = some o ∧ μ[i]? = some u ∧ ob = bOb ps σ.length i o) ∨ (i = σ.length ∧ ob = .row E sz 0 [] ∧ u = .slice none 0 0) := by
    intro i ob u h1 h2
    by_cases hi : i < σ.length
    · rw [bO_get' hi] at h1
      rw [List.getElem?_append_left (by omega)] at h2
      cases e : σ[i]? with
      | none => rw [e] at h1; simp at h1
      | some o =>
        rw [e] at h1
        obtain rfl := Option.some.inj h1
        exact .inl ⟨o, rfl, h2, rfl⟩
    · have hi2 : i = σ.length := by
        have := (List.getElem?_eq_some_iff.1 h1).1
        simp [bO_len] at this; omega
      subst hi2
      rw [bO_get_new] at h1
      obtain rfl := Option.some.inj h1
      rw [List.getElem?_append_right (by omega), hl] at h2
      simp at h2
      exact .inr ⟨rfl, rfl, h2.symm⟩
  refine ⟨by simp [bO_len, hl], fun i ob u h1 h2 => ?_, fun i j ob u ob' u' b h1 h2 h3 h4 h5 h6 => ?_, st.lt, st.base⟩
  · rcases old h1 h2 with ⟨o, g1, g2, rfl⟩ | ⟨rfl, rfl, rfl⟩
    · have := st.obj i o u g1 g2
      cases o with
      | box T cs =>
        obtain ⟨b, arr, e1, e2, e3, e4⟩ := this
        exact ⟨b, arr, e1, e2, VRs.birth hl ps E sz i 0 cs _ e3, e4⟩
      | row E' sz' n cs => exact this
    · exact ⟨[], ⟨by simp, .inl ⟨rfl, rfl⟩⟩, rfl, fun b hb => by simp [Value.ownBlock] at hb⟩
  · rcases old h1 h2 with ⟨o, g1, g2, rfl⟩ | ⟨rfl, rfl, rfl⟩
    · rcases old h3 h4 with ⟨o', k1, k2, rfl⟩ | ⟨rfl, rfl, rfl⟩
      · rw [blk_bOb] at h5 h6
        exact st.sep i j o u o' u' b g1 g2 k1 k2 h5 h6
      · simp [blk] at h6
    · simp [blk] at h5

theorem AW.birth {c : Code} {Q : Ex → Tm → List Ob → Prop} (E sz : Nat) (ts : List Nat) (ps : List (Nat × Nat)) (h : AW P N k c Q (bT ts σ.length T) (bO ps σ.length 0 σ ++ [.row E sz 0 []])) : AW P N k c Q T σ := by
  intro B F μ w a st tr hd
  have hl := st.len
  refine wp_mono (h B F (μ ++ [.slice none 0 0]) w a (st.birth ps E sz) ⟨tr.1, fun t => ?_⟩ hd) (APost.trans ?_)
  · rw [look_bT]
    exact VR.birth hl ps E sz _ _ _ (tr.2 t)
  · refine ⟨rfl, rfl, rfl, Nat.le_refl _, fun _ _ _ => rfl, fun _ h => .inl h, fun _ _ h => h, fun _ h => .inl (live_birth hl h), keep_birth hl ps E sz k, fun i E1 sz1 m cs u E' sz' m' cs' u' hi a1 a2 a3 a4 b hb => ?_⟩
    have hi' := (List.getElem?_eq_some_iff.1 a1).1
    rw [bO_get' hi', a1] at a3
    rw [List.getElem?_append_left (by omega), a2] at a4
    obtain rfl := Option.some.inj a4
    exact .inl hb
end
end Go.AW
