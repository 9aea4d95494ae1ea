/-
  The calculus: lists of operations, code, calls.
-/
import Derived.Test.YtiiacdheopdooaaAwSound
namespace Go.AW
open Go

set_option linter.unusedVariables false
set_option linter.unusedSimpArgs false

inductive Ex where
  | normal
  | exit (id : Nat)
  | ret

def Cfg (k B N : Nat) (F : Nat → Prop) (σ : List Ob) (μ : List Value) (w : World) (Q : Tm → List Ob → Prop) (a' : Act) (w' : World) : Prop :=
  ∃ F' σ' μ' T', Q T' σ' ∧ Stp k B F σ μ w F' σ' μ' w' ∧ St k B F' σ' μ' w' ∧ TR N F' σ' μ' w' T' a'.tmps ∧ a'.defers = []

def AL (P : Program) (N k : Nat) (ops : Array Oper) (rest : List Oper) (Q : Tm → List Ob → Prop) (T : Tm) (σ : List Ob) : Prop :=
  ∀ B F μ w (a : Act), St k B F σ μ w → TR N F σ μ w T a.tmps → a.defers = [] → ∀ (X : Exit → Act → World → Prop), (∀ a' w', Cfg k B N F σ μ w Q a' w' → X .normal a' w') → wpList P ops X rest a w

def APost (k B N : Nat) (F : Nat → Prop) (σ : List Ob) (μ : List Value) (w : World) (Q : Ex → Tm → List Ob → Prop) : Exit → Act → World → Prop
  | .normal, a', w' => Cfg k B N F σ μ w (Q .normal) a' w'
  | .exit id, a', w' => Cfg k B N F σ μ w (Q (.exit id)) a' w'
  | .ret, a', w' => Cfg k B N F σ μ w (Q .ret) a' w'
  | _, _, _ => False

def AW (P : Program) (N k : Nat) (c : Code) (Q : Ex → Tm → List Ob → Prop) (T : Tm) (σ : List Ob) : Prop :=
  ∀ B F μ w (a : Act), St k B F σ μ w → TR N F σ μ w T a.tmps → a.defers = [] → c.wp P (APost k B N F σ μ w Q) a w

section
variable {P : Program} {N k : Nat} {T : Tm} {σ : List Ob}

theorem Cfg.trans {B : Nat} {F F1 : Nat → Prop} {σ1 : List Ob} {μ μ1 : List Value} {w w1 : World} {Q : Tm → List Ob → Prop} {a' : Act} {w' : World} (h : Stp k B F σ μ w F1 σ1 μ1 w1) (g : Cfg k B N F1 σ1 μ1 w1 Q a' w') : Cfg k B N F σ μ w Q a' w' := by
  obtain ⟨F', σ', μ', T', q, g1, g2⟩ := g
  exact ⟨F', σ', μ', T', q, h.trans g1, g2⟩

theorem Cfg.mono {B : Nat} {F : Nat → Prop} {μ : List Value} {w : World} {Q Q' : Tm → List Ob → Prop} {a' : Act} {w' : World} (g : Cfg k B N F σ μ w Q a' w') (hq : ∀ T σ, Q T σ → Q' T σ) : Cfg k B N F σ μ w Q' a' w' := by
  obtain ⟨F', σ', μ', T', q, g1⟩ := g
  exact ⟨F', σ', μ', T', hq _ _ q, g1⟩

theorem APost.trans {B : Nat} {F F1 : Nat → Prop} {σ1 : List Ob} {μ μ1 : List Value} {w w1 : World} {Q : Ex → Tm → List Ob → Prop} (h : Stp k B F σ μ w F1 σ1 μ1 w1) (e : Exit) (a' : Act) (w' : World)
    (g : APost k B N F1 σ1 μ1 w1 Q e a' w') : APost k B N F σ μ w Q e a' w' := by
  cases e <;> first | exact Cfg.trans h g | exact g

theorem AW.mono {c : Code} {Q Q' : Ex → Tm → List Ob → Prop} (h : AW P N k c Q T σ) (hq : ∀ e T σ, Q e T σ → Q' e T σ) : AW P N k c Q' T σ := by
  intro B F μ w a st tr hd
  refine wp_mono (h B F μ w a st tr hd) fun e a' w' g => ?_
  cases e <;> first | exact Cfg.mono g (hq _) | exact g

/-! ### Lists of operations -/

theorem AL.nil {ops : Array Oper} {Q : Tm → List Ob → Prop} (h : Q T σ) : AL P N k ops [] Q T σ :=
  fun B F μ w a st tr hd X hX => wpList_nil (hX a w ⟨F, σ, μ, T, h, Stp.refl _ _ _ _ _ _, st, tr, hd⟩)

theorem put_defers (a : Act) (d : Option Tmp) (v : Value) : (a.put d v).defers = a.defers := by cases d <;> rfl

theorem AL.step {ops : Array Oper} {o : Oper} {rest : List Oper} {Q : Tm → List Ob → Prop} (hd : dstOk N o.dst = true) (h : AOp P N k o T σ fun x σ' => AL P N k ops rest Q (put T o.dst x) σ')
    {B : Nat} {F : Nat → Prop} {μ : List Value} {w : World} {a : Act} (st : St k B F σ μ w) (tr : TR N F σ μ w T a.tmps) (hdf : a.defers = []) (X : Exit → Act → World → Prop)
    (hX : ∀ a' w', Cfg k B N F σ μ w Q a' w' → X .normal a' w') : o.wp P a w (wpList P ops X rest) X := by
  refine h B F μ w a st tr _ X fun v w' hl => ?_
  obtain ⟨x, F', σ', μ', q, g1, g2, g3, g4⟩ := hl
  refine q B F' μ' w' _ g2 (TR.put (TR.mono tr (g1.memF st) st.len g3) hd g4) (by rw [put_defers]; exact hdf) X fun a'' w'' hc => hX a'' w'' (Cfg.trans g1 hc)

theorem AL.cons {ops : Array Oper} {o : Oper} {rest : List Oper} {Q : Tm → List Ob → Prop} (hg : o.guard = none) (hd : dstOk N o.dst = true)
    (h : ∀ K : V → List Ob → Prop, (∀ x σ', AL P N k ops rest Q (put T o.dst x) σ' → K x σ') → AOp P N k o T σ K) : AL P N k ops (o :: rest) Q T σ :=
  fun B F μ w a st tr hdf X hX => by
    unfold wpList
    rw [if_pos (by simp [Region.wanted, hg])]
    exact .inl (AL.step hd (h _ fun _ _ h => h) st tr hdf X hX)

/-- The value that a guard asks for. -/
def gv (ops : Array Oper) (T : Tm) (j : Nat) : V :=
  match (ops[j]?).bind (·.dst) with
  | some d => look T d
  | none => .u

theorem yielded_of {ops : Array Oper} {F : Nat → Prop} {μ : List Value} {w : World} {a : Act} {j : Nat} {b : Bool} (tr : TR N F σ μ w T a.tmps) (h : gv ops T j = bv b) : yielded ops a.tmps j = some b := by
  unfold gv at h
  unfold yielded
  split at h
  · rename_i d hd
    have := tr.2 d
    rw [h] at this
    simp only [VR, DR] at this
    have hs : a.tmps[d]? = some (.bool b) := by
      rw [Array.getD_eq_getD_getElem?] at this
      cases hc : a.tmps[d]? with
      | none => rw [hc] at this; simp [undef] at this
      | some v => rw [hc] at this; simp at this; rw [this]
    simp [hd, hs]
  · simp at h

theorem yielded_not {ops : Array Oper} {F : Nat → Prop} {μ : List Value} {w : World} {a : Act} {j : Nat} {xs : List V} (tr : TR N F σ μ w T a.tmps) (h : gv ops T j = .t xs) : yielded ops a.tmps j = none := by
  unfold gv at h
  unfold yielded
  split at h
  · rename_i d hd
    have := tr.2 d
    rw [h] at this
    simp only [VR] at this
    obtain ⟨cs, hv, _⟩ := this
    rw [Array.getD_eq_getD_getElem?] at hv
    cases hc : a.tmps[d]? with
    | none => simp [hd, hc]
    | some v => rw [hc] at hv; simp at hv; subst hv; simp [hd, hc]
  · simp at h

theorem AL.skip {ops : Array Oper} {o : Oper} {rest : List Oper} {Q : Tm → List Ob → Prop} (hd : dstOk N o.dst = true) (hw : ∀ F μ w (a : Act), TR N F σ μ w T a.tmps → Region.wanted o (yielded ops a.tmps) = false)
    (h : AL P N k ops rest Q (put T o.dst (.t [])) σ) : AL P N k ops (o :: rest) Q T σ :=
  fun B F μ w a st tr hdf X hX => by
    unfold wpList
    rw [if_neg (by simp [hw F μ w a tr])]
    exact h B F μ w _ st (TR.put tr hd ⟨#[], rfl, rfl⟩) (by rw [put_defers]; exact hdf) X hX

/-- A guarded operation. -/
theorem AL.guard {ops : Array Oper} {o : Oper} {rest : List Oper} {Q : Tm → List Ob → Prop} {j : Nat} {p b : Bool} (hg : o.guard = some (j, p)) (hv : gv ops T j = bv b) (hd : dstOk N o.dst = true)
    (h1 : b = p → ∀ K : V → List Ob → Prop, (∀ x σ', AL P N k ops rest Q (put T o.dst x) σ' → K x σ') → AOp P N k o T σ K)
    (h2 : b = !p → AL P N k ops rest Q (put T o.dst (.t [])) σ) : AL P N k ops (o :: rest) Q T σ := by
  by_cases e : b = p
  · intro B F μ w a st tr hdf X hX
    unfold wpList
    rw [if_pos (by simp [Region.wanted, hg, yielded_of tr hv, e])]
    exact .inl (AL.step hd (h1 e _ fun _ _ h => h) st tr hdf X hX)
  · refine AL.skip hd (fun F μ w a tr => ?_) (h2 (by cases b <;> cases p <;> simp_all))
    simp [Region.wanted, hg, yielded_of tr hv, e]

theorem AL.unguard {ops : Array Oper} {o : Oper} {rest : List Oper} {Q : Tm → List Ob → Prop} {j : Nat} {p : Bool} {xs : List V} (hg : o.guard = some (j, p)) (hv : gv ops T j = .t xs) (hd : dstOk N o.dst = true)
    (h2 : AL P N k ops rest Q (put T o.dst (.t [])) σ) : AL P N k ops (o :: rest) Q T σ :=
  AL.skip hd (fun F μ w a tr => by simp [Region.wanted, hg, yielded_not tr hv]) h2

/-! ### Code -/

theorem AW.region {id : Nat} {l : List Oper} {Q : Ex → Tm → List Ob → Prop} (h : AL P N k l.toArray l (Q .normal) T σ) : AW P N k (.region id l.toArray false) Q T σ :=
  fun B F μ w a st tr hd => wp_region_lit (h B F μ w a st tr hd _ fun _ _ hc => hc)

def thenQ (K : Tm → List Ob → Prop) (Q : Ex → Tm → List Ob → Prop) : Ex → Tm → List Ob → Prop
  | .normal, T, σ => K T σ
  | e, T, σ => Q e T σ

theorem AW.seq {x y : Code} {Q : Ex → Tm → List Ob → Prop} (h : ∀ K : Tm → List Ob → Prop, (∀ T' σ', AW P N k y Q T' σ' → K T' σ') → AW P N k x (thenQ K Q) T σ) : AW P N k (.seq x y) Q T σ := by
  intro B F μ w a st tr hd
  refine wp_seq (wp_mono (h _ (fun _ _ h => h) B F μ w a st tr hd) fun e a' w' g => ?_)
  cases e with
  | normal =>
    obtain ⟨F', σ', μ', T', q, g1, g2, g3, g4⟩ := g
    exact wp_mono (q B F' μ' w' a' g2 g3 g4) (APost.trans g1)
  | exit id => exact g
  | ret => exact g
  | goto l => exact g
  | panic c => exact g
  | outgrown => exact g

theorem AW.skip {Q : Ex → Tm → List Ob → Prop} (h : Q .normal T σ) : AW P N k .skip Q T σ :=
  fun B F μ w a st tr hd => wp_skip ⟨F, σ, μ, T, h, Stp.refl _ _ _ _ _ _, st, tr, hd⟩
theorem AW.label {l : Nat} {Q : Ex → Tm → List Ob → Prop} (h : Q .normal T σ) : AW P N k (.label l) Q T σ :=
  fun B F μ w a st tr hd => wp_label ⟨F, σ, μ, T, h, Stp.refl _ _ _ _ _ _, st, tr, hd⟩
theorem AW.exit {id : Nat} {Q : Ex → Tm → List Ob → Prop} (h : Q (.exit id) T σ) : AW P N k (.exit id) Q T σ :=
  fun B F μ w a st tr hd => wp_exit ⟨F, σ, μ, T, h, Stp.refl _ _ _ _ _ _, st, tr, hd⟩
theorem AW.ret {Q : Ex → Tm → List Ob → Prop} (h : Q .ret T σ) : AW P N k .ret Q T σ :=
  fun B F μ w a st tr hd => wp_ret ⟨F, σ, μ, T, h, Stp.refl _ _ _ _ _ _, st, tr, hd⟩

theorem AW.cond {c : Operand} {x y : Code} {b : Bool} {Q : Ex → Tm → List Ob → Prop} (hc : ev T c = bv b) (h1 : b = true → AW P N k x Q T σ) (h2 : b = false → AW P N k y Q T σ) : AW P N k (.cond c x y) Q T σ :=
  fun B F μ w a st tr hd => by
    have := ev_ok tr c
    rw [hc] at this
    simp only [VR, DR] at this
    exact wp_cond_split this (fun e => h1 e B F μ w a st tr hd) (fun e => h2 e B F μ w a st tr hd)

def blockQ (id : Nat) (Q : Ex → Tm → List Ob → Prop) : Ex → Tm → List Ob → Prop
  | .exit i, T, σ => if i = id then Q .normal T σ else Q (.exit i) T σ
  | e, T, σ => Q e T σ

theorem AW.block {id : Nat} {c : Code} {Q : Ex → Tm → List Ob → Prop} (h : AW P N k c (blockQ id Q) T σ) : AW P N k (.block id c) Q T σ :=
  fun B F μ w a st tr hd => wp_block (wp_mono (h B F μ w a st tr hd) fun e a' w' g => by
    cases e with
    | exit i =>
      simp only [Exit.inBlock]
      split
      · rename_i e
        exact Cfg.mono g fun T σ q => by simpa [blockQ, e] using q
      · rename_i e
        exact Cfg.mono g fun T σ q => by simpa [blockQ, e] using q
    | normal => exact g
    | ret => exact g
    | goto l => exact g
    | panic c => exact g
    | outgrown => exact g)

/-- A loop: an invariant that bears a number, which every round lowers. -/
theorem AW.loop {c : Code} {Q : Ex → Tm → List Ob → Prop} (I : Nat → Tm → List Ob → Prop) (n : Nat) (h0 : I n T σ)
    (round : ∀ n T σ, I n T σ → ∀ J : Tm → List Ob → Prop, (∀ m T' σ', m < n → I m T' σ' → J T' σ') → AW P N k c (thenQ J Q) T σ) : AW P N k (.loop c) Q T σ := by
  intro B F μ w a st tr hd
  refine wp_loop_ghost (fun n a' w' => Cfg k B N F σ μ w (I n) a' w') n ⟨F, σ, μ, T, h0, Stp.refl _ _ _ _ _ _, st, tr, hd⟩ ?_
  intro n a' w' hI
  obtain ⟨F', σ', μ', T', q, g1, g2, g3, g4⟩ := hI
  refine wp_mono (round n T' σ' q (fun T σ => ∃ m, m < n ∧ I m T σ) (fun m T' σ' h1 h2 => ⟨m, h1, h2⟩) B F' μ' w' a' g2 g3 g4) fun e a2 w2 g => ?_
  cases e with
  | normal =>
    obtain ⟨F2, σ2, μ2, T2, ⟨m, hm, q2⟩, k1, k2⟩ := g
    exact ⟨m, hm, F2, σ2, μ2, T2, q2, g1.trans k1, k2⟩
  | exit i => exact Cfg.trans g1 g
  | ret => exact Cfg.trans g1 g
  | goto l => exact g
  | panic c => exact g
  | outgrown => exact g

/-! ### Calls -/

/-- A Go function that a call enters. -/
def Ent (P : Program) (f : FuncId) : Prop := ∃ fn c, P.funcs[f]? = some fn ∧ fn.body = some c ∧ fn.name ≠ "runtime.NumGoroutine"

/-- WHAT A GO FUNCTION DOES: from these arguments and this store it comes back with a result and a store of Q. -/
def AC (P : Program) (f : FuncId) (args : List V) (σ : List Ob) (Q : V → List Ob → Prop) : Prop :=
  Ent P f ∧ ∀ F μ w (vals : List Value), St σ.length w.heap.size F σ μ w → VRs F σ μ w args vals → Calls P f vals.toArray w fun e w' =>
    ∃ v x F' σ' μ', e = .returned v ∧ Q x σ' ∧ Stp σ.length w.heap.size F σ μ w F' σ' μ' w' ∧ St σ.length w.heap.size F' σ' μ' w' ∧ VR F' σ' μ' w' x v

theorem AC.mono {f : FuncId} {args : List V} {Q Q' : V → List Ob → Prop} (h : AC P f args σ Q) (hq : ∀ x σ', Q x σ' → Q' x σ') : AC P f args σ Q' :=
  ⟨h.1, fun F μ w vals st hv => (h.2 F μ w vals st hv).mono fun e w' ⟨v, x, F', σ', μ', he, q, r⟩ => ⟨v, x, F', σ', μ', he, hq _ _ q, r⟩⟩

theorem St.lower {B : Nat} {F : Nat → Prop} {μ : List Value} {w : World} (st : St k B F σ μ w) : St σ.length w.heap.size F σ μ w := by
  refine ⟨st.len, fun i ob h h1 h2 => ?_, st.sep, st.lt, Nat.le_refl _⟩
  have hi : i < σ.length := (List.getElem?_eq_some_iff.1 h1).1
  have := st.obj i ob h h1 h2
  cases ob with
  | box T cs =>
    obtain ⟨b, arr, e1, e2, e3, e4, _⟩ := this
    exact ⟨b, arr, e1, e2, e3, e4, fun h => absurd hi (by omega)⟩
  | row E sz n cs =>
    obtain ⟨vs, ho, hd, hF⟩ := this
    refine ⟨vs, ?_, hd, hF⟩
    rw [if_neg (by omega)]
    refine ⟨ho.1, ?_⟩
    rcases ho.2 with h2 | ⟨g, cap, cur, e1, _, r⟩
    · exact .inl h2
    · exact .inr ⟨g, cap, cur, e1, Nat.zero_le _, r⟩

/-- Back from a callee. -/
theorem St.raise {B : Nat} {F F' : Nat → Prop} {σ' : List Ob} {μ μ' : List Value} {w w' : World} (st : St k B F σ μ w) (st' : St σ.length w.heap.size F' σ' μ' w') (h : Stp σ.length w.heap.size F σ μ w F' σ' μ' w') :
    St k B F' σ' μ' w' ∧ Stp k B F σ μ w F' σ' μ' w' := by
  have rows : ∀ (i E sz m : Nat) (cs : List D) (u : Value) (E' sz' m' : Nat) (cs' : List D) (u' : Value), i < k → σ[i]? = some (.row E sz m cs) → μ[i]? = some u → σ'[i]? = some (.row E' sz' m' cs') → μ'[i]? = some u' →
      ∀ b, u'.ownBlock = some b → u.ownBlock = some b ∨ w.heap.size ≤ b := fun i E sz m cs u E' sz' m' cs' u' _ a1 => h.rows i E sz m cs u E' sz' m' cs' u' (List.getElem?_eq_some_iff.1 a1).1 a1
  refine ⟨⟨st'.len, fun i ob u h1 h2 => ?_, st'.sep, st'.lt, Nat.le_trans st.base h.size⟩,
    ⟨h.os, h.tape, h.output, h.size, h.mem, h.fnew, fun b hb hF => h.fold b (Nat.lt_of_lt_of_le hb st.base) hF, h.live, h.keep.any, rows⟩⟩
  have := st'.obj i ob u h1 h2
  cases ob with
  | box T cs =>
    obtain ⟨b, arr, rfl, e2, e3, e4, e5⟩ := this
    refine ⟨b, arr, rfl, e2, e3, e4, fun hi => ?_⟩
    rcases Nat.lt_or_ge i σ.length with hl | hl
    · have h0 : σ[i]? = some σ[i] := List.getElem?_eq_getElem hl
      have hm0 : μ[i]? = some (μ[i]'(by rw [st.len]; exact hl)) := List.getElem?_eq_getElem _
      cases ho : σ[i] with
      | box T0 c0 =>
        rw [ho] at h0
        obtain ⟨_, g2⟩ := h.keep.box i T0 c0 _ hl h0 hm0
        rw [h2] at g2
        obtain ⟨b0, _, d1, _, _, _, d2⟩ := st.obj i _ _ h0 hm0
        rw [d1] at g2
        simp at g2
        subst g2
        exact d2 hi
      | row E0 s0 n0 c0 =>
        rw [ho] at h0
        obtain ⟨_, _, _, g1, _⟩ := h.keep.row i E0 s0 n0 c0 _ hl h0 hm0
        rw [h1] at g1
        simp at g1
    · exact Nat.le_trans st.base (e5 hl)
  | row E sz n cs =>
    obtain ⟨vs, ho, hd, hF⟩ := this
    refine ⟨vs, ⟨ho.1, ?_⟩, hd, hF⟩
    rcases ho.2 with h3 | ⟨g, cap, cur, rfl, hb, r⟩
    · exact .inl h3
    · refine .inr ⟨g, cap, cur, rfl, ?_, r⟩
      split
      · rename_i hi
        rcases Nat.lt_or_ge i σ.length with hl | hl
        · have h0 : σ[i]? = some σ[i] := List.getElem?_eq_getElem hl
          have hm0 : μ[i]? = some (μ[i]'(by rw [st.len]; exact hl)) := List.getElem?_eq_getElem _
          cases ho0 : σ[i] with
          | box T0 c0 =>
            rw [ho0] at h0
            obtain ⟨⟨_, g1⟩, _⟩ := h.keep.box i T0 c0 _ hl h0 hm0
            rw [h1] at g1
            simp at g1
          | row E0 s0 n0 c0 =>
            rw [ho0] at h0
            rcases h.rows i E0 s0 n0 c0 _ E sz n cs _ hl h0 hm0 h1 h2 g rfl with e | e
            · obtain ⟨vs0, d1, _, _⟩ := st.obj i _ _ h0 hm0
              rw [if_pos hi] at d1
              exact (d1.lt g e).1
            · exact Nat.le_trans st.base e
        · rw [if_pos hl] at hb
          exact Nat.le_trans st.base hb
      · exact Nat.zero_le _
end
end Go.AW
