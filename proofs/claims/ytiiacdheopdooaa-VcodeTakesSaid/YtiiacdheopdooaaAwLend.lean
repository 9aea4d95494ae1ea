/-
  The calculus: a call that only reads what it is given: the frame's own rows are lent as data.
-/
import Derived.Test.YtiiacdheopdooaaAwRules
namespace Go.AW
open Go

mutual
def V.flat1 : V → Bool
  | .d (.s _) => true
  | .t xs => flats1 xs
  | .a xs => flats1 xs
  | _ => false
def flats1 : List V → Bool
  | [] => true
  | x :: xs => x.flat1 && flats1 xs
end

section
variable {P : Program} {N k B : Nat} {T : Tm} {F F' : Nat → Prop} {σ σ' : List Ob} {μ μ' : List Value} {w w' : World}

mutual
theorem VR.flat1 : ∀ (x : V) (v : Value), x.flat1 = true → VR F σ μ w x v → VR F' σ' μ' w' x v
  | .d (.s u), v, _, h => by simpa only [VR, DR] using h
  | .d (.l _ _), v, hf, h => by simp [V.flat1] at hf
  | .a xs, v, hf, h => by
    simp only [VR, V.flat1] at h hf ⊢
    obtain ⟨cs, e, h⟩ := h
    exact ⟨cs, e, VRs.flat1 xs _ hf h⟩
  | .t xs, v, hf, h => by
    simp only [VR, V.flat1] at h hf ⊢
    obtain ⟨cs, e, h⟩ := h
    exact ⟨cs, e, VRs.flat1 xs _ hf h⟩
  | .p _ _, v, hf, h => by simp [V.flat1] at hf
  | .c _, v, hf, h => by simp [V.flat1] at hf
  | .o _ _, v, hf, h => by simp [V.flat1] at hf
  | .e _ _ _, v, hf, h => by simp [V.flat1] at hf
  | .f _ _ _, v, hf, h => by simp [V.flat1] at hf
  | .u, v, hf, h => by simp [V.flat1] at hf
theorem VRs.flat1 : ∀ (xs : List V) (vs : List Value), flats1 xs = true → VRs F σ μ w xs vs → VRs F' σ' μ' w' xs vs
  | [], vs, _, h => by simpa [VRs] using h
  | x :: xs, vs, hf, h => by
    simp only [VRs, flats1, Bool.and_eq_true] at h hf ⊢
    obtain ⟨v, us, e, h1, h2⟩ := h
    exact ⟨v, us, e, VR.flat1 x v hf.1 h1, VRs.flat1 xs us hf.2 h2⟩
end

theorem AC.lend {f : FuncId} {args as : List V} {Qs Q : V → List Ob → Prop} (h : AC P f as [] Qs) (has : fzs σ 0 args = as) (hlt : lts 0 as = true) (hq : ∀ y obs, Qs y obs → y.flat1 = true ∧ Q y σ) : AC P f args σ Q := by
  refine ⟨h.1, fun F μ w vals st hv => ?_⟩
  subst has
  have st0 : St 0 0 F σ μ w := by
    refine ⟨st.len, fun i ob u h1 h2 => ?_, st.sep, st.lt, Nat.zero_le _⟩
    have := st.obj i ob u h1 h2
    have hi := (List.getElem?_eq_some_iff.1 h1).1
    cases ob with
    | box T cs =>
      obtain ⟨b, arr, e1, e2, e3, e4, _⟩ := this
      exact ⟨b, arr, e1, e2, e3, e4, fun _ => Nat.zero_le _⟩
    | row E sz n cs =>
      obtain ⟨vs, e1, e2, e3⟩ := this
      rw [if_neg (by omega)] at e1
      exact ⟨vs, by rw [if_pos (Nat.zero_le _)]; exact e1, e2, e3⟩
  have hs : Sub 0 F σ μ w (fun _ => False) (σ.take 0) (μ.take 0) w := ⟨⟨Nat.le_refl _, fun b _ _ => ⟨rfl, fun h => h⟩⟩, fun i hi => by omega⟩
  have hv2 := fzs_ok st0 (Nat.le_refl 0) (fun b hb => hb.elim) hs _ _ hlt hv
  simp only [List.take_zero] at hv2
  have stl : St 0 w.heap.size (fun _ => False) [] [] w := ⟨rfl, fun i ob u h1 => by simp at h1, fun i j ob u ob' u' b h1 => by simp at h1, fun b h => h.elim, Nat.le_refl _⟩
  refine (h.2 (fun _ => False) [] w vals stl hv2).mono fun e w' ⟨v, x, F', σ', μ', he, q, sp, st', hx⟩ => ?_
  obtain ⟨hf, hq⟩ := hq x σ' q
  have same : ∀ b, b < w.heap.size → w'.heap[b]? = w.heap[b]? := fun b hb => sp.mem b hb fun ⟨i, ob, u, h1, _⟩ => by simp at h1
  refine ⟨v, x, F, σ, μ, he, hq, ⟨sp.os, sp.tape, sp.output, sp.size, fun b hb _ => same b hb, fun b hb => .inl hb, fun b _ hb => hb, fun b hb => .inl hb, Keep.refl _ _ _, fun i E sz m cs u E' sz' m' cs' u' _ a1 a2 a3 a4 b hb => ?_⟩, ⟨st.len, fun i ob u h1 h2 => ?_, st.sep, fun b hb => Nat.lt_of_lt_of_le (st.lt b hb) sp.size, sp.size⟩, VR.flat1 x v hf hx⟩
  · rw [a2] at a4; obtain rfl := Option.some.inj a4; exact .inl hb
  · exact ObOk.mono ⟨sp.size, fun b hb hF => ⟨same b hb, hF⟩⟩ st.len (Keep.refl _ _ _) (fun b hb => ⟨same b (st.lt b (st.live_F ⟨i, ob, u, h1, h2, hb⟩)), id⟩) (st.obj i ob u h1 h2)

/-- A call that only reads. -/
theorem AOp.cL {T' : Tm} {R Qs : V → List Ob → Prop} {f : FuncId} {fv : Operand} {args : Array Operand} {ts : Array TypeId} {ty : TypeId} {pos : String} {af : Array Edge} {gd : Option (Nat × Bool)} {dst : Option Tmp} {fi ca as : List V}
    (hT : ∀ x ∈ (Op.call { callee := .value fv, args := args, argTypes := ts }).operands, ev T x = ev T' x) (hf : ev T fv = .f (.func f) fi ca) (hc : AC P f as [] Qs) (has : fzs σ 0 (nzs (fi ++ args.toList.map (ev T) ++ ca)) = as) (hlt : lts 0 as = true)
    (h : ∀ y obs, Qs y obs → y.flat1 = true ∧ R y σ) : AOp P N k ⟨dst, .call { callee := .value fv, args := args, argTypes := ts }, ty, pos, af, gd⟩ T' σ R := by
  have e : args.toList.map (ev T) = args.toList.map (ev T') := List.map_congr_left fun x hx => hT x (by simp [Op.operands, Call.operands]; exact .inr (by simpa using hx))
  refine AOp.call (by rw [← hT fv (by simp [Op.operands, Call.operands])]; exact hf) ?_
  rw [← e]
  exact AC.lend hc has hlt h

/-- A call that changes the store, where the order is left open. -/
theorem ADr.ecv {ops : Array Oper} {c : Call} {t : Tmp} {ty : TypeId} {pos : String} {af : Array Edge} {R : Tm → List Ob → Prop} {i : Nat} {rest : List Oper} {S : List (List Ob)} {E : List Nat} {pc : List (List Ob → Prop)} (x : V) (σ' : List Ob) (hd : t < N) (hc : (E.all fun e => (anc ops ops.size i).contains e) = true) (h : ∀ K : V → List Ob → Prop, K x σ' → AOp P N k ⟨some t, .call c, ty, pos, af, none⟩ (keepT T (Oper.looksAt ops ⟨some t, .call c, ty, pos, af, none⟩)) σ K) (hp : allP σ' pc)
    (h2 : ADr P N k ops R (i + 1) rest ((t, x) :: T) (σ' :: σ :: S) (i :: E) pc) : ADr P N k ops R i (⟨some t, .call c, ty, pos, af, none⟩ :: rest) T (σ :: S) E pc :=
  ADr.ec x σ' hd hc h hp h2
theorem ADr.ecv0 {ops : Array Oper} {c : Call} {ty : TypeId} {pos : String} {af : Array Edge} {R : Tm → List Ob → Prop} {i : Nat} {rest : List Oper} {S : List (List Ob)} {E : List Nat} {pc : List (List Ob → Prop)} (x : V) (σ' : List Ob) (hc : (E.all fun e => (anc ops ops.size i).contains e) = true) (h : ∀ K : V → List Ob → Prop, K x σ' → AOp P N k ⟨none, .call c, ty, pos, af, none⟩ (keepT T (Oper.looksAt ops ⟨none, .call c, ty, pos, af, none⟩)) σ K) (hp : allP σ' pc)
    (h2 : ADr P N k ops R (i + 1) rest T (σ' :: σ :: S) (i :: E) pc) : ADr P N k ops R i (⟨none, .call c, ty, pos, af, none⟩ :: rest) T (σ :: S) E pc :=
  .eff x σ' rfl (by simp [wants]) hc (h _ ⟨rfl, rfl⟩) (fun p hp' => allP_mem hp p hp') h2
theorem ADr.gecv {ops : Array Oper} {c : Call} {t : Tmp} {ty : TypeId} {pos : String} {af : Array Edge} {R : Tm → List Ob → Prop} {i : Nat} {rest : List Oper} {S : List (List Ob)} {E : List Nat} {pc : List (List Ob → Prop)} {j : Nat} {p : Bool} (x : V) (σ' : List Ob) (hd : t < N) (hv : gv ops T j = bv p) (hc : (E.all fun e => (anc ops ops.size i).contains e) = true) (h : ∀ K : V → List Ob → Prop, K x σ' → AOp P N k ⟨some t, .call c, ty, pos, af, some (j, p)⟩ (keepT T (Oper.looksAt ops ⟨some t, .call c, ty, pos, af, some (j, p)⟩)) σ K) (hp : allP σ' pc)
    (h2 : ADr P N k ops R (i + 1) rest ((t, x) :: T) (σ' :: σ :: S) (i :: E) pc) : ADr P N k ops R i (⟨some t, .call c, ty, pos, af, some (j, p)⟩ :: rest) T (σ :: S) E pc :=
  .eff x σ' (by simpa [dstOk] using hd) (by simp [wants, hv]) hc (h _ ⟨rfl, rfl⟩) (fun p hp' => allP_mem hp p hp') h2
theorem AL.g1v {ops : Array Oper} {c : Call} {t j : Nat} {p : Bool} {ty : TypeId} {pos : String} {af : Array Edge} {rest : List Oper} {Q : Tm → List Ob → Prop} (hd : t < N) (hv : gv ops T j = bv p)
    (h : ∀ K : V → List Ob → Prop, (∀ x σ', AL P N k ops rest Q ((t, x) :: T) σ' → K x σ') → AOp P N k ⟨some t, .call c, ty, pos, af, some (j, p)⟩ T σ K) : AL P N k ops (⟨some t, .call c, ty, pos, af, some (j, p)⟩ :: rest) Q T σ :=
  AL.guard rfl hv (by simpa [dstOk] using hd) (fun _ K hK => h K hK) (fun e => by cases p <;> simp at e)
/-- What waits for the last change looks at the store behind it alone. -/
theorem ADr.cw {ops : Array Oper} {op : Op} {t : Tmp} {ty : TypeId} {pos : String} {af : Array Edge} {R : Tm → List Ob → Prop} {i e : Nat} {rest : List Oper} {S : List (List Ob)} {E : List Nat} {pc : List (List Ob → Prop)} (x : V) (hd : t < N) (ha : (anc ops ops.size i).contains e = true) (h : ∀ K : V → List Ob → Prop, K x σ → ao P T σ K op)
    (h2 : ADr P N k ops R (i + 1) rest ((t, x) :: T) (σ :: S) (e :: E) ((fun s => ∀ K : V → List Ob → Prop, K x s → ao P T s K op) :: pc)) : ADr P N k ops R i (⟨some t, op, ty, pos, af, none⟩ :: rest) T (σ :: S) (e :: E) pc :=
  .calmw x (fun s => ∀ K : V → List Ob → Prop, K x s → ao P T s K op) 0 e (by simpa [dstOk] using hd) (by simp [wants]) (fun s hs => tells hs) rfl (by simpa using ha) (fun s hs => by simp at hs; subst hs; exact h) h2
theorem ADr.gcw {ops : Array Oper} {op : Op} {t : Tmp} {ty : TypeId} {pos : String} {af : Array Edge} {R : Tm → List Ob → Prop} {i e : Nat} {rest : List Oper} {S : List (List Ob)} {E : List Nat} {pc : List (List Ob → Prop)} {j : Nat} {p : Bool} (x : V) (hd : t < N) (hv : gv ops T j = bv p) (ha : (anc ops ops.size i).contains e = true) (h : ∀ K : V → List Ob → Prop, K x σ → ao P T σ K op)
    (h2 : ADr P N k ops R (i + 1) rest ((t, x) :: T) (σ :: S) (e :: E) ((fun s => ∀ K : V → List Ob → Prop, K x s → ao P T s K op) :: pc)) : ADr P N k ops R i (⟨some t, op, ty, pos, af, some (j, p)⟩ :: rest) T (σ :: S) (e :: E) pc :=
  .calmw x (fun s => ∀ K : V → List Ob → Prop, K x s → ao P T s K op) 0 e (by simpa [dstOk] using hd) (by simp [wants, hv]) (fun s hs => tells hs) rfl (by simpa using ha) (fun s hs => by simp at hs; subst hs; exact h) h2
theorem ADr.ccw {ops : Array Oper} {c : Call} {t : Tmp} {ty : TypeId} {pos : String} {af : Array Edge} {R : Tm → List Ob → Prop} {i e : Nat} {rest : List Oper} {S : List (List Ob)} {E : List Nat} {pc : List (List Ob → Prop)} (x : V) (hd : t < N) (ha : (anc ops ops.size i).contains e = true) (h : ∀ K : V → List Ob → Prop, K x σ → AOp P N k ⟨some t, .call c, ty, pos, af, none⟩ (keepT T (Oper.looksAt ops ⟨some t, .call c, ty, pos, af, none⟩)) σ K)
    (h2 : ADr P N k ops R (i + 1) rest ((t, x) :: T) (σ :: S) (e :: E) ((fun s => ∀ K : V → List Ob → Prop, K x s → AOp P N k ⟨some t, .call c, ty, pos, af, none⟩ (keepT T (Oper.looksAt ops ⟨some t, .call c, ty, pos, af, none⟩)) s K) :: pc)) : ADr P N k ops R i (⟨some t, .call c, ty, pos, af, none⟩ :: rest) T (σ :: S) (e :: E) pc :=
  .calmw x (fun s => ∀ K : V → List Ob → Prop, K x s → AOp P N k ⟨some t, .call c, ty, pos, af, none⟩ (keepT T (Oper.looksAt ops ⟨some t, .call c, ty, pos, af, none⟩)) s K) 0 e (by simpa [dstOk] using hd) (by simp [wants]) (fun s hs => hs _ ⟨rfl, rfl⟩) rfl (by simpa using ha) (fun s hs => by simp at hs; subst hs; exact h) h2
theorem ADr.gccw {ops : Array Oper} {c : Call} {t : Tmp} {ty : TypeId} {pos : String} {af : Array Edge} {R : Tm → List Ob → Prop} {i e : Nat} {rest : List Oper} {S : List (List Ob)} {E : List Nat} {pc : List (List Ob → Prop)} {j : Nat} {p : Bool} (x : V) (hd : t < N) (hv : gv ops T j = bv p) (ha : (anc ops ops.size i).contains e = true) (h : ∀ K : V → List Ob → Prop, K x σ → AOp P N k ⟨some t, .call c, ty, pos, af, some (j, p)⟩ (keepT T (Oper.looksAt ops ⟨some t, .call c, ty, pos, af, some (j, p)⟩)) σ K)
    (h2 : ADr P N k ops R (i + 1) rest ((t, x) :: T) (σ :: S) (e :: E) ((fun s => ∀ K : V → List Ob → Prop, K x s → AOp P N k ⟨some t, .call c, ty, pos, af, some (j, p)⟩ (keepT T (Oper.looksAt ops ⟨some t, .call c, ty, pos, af, some (j, p)⟩)) s K) :: pc)) : ADr P N k ops R i (⟨some t, .call c, ty, pos, af, some (j, p)⟩ :: rest) T (σ :: S) (e :: E) pc :=
  .calmw x (fun s => ∀ K : V → List Ob → Prop, K x s → AOp P N k ⟨some t, .call c, ty, pos, af, some (j, p)⟩ (keepT T (Oper.looksAt ops ⟨some t, .call c, ty, pos, af, some (j, p)⟩)) s K) 0 e (by simpa [dstOk] using hd) (by simp [wants, hv]) (fun s hs => hs _ ⟨rfl, rfl⟩) rfl (by simpa using ha) (fun s hs => by simp at hs; subst hs; exact h) h2
end
end Go.AW
