/-
  The calculus: the rules as a walk uses them.
-/
import Derived.Test.YtiiacdheopdooaaAwDraw
namespace Go.AW
open Go

set_option linter.unusedVariables false
set_option linter.unusedSimpArgs false

section
variable {P : Program} {N k : Nat} {T : Tm} {σ : List Ob} {Q : Ex → Tm → List Ob → Prop} {K : Tm → List Ob → Prop}

theorem ao_congr {T' : Tm} {R : V → List Ob → Prop} (op : Op) (h : ∀ x ∈ op.operands, ev T x = ev T' x) (ha : ao P T σ R op) : ao P T' σ R op := by
  cases op with
  | move x => simpa only [ao, h x (by simp [Op.operands])] using ha
  | assign x => simpa only [ao, h x (by simp [Op.operands])] using ha
  | pick c x y => simpa only [ao, h c (by simp [Op.operands]), h x (by simp [Op.operands]), h y (by simp [Op.operands])] using ha
  | binOp op t x y t' => simpa only [ao, h x (by simp [Op.operands]), h y (by simp [Op.operands])] using ha
  | unOp u t x => cases u <;> first | exact ha.elim | (simp only [ao] at ha ⊢; rw [← h x (by simp [Op.operands])]; exact ha)
  | convert s d x => simpa only [ao, h x (by simp [Op.operands])] using ha
  | index t x i => simpa only [ao, h x (by simp [Op.operands]), h i (by simp [Op.operands])] using ha
  | nilCheck x => simpa only [ao, h x (by simp [Op.operands])] using ha
  | fieldAddr t x j => simpa only [ao, h x (by simp [Op.operands])] using ha
  | indexAddr t x i => simpa only [ao, h x (by simp [Op.operands]), h i (by simp [Op.operands])] using ha
  | load t x => simpa only [ao, h x (by simp [Op.operands])] using ha
  | store t x y => simpa only [ao, h x (by simp [Op.operands]), h y (by simp [Op.operands])] using ha
  | alloc t => exact ha
  | box t x => simpa only [ao, h x (by simp [Op.operands])] using ha
  | build t ps =>
    have e : (ps.toList.map fun p => (p.1, ev T p.2)) = ps.toList.map fun p => (p.1, ev T' p.2) := List.map_congr_left fun p hp => by rw [h p.2 (by simp [Op.operands]; exact ⟨p.1, by simpa using hp⟩)]
    simpa only [ao, e] using ha
  | buildSlice t n ps =>
    have e : (ps.toList.map fun p => (p.1, ev T p.2)) = ps.toList.map fun p => (p.1, ev T' p.2) := List.map_congr_left fun p hp => by rw [h p.2 (by simp [Op.operands]; exact ⟨p.1, by simpa using hp⟩)]
    simpa only [ao, e] using ha
  | slice t x lo hi mx =>
    cases mx with
    | some m => exact ha
    | none =>
      cases lo <;> cases hi <;> simp only [ao] at ha ⊢ <;> (try rw [← h x (by simp [Op.operands])]) <;> (try rename_i l r; rw [← h l (by simp [Op.operands]), ← h r (by simp [Op.operands])]) <;> (try rename_i l; rw [← h l (by simp [Op.operands])]) <;> exact ha
  | extract x j => simpa only [ao, h x (by simp [Op.operands])] using ha
  | field t x j => simpa only [ao, h x (by simp [Op.operands])] using ha
  | makeFunc fn fi ca =>
    have e1 : fi.toList.map (ev T) = fi.toList.map (ev T') := List.map_congr_left fun p hp => h p (by simp [Op.operands]; exact .inl (by simpa using hp))
    have e2 : ca.toList.map (ev T) = ca.toList.map (ev T') := List.map_congr_left fun p hp => h p (by simp [Op.operands]; exact .inr (by simpa using hp))
    simpa only [ao, e1, e2] using ha
  | call c =>
    obtain ⟨callee, args, ts⟩ := c
    have hm : ∀ x, x ∈ args.toList → ev T x = ev T' x := fun x hx => h x (by simp [Op.operands, Call.operands]; exact .inr (by simpa using hx))
    cases callee with
    | builtin b =>
      rcases hl : args.toList with _ | ⟨x, _ | ⟨y, _ | ⟨z, zs⟩⟩⟩
      all_goals rcases ht : ts.toList with _ | ⟨t, _ | ⟨u, _ | ⟨v, vs⟩⟩⟩
      all_goals
        cases b <;> (try exact ha) <;> (unfold ao at ha ⊢; simp only [hl, ht] at ha ⊢) <;> (try exact ha)
      all_goals
        (try rw [← hm x (by rw [hl]; exact List.mem_cons_self)])
      all_goals
        (try rw [← hm y (by rw [hl]; exact List.mem_cons_of_mem _ List.mem_cons_self)])
      all_goals exact ha
    | value f => exact ha
    | invoke r m => exact ha
  | _ => exact ha

theorem ev_keep {ops : Array Oper} (o : Oper) (x : Operand) (h : x ∈ o.op.operands) : ev T x = ev (keepT T (o.looksAt ops)) x := by
  cases x with
  | tmp t =>
    simp only [ev]
    rw [keepT_look, if_pos]
    unfold Oper.looksAt
    refine List.mem_append_left _ (List.mem_filterMap.2 ⟨_, by simpa using h, rfl⟩)
  | const v => rfl
  | global g => rfl
  | func f => rfl

theorem AL.one {ops : Array Oper} {op : Op} {t : Tmp} {ty : TypeId} {pos : String} {af : Array Edge} {rest : List Oper} {Q : Tm → List Ob → Prop} (hd : t < N)
    (h : ∀ K : V → List Ob → Prop, (∀ x σ', AL P N k ops rest Q ((t, x) :: T) σ' → K x σ') → ao P T σ K op) : AL P N k ops (⟨some t, op, ty, pos, af, none⟩ :: rest) Q T σ :=
  AL.cons rfl (by simpa [dstOk] using hd) fun K hK => ao_sound _ (h K hK)
theorem AL.one0 {ops : Array Oper} {op : Op} {ty : TypeId} {pos : String} {af : Array Edge} {rest : List Oper} {Q : Tm → List Ob → Prop}
    (h : ∀ K : V → List Ob → Prop, (∀ x σ', AL P N k ops rest Q T σ' → K x σ') → ao P T σ K op) : AL P N k ops (⟨none, op, ty, pos, af, none⟩ :: rest) Q T σ :=
  AL.cons rfl rfl fun K hK => ao_sound _ (h K hK)

theorem AL.call {ops : Array Oper} {op : Op} {t : Tmp} {ty : TypeId} {pos : String} {af : Array Edge} {rest : List Oper} {Q : Tm → List Ob → Prop} (hd : t < N)
    (h : ∀ K : V → List Ob → Prop, (∀ x σ', AL P N k ops rest Q ((t, x) :: T) σ' → K x σ') → AOp P N k ⟨some t, op, ty, pos, af, none⟩ T σ K) : AL P N k ops (⟨some t, op, ty, pos, af, none⟩ :: rest) Q T σ :=
  AL.cons rfl (by simpa [dstOk] using hd) fun K hK => h K hK
theorem AL.call0 {ops : Array Oper} {op : Op} {ty : TypeId} {pos : String} {af : Array Edge} {rest : List Oper} {Q : Tm → List Ob → Prop}
    (h : ∀ K : V → List Ob → Prop, (∀ x σ', AL P N k ops rest Q T σ' → K x σ') → AOp P N k ⟨none, op, ty, pos, af, none⟩ T σ K) : AL P N k ops (⟨none, op, ty, pos, af, none⟩ :: rest) Q T σ :=
  AL.cons rfl rfl fun K hK => h K hK

/-- A guarded operation that is carried out, one that is not. -/
theorem AL.g1 {ops : Array Oper} {op : Op} {t j : Nat} {p : Bool} {ty : TypeId} {pos : String} {af : Array Edge} {rest : List Oper} {Q : Tm → List Ob → Prop} (hd : t < N) (hv : gv ops T j = bv p)
    (h : ∀ K : V → List Ob → Prop, (∀ x σ', AL P N k ops rest Q ((t, x) :: T) σ' → K x σ') → ao P T σ K op) : AL P N k ops (⟨some t, op, ty, pos, af, some (j, p)⟩ :: rest) Q T σ :=
  AL.guard rfl hv (by simpa [dstOk] using hd) (fun _ K hK => ao_sound _ (h K hK)) (fun e => by cases p <;> simp at e)
theorem AL.g0 {ops : Array Oper} {op : Op} {t j : Nat} {p b : Bool} {ty : TypeId} {pos : String} {af : Array Edge} {rest : List Oper} {Q : Tm → List Ob → Prop} (hd : t < N) (hv : gv ops T j = bv b) (hb : b ≠ p)
    (h : AL P N k ops rest Q ((t, .t []) :: T) σ) : AL P N k ops (⟨some t, op, ty, pos, af, some (j, p)⟩ :: rest) Q T σ :=
  AL.guard rfl hv (by simpa [dstOk] using hd) (fun e => absurd e hb) (fun _ => h)
theorem AL.gt {ops : Array Oper} {op : Op} {t j : Nat} {p : Bool} {xs : List V} {ty : TypeId} {pos : String} {af : Array Edge} {rest : List Oper} {Q : Tm → List Ob → Prop} (hd : t < N) (hv : gv ops T j = .t xs)
    (h : AL P N k ops rest Q ((t, .t []) :: T) σ) : AL P N k ops (⟨some t, op, ty, pos, af, some (j, p)⟩ :: rest) Q T σ :=
  AL.unguard rfl hv (by simpa [dstOk] using hd) h
/-- .. either way. -/
theorem AL.g {ops : Array Oper} {op : Op} {t j : Nat} {p b : Bool} {ty : TypeId} {pos : String} {af : Array Edge} {rest : List Oper} {Q : Tm → List Ob → Prop} (hd : t < N) (hv : gv ops T j = bv b)
    (h1 : b = p → AL P N k ops (⟨some t, op, ty, pos, af, none⟩ :: rest) Q T σ) (h2 : b = !p → AL P N k ops rest Q ((t, .t []) :: T) σ) : AL P N k ops (⟨some t, op, ty, pos, af, some (j, p)⟩ :: rest) Q T σ := by
  by_cases e : b = p
  · intro B F μ w a st tr hdf X hX
    have := h1 e B F μ w a st tr hdf X hX
    unfold wpList at this ⊢
    rw [if_pos (by simp [Region.wanted])] at this
    rw [if_pos (by simp [Region.wanted, yielded_of tr hv, e])]
    exact this
  · exact AL.g0 hd hv e (h2 (by cases b <;> cases p <;> simp_all))

/-! ### A statement whose order is open -/

def allS (p : List Ob → Prop) : List (List Ob) → Prop
  | [] => True
  | s :: S => p s ∧ allS p S

theorem allS_mem {p : List Ob → Prop} : ∀ {S : List (List Ob)}, allS p S → ∀ s ∈ S, p s
  | [], _, s, h => by simp at h
  | x :: S, ⟨h1, h2⟩, s, h => by
    rcases List.mem_cons.1 h with rfl | h
    · exact h1
    · exact allS_mem h2 s h

def allP (σ : List Ob) : List (List Ob → Prop) → Prop
  | [] => True
  | p :: S => p σ ∧ allP σ S
theorem allP_mem : ∀ {S : List (List Ob → Prop)}, allP σ S → ∀ p ∈ S, p σ
  | [], _, s, h => by simp at h
  | x :: S, ⟨h1, h2⟩, s, h => by
    rcases List.mem_cons.1 h with rfl | h
    · exact h1
    · exact allP_mem h2 s h

/-- An operation that looks, and tells x, whatever the store of these. -/
theorem tells {ops : Array Oper} {o : Oper} {x : V} (h : ∀ K : V → List Ob → Prop, K x σ → ao P T σ K o.op) : CalmAt P N k o (keepT T (o.looksAt ops)) x σ :=
  ao_sound o (ao_congr o.op (fun y hy => ev_keep o y hy) (h _ ⟨rfl, rfl⟩))

theorem ADr.c {ops : Array Oper} {op : Op} {t : Tmp} {ty : TypeId} {pos : String} {af : Array Edge} {R : Tm → List Ob → Prop} {i : Nat} {rest : List Oper} {S : List (List Ob)} {E : List Nat} {pc : List (List Ob → Prop)} (x : V) (hd : t < N)
    (h : allS (fun s => ∀ K : V → List Ob → Prop, K x s → ao P T s K op) S) (h2 : ADr P N k ops R (i + 1) rest ((t, x) :: T) S E ((fun s => ∀ K : V → List Ob → Prop, K x s → ao P T s K op) :: pc)) : ADr P N k ops R i (⟨some t, op, ty, pos, af, none⟩ :: rest) T S E pc :=
  .calm x _ (by simpa [dstOk] using hd) (by simp [wants]) (fun s hs => tells hs) (fun s hs => allS_mem h s hs) h2
/-- .. a call. -/
theorem ADr.cc {ops : Array Oper} {op : Op} {t : Tmp} {ty : TypeId} {pos : String} {af : Array Edge} {R : Tm → List Ob → Prop} {i : Nat} {rest : List Oper} {S : List (List Ob)} {E : List Nat} {pc : List (List Ob → Prop)} (x : V) (hd : t < N)
    (h : allS (fun s => ∀ K : V → List Ob → Prop, K x s → AOp P N k ⟨some t, op, ty, pos, af, none⟩ (keepT T (Oper.looksAt ops ⟨some t, op, ty, pos, af, none⟩)) s K) S) (h2 : ADr P N k ops R (i + 1) rest ((t, x) :: T) S E ((fun s => ∀ K : V → List Ob → Prop, K x s → AOp P N k ⟨some t, op, ty, pos, af, none⟩ (keepT T (Oper.looksAt ops ⟨some t, op, ty, pos, af, none⟩)) s K) :: pc)) : ADr P N k ops R i (⟨some t, op, ty, pos, af, none⟩ :: rest) T S E pc :=
  .calm x _ (by simpa [dstOk] using hd) (by simp [wants]) (fun s hs => hs _ ⟨rfl, rfl⟩) (fun s hs => allS_mem h s hs) h2
theorem ADr.gc {ops : Array Oper} {op : Op} {t : Tmp} {ty : TypeId} {pos : String} {af : Array Edge} {R : Tm → List Ob → Prop} {i : Nat} {rest : List Oper} {S : List (List Ob)} {E : List Nat} {pc : List (List Ob → Prop)} {j : Nat} {p : Bool} (x : V) (hd : t < N) (hv : gv ops T j = bv p)
    (h : allS (fun s => ∀ K : V → List Ob → Prop, K x s → ao P T s K op) S) (h2 : ADr P N k ops R (i + 1) rest ((t, x) :: T) S E ((fun s => ∀ K : V → List Ob → Prop, K x s → ao P T s K op) :: pc)) : ADr P N k ops R i (⟨some t, op, ty, pos, af, some (j, p)⟩ :: rest) T S E pc :=
  .calm x _ (by simpa [dstOk] using hd) (by simp [wants, hv]) (fun s hs => tells hs) (fun s hs => allS_mem h s hs) h2
theorem ADr.gcc {ops : Array Oper} {op : Op} {t : Tmp} {ty : TypeId} {pos : String} {af : Array Edge} {R : Tm → List Ob → Prop} {i : Nat} {rest : List Oper} {S : List (List Ob)} {E : List Nat} {pc : List (List Ob → Prop)} {j : Nat} {p : Bool} (x : V) (hd : t < N) (hv : gv ops T j = bv p)
    (h : allS (fun s => ∀ K : V → List Ob → Prop, K x s → AOp P N k ⟨some t, op, ty, pos, af, some (j, p)⟩ (keepT T (Oper.looksAt ops ⟨some t, op, ty, pos, af, some (j, p)⟩)) s K) S) (h2 : ADr P N k ops R (i + 1) rest ((t, x) :: T) S E ((fun s => ∀ K : V → List Ob → Prop, K x s → AOp P N k ⟨some t, op, ty, pos, af, some (j, p)⟩ (keepT T (Oper.looksAt ops ⟨some t, op, ty, pos, af, some (j, p)⟩)) s K) :: pc)) : ADr P N k ops R i (⟨some t, op, ty, pos, af, some (j, p)⟩ :: rest) T S E pc :=
  .calm x _ (by simpa [dstOk] using hd) (by simp [wants, hv]) (fun s hs => hs _ ⟨rfl, rfl⟩) (fun s hs => allS_mem h s hs) h2
theorem ADr.gs {ops : Array Oper} {op : Op} {t : Tmp} {ty : TypeId} {pos : String} {af : Array Edge} {R : Tm → List Ob → Prop} {i : Nat} {rest : List Oper} {S : List (List Ob)} {E : List Nat} {pc : List (List Ob → Prop)} {j : Nat} {p b : Bool} (hd : t < N) (hv : gv ops T j = bv b) (hb : b ≠ p)
    (h2 : ADr P N k ops R (i + 1) rest ((t, .t []) :: T) S E pc) : ADr P N k ops R i (⟨some t, op, ty, pos, af, some (j, p)⟩ :: rest) T S E pc :=
  .skip (by simpa [dstOk] using hd) (by simp [wants, hv, hb]) h2
theorem ADr.gt {ops : Array Oper} {op : Op} {t : Tmp} {ty : TypeId} {pos : String} {af : Array Edge} {R : Tm → List Ob → Prop} {i : Nat} {rest : List Oper} {S : List (List Ob)} {E : List Nat} {pc : List (List Ob → Prop)} {j : Nat} {p : Bool} {xs : List V} (hd : t < N) (hv : gv ops T j = .t xs)
    (h2 : ADr P N k ops R (i + 1) rest ((t, .t []) :: T) S E pc) : ADr P N k ops R i (⟨some t, op, ty, pos, af, some (j, p)⟩ :: rest) T S E pc :=
  .skip (by simpa [dstOk] using hd) (by simp [wants, hv]) h2
/-- A guard that is not known: both ways. -/
theorem ADr.gb {ops : Array Oper} {op : Op} {t : Tmp} {ty : TypeId} {pos : String} {af : Array Edge} {R : Tm → List Ob → Prop} {i : Nat} {rest : List Oper} {S : List (List Ob)} {E : List Nat} {pc : List (List Ob → Prop)} {j : Nat} {p b : Bool} (hd : t < N) (hv : gv ops T j = bv b)
    (h1 : b = p → gv ops T j = bv p → ADr P N k ops R i (⟨some t, op, ty, pos, af, some (j, p)⟩ :: rest) T S E pc) (h2 : b = !p → ADr P N k ops R (i + 1) rest ((t, .t []) :: T) S E pc) : ADr P N k ops R i (⟨some t, op, ty, pos, af, some (j, p)⟩ :: rest) T S E pc := by
  by_cases e : b = p
  · exact h1 e (by rw [hv, e])
  · exact ADr.gs hd hv e (h2 (by cases b <;> cases p <;> simp_all))
/-- An operation that changes the store. -/
theorem ADr.e {ops : Array Oper} {op : Op} {t : Tmp} {ty : TypeId} {pos : String} {af : Array Edge} {R : Tm → List Ob → Prop} {i : Nat} {rest : List Oper} {S : List (List Ob)} {E : List Nat} {pc : List (List Ob → Prop)} (x : V) (σ' : List Ob) (hd : t < N) (hc : (E.all fun e => (anc ops ops.size i).contains e) = true) (h : ∀ K : V → List Ob → Prop, K x σ' → ao P T σ K op) (hp : allP σ' pc)
    (h2 : ADr P N k ops R (i + 1) rest ((t, x) :: T) (σ' :: σ :: S) (i :: E) pc) : ADr P N k ops R i (⟨some t, op, ty, pos, af, none⟩ :: rest) T (σ :: S) E pc :=
  .eff x σ' (by simpa [dstOk] using hd) (by simp [wants]) hc (ao_sound _ (ao_congr op (fun y hy => ev_keep (⟨some t, op, ty, pos, af, none⟩ : Oper) y hy) (h _ ⟨rfl, rfl⟩))) (fun p hp' => allP_mem hp p hp') h2
theorem ADr.e0 {ops : Array Oper} {op : Op} {ty : TypeId} {pos : String} {af : Array Edge} {R : Tm → List Ob → Prop} {i : Nat} {rest : List Oper} {S : List (List Ob)} {E : List Nat} {pc : List (List Ob → Prop)} (x : V) (σ' : List Ob) (hc : (E.all fun e => (anc ops ops.size i).contains e) = true) (h : ∀ K : V → List Ob → Prop, K x σ' → ao P T σ K op) (hp : allP σ' pc)
    (h2 : ADr P N k ops R (i + 1) rest T (σ' :: σ :: S) (i :: E) pc) : ADr P N k ops R i (⟨none, op, ty, pos, af, none⟩ :: rest) T (σ :: S) E pc :=
  .eff x σ' rfl (by simp [wants]) hc (ao_sound _ (ao_congr op (fun y hy => ev_keep (⟨none, op, ty, pos, af, none⟩ : Oper) y hy) (h _ ⟨rfl, rfl⟩))) (fun p hp' => allP_mem hp p hp') h2
theorem ADr.ec {ops : Array Oper} {op : Op} {t : Tmp} {ty : TypeId} {pos : String} {af : Array Edge} {R : Tm → List Ob → Prop} {i : Nat} {rest : List Oper} {S : List (List Ob)} {E : List Nat} {pc : List (List Ob → Prop)} (x : V) (σ' : List Ob) (hd : t < N) (hc : (E.all fun e => (anc ops ops.size i).contains e) = true) (h : ∀ K : V → List Ob → Prop, K x σ' → AOp P N k ⟨some t, op, ty, pos, af, none⟩ (keepT T (Oper.looksAt ops ⟨some t, op, ty, pos, af, none⟩)) σ K) (hp : allP σ' pc)
    (h2 : ADr P N k ops R (i + 1) rest ((t, x) :: T) (σ' :: σ :: S) (i :: E) pc) : ADr P N k ops R i (⟨some t, op, ty, pos, af, none⟩ :: rest) T (σ :: S) E pc :=
  .eff x σ' (by simpa [dstOk] using hd) (by simp [wants]) hc (h _ ⟨rfl, rfl⟩) (fun p hp' => allP_mem hp p hp') h2

/-! ### Calls -/

/-- A call by a contract over some of the frame's objects. -/
theorem AOp.cι {T' : Tm} {R Qs : V → List Ob → Prop} {σs : List Ob} {f : FuncId} {fv : Operand} {args : Array Operand} {ts : Array TypeId} {ty : TypeId} {pos : String} {af : Array Edge} {gd : Option (Nat × Bool)} {dst : Option Tmp} {fi ca as : List V}
    (hT : ∀ x ∈ (Op.call { callee := .value fv, args := args, argTypes := ts }).operands, ev T x = ev T' x) (ι : List Nat) (hf : ev T fv = .f (.func f) fi ca) (hc : AC P f as σs Qs) (hemb : Emb ι σs σ) (has : nzs (fi ++ args.toList.map (ev T) ++ ca) = rens (gm ι σ.length) as)
    (h : ∀ y obs, Qs y obs → R (y.ren (gm ι σ.length)) (mrg σ ι (obs.map (Ob.ren (gm ι σ.length))))) : AOp P N k ⟨dst, .call { callee := .value fv, args := args, argTypes := ts }, ty, pos, af, gd⟩ T' σ R := by
  have e : args.toList.map (ev T) = args.toList.map (ev T') := List.map_congr_left fun x hx => hT x (by simp [Op.operands, Call.operands]; exact .inr (by simpa using hx))
  refine AOp.callι ι (by rw [← hT fv (by simp [Op.operands, Call.operands])]; exact hf) hc hemb (by rw [← e]; exact has) h

theorem AL.callv {ops : Array Oper} {c : Call} {t : Tmp} {ty : TypeId} {pos : String} {af : Array Edge} {rest : List Oper} {Q : Tm → List Ob → Prop} (hd : t < N)
    (h : ∀ K : V → List Ob → Prop, (∀ x σ', AL P N k ops rest Q ((t, x) :: T) σ' → K x σ') → AOp P N k ⟨some t, .call c, ty, pos, af, none⟩ T σ K) : AL P N k ops (⟨some t, .call c, ty, pos, af, none⟩ :: rest) Q T σ :=
  AL.call hd h
theorem AL.callv0 {ops : Array Oper} {c : Call} {ty : TypeId} {pos : String} {af : Array Edge} {rest : List Oper} {Q : Tm → List Ob → Prop}
    (h : ∀ K : V → List Ob → Prop, (∀ x σ', AL P N k ops rest Q T σ' → K x σ') → AOp P N k ⟨none, .call c, ty, pos, af, none⟩ T σ K) : AL P N k ops (⟨none, .call c, ty, pos, af, none⟩ :: rest) Q T σ :=
  AL.call0 h
theorem ADr.ccv {ops : Array Oper} {c : Call} {t : Tmp} {ty : TypeId} {pos : String} {af : Array Edge} {R : Tm → List Ob → Prop} {i : Nat} {rest : List Oper} {S : List (List Ob)} {E : List Nat} {pc : List (List Ob → Prop)} (x : V) (hd : t < N)
    (h : allS (fun s => ∀ K : V → List Ob → Prop, K x s → AOp P N k ⟨some t, .call c, ty, pos, af, none⟩ (keepT T (Oper.looksAt ops ⟨some t, .call c, ty, pos, af, none⟩)) s K) S) (h2 : ADr P N k ops R (i + 1) rest ((t, x) :: T) S E ((fun s => ∀ K : V → List Ob → Prop, K x s → AOp P N k ⟨some t, .call c, ty, pos, af, none⟩ (keepT T (Oper.looksAt ops ⟨some t, .call c, ty, pos, af, none⟩)) s K) :: pc)) : ADr P N k ops R i (⟨some t, .call c, ty, pos, af, none⟩ :: rest) T S E pc :=
  ADr.cc x hd h h2
theorem ADr.gccv {ops : Array Oper} {c : Call} {t : Tmp} {ty : TypeId} {pos : String} {af : Array Edge} {R : Tm → List Ob → Prop} {i : Nat} {rest : List Oper} {S : List (List Ob)} {E : List Nat} {pc : List (List Ob → Prop)} {j : Nat} {p : Bool} (x : V) (hd : t < N) (hv : gv ops T j = bv p)
    (h : allS (fun s => ∀ K : V → List Ob → Prop, K x s → AOp P N k ⟨some t, .call c, ty, pos, af, some (j, p)⟩ (keepT T (Oper.looksAt ops ⟨some t, .call c, ty, pos, af, some (j, p)⟩)) s K) S) (h2 : ADr P N k ops R (i + 1) rest ((t, x) :: T) S E ((fun s => ∀ K : V → List Ob → Prop, K x s → AOp P N k ⟨some t, .call c, ty, pos, af, some (j, p)⟩ (keepT T (Oper.looksAt ops ⟨some t, .call c, ty, pos, af, some (j, p)⟩)) s K) :: pc)) : ADr P N k ops R i (⟨some t, .call c, ty, pos, af, some (j, p)⟩ :: rest) T S E pc :=
  ADr.gcc x hd hv h h2

/-- The decidable part of how a callee's store lies in the caller's. -/
theorem Emb.of {ι : List Nat} {σs : List Ob} (h1 : ι.length = σs.length) (h2 : ι.Nodup) (h3 : ∀ j, j < ι.length → σ[ι.getD j 0]? = (σs[j]?).map (Ob.ren (gm ι σ.length))) : Emb ι σs σ :=
  ⟨h1, h2, fun j i hj => by
    have hl := (List.getElem?_eq_some_iff.1 hj).1
    have := h3 j hl
    rw [List.getD_eq_getElem?_getD, hj] at this
    exact this⟩

theorem Emb.nil : Emb [] [] σ := ⟨rfl, List.nodup_nil, fun j i hj => by simp at hj⟩
theorem Emb.one {i : Nat} {ob : Ob} (h : σ[i]? = some (ob.ren (gm [i] σ.length))) : Emb [i] [ob] σ :=
  ⟨rfl, by simp, fun j l hj => by
    cases j with
    | zero => simp at hj; subst hj; simpa using h
    | succ j => simp at hj⟩
theorem Emb.two {i j : Nat} {ob ob' : Ob} (hij : i ≠ j) (h : σ[i]? = some (ob.ren (gm [i, j] σ.length))) (h' : σ[j]? = some (ob'.ren (gm [i, j] σ.length))) : Emb [i, j] [ob, ob'] σ :=
  ⟨rfl, by simpa using hij, fun m l hj => by
    cases m with
    | zero => simp at hj; subst hj; simpa using h
    | succ m =>
      cases m with
      | zero => simp at hj; subst hj; simpa using h'
      | succ m => simp at hj⟩
end
end Go.AW
