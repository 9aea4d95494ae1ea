/-
  The calculus: stores, new variables, structs put together.
-/
import Derived.Test.YtiiacdheopdooaaAwRun
namespace Go.AW
open Go

theorem setAt_length {α : Type} : ∀ (ys xs : List α) (off : Nat), (setAt xs off ys).length = xs.length
  | [], _, _ => rfl
  | y :: ys, xs, off => by simp [setAt, setAt_length ys]

section
variable {P : Program} {F : Nat → Prop} {σ : List Ob} {μ : List Value} {w : World}

theorem VRs.setAt : ∀ {ys : List V} {us : List Value} {xs : List V} {vs : List Value} (off : Nat), VRs F σ μ w xs vs → VRs F σ μ w ys us → VRs F σ μ w (setAt xs off ys) (setAt vs off us)
  | [], us, xs, vs, off, h, g => by simp only [VRs] at g; subst g; exact h
  | y :: ys, us, xs, vs, off, h, g => by
    simp only [VRs] at g
    obtain ⟨u, us', rfl, g1, g2⟩ := g
    exact VRs.setAt (off + 1) (VRs.set h off y u g1) g2

theorem DRs.set : ∀ {xs : List D} {vs : List Value}, DRs F w xs vs → ∀ (i : Nat) (x : D) (v : Value), DR F w x v → DRs F w (xs.set i x) (vs.set i v)
  | [], vs, h, i, x, v, hx => by simp only [DRs] at h; subst h; simp [DRs]
  | y :: xs, vs, h, i, x, v, hx => by
    simp only [DRs] at h
    obtain ⟨u, us, rfl, h1, h2⟩ := h
    cases i with
    | zero => exact ⟨v, us, rfl, hx, h2⟩
    | succ i => exact ⟨u, us.set i v, rfl, h1, DRs.set h2 i x v hx⟩

theorem DRs.setAt : ∀ {ys : List D} {us : List Value} {xs : List D} {vs : List Value} (off : Nat), DRs F w xs vs → DRs F w ys us → DRs F w (setAt xs off ys) (setAt vs off us)
  | [], us, xs, vs, off, h, g => by simp only [DRs] at g; subst g; exact h
  | y :: ys, us, xs, vs, off, h, g => by
    simp only [DRs] at g
    obtain ⟨u, us', rfl, g1, g2⟩ := g
    exact DRs.setAt (off + 1) (DRs.set h off y u g1) g2

theorem heap_setCells {b : Nat} {T : TypeId} : ∀ (vs : List Value) (off : Nat) (w : World) (arr : Array Value), w.heap[b]? = some (.cells arr T (0, 0)) →
    ∃ arr', (w.setCells b off vs).heap[b]? = some (.cells arr' T (0, 0)) ∧ arr'.toList = setAt arr.toList off vs
  | [], off, w, arr, h => ⟨arr, h, rfl⟩
  | v :: vs, off, w, arr, h => by
    obtain ⟨arr', h1, h2⟩ := heap_setCells vs (off + 1) (w.setCell ⟨b, off, none⟩ v) _ (heap_setCell_at h v)
    exact ⟨arr', h1, by rw [h2]; simp [AW.setAt]⟩

theorem setCells_rest (b : Nat) : ∀ (vs : List Value) (off : Nat) (w : World), (w.setCells b off vs).os = w.os ∧ (w.setCells b off vs).tape = w.tape ∧ (w.setCells b off vs).output = w.output ∧
    (w.setCells b off vs).heap.size = w.heap.size ∧ ∀ k, k ≠ b → (w.setCells b off vs).heap[k]? = w.heap[k]?
  | [], _, _ => ⟨rfl, rfl, rfl, rfl, fun _ _ => rfl⟩
  | v :: vs, off, w => by
    obtain ⟨h1, h2, h3, h4, h5⟩ := setCells_rest b vs (off + 1) (w.setCell ⟨b, off, none⟩ v)
    refine ⟨h1, h2, h3, by rw [World.setCells, h4]; simp [World.setCell], fun k hk => ?_⟩
    rw [World.setCells, h5 k hk]
    exact heap_setCell_other w _ k v hk

theorem V.one_ok : ∀ (x : V) (v : Value), VR F σ μ w x v → x.one = true → v.oneCell' = true := by
  intro x v h ho
  cases x with
  | d y =>
    cases y with
    | s u => simp only [VR, DR] at h; subst h; simpa [V.one] using ho
    | l n xs => simp only [VR, DR] at h; obtain ⟨A, cap, rfl, _⟩ := h; rfl
  | a cs => simp [V.one] at ho
  | t cs => simp [V.one] at ho
  | p i off => simp only [VR] at h; obtain ⟨b, T, cs, _, _, rfl⟩ := h; rfl
  | c xs => simp only [VR] at h; obtain ⟨b, off, vs, rfl, _⟩ := h; rfl
  | o i n => simp only [VR] at h; obtain ⟨E, sz, m, cs, u, A, cap, _, _, rfl, _⟩ := h; rfl
  | e i n off => simp only [VR] at h; obtain ⟨E, sz, m, cs, u, b, _, _, rfl, _⟩ := h; rfl
  | f fn fi ca => simp only [VR] at h; obtain ⟨x, y, rfl, _⟩ := h; rfl
  | u => simp [V.one] at ho

def ones : List V → Bool
  | [] => true
  | x :: xs => x.one && ones xs

theorem ones_ok : ∀ (xs : List V) (vs : List Value), VRs F σ μ w xs vs → ones xs = true → ∀ v ∈ vs, v.oneCell' = true
  | [], vs, h, _ => by simp only [VRs] at h; subst h; simp
  | x :: xs, vs, h, ho => by
    simp only [VRs] at h
    obtain ⟨v, us, rfl, h1, h2⟩ := h
    simp only [ones, Bool.and_eq_true] at ho
    intro u hu
    rcases List.mem_cons.1 hu with rfl | hu
    · exact V.one_ok x _ h1 ho.1
    · exact ones_ok xs us h2 ho.2 u hu

/-- The cells of a value. -/
theorem flat_ok {x : V} {v : Value} (h : VR F σ μ w x v) (ho : ones (flat x) = true) : VRs F σ μ w (flat x) v.cells.toList := by
  cases x with
  | a cs => simp only [VR] at h; obtain ⟨c, rfl, h⟩ := h; exact h
  | d y =>
    have : v.cells = #[v] := by
      cases y with
      | s u => simp only [VR, DR] at h; subst h; simp [flat, ones, V.one] at ho; cases v <;> simp_all [Value.cells, Value.oneCell']
      | l n xs => simp only [VR, DR] at h; obtain ⟨A, cap, rfl, _⟩ := h; rfl
    rw [this]; exact ⟨v, [], rfl, h, rfl⟩
  | t cs => simp [flat, ones, V.one] at ho
  | u => simp [flat, ones, V.one] at ho
  | p i off => have h' := h; simp only [VR] at h; obtain ⟨b, T, cs, _, _, rfl⟩ := h; exact ⟨_, [], rfl, h', rfl⟩
  | c xs => have h' := h; simp only [VR] at h; obtain ⟨b, off, vs, rfl, _⟩ := h; exact ⟨_, [], rfl, h', rfl⟩
  | o i n => have h' := h; simp only [VR] at h; obtain ⟨E, sz, m, cs, u, A, cap, _, _, rfl, _⟩ := h; exact ⟨_, [], rfl, h', rfl⟩
  | e i n off => have h' := h; simp only [VR] at h; obtain ⟨E, sz, m, cs, u, b, _, _, rfl, _⟩ := h; exact ⟨_, [], rfl, h', rfl⟩
  | f fn fi ca => have h' := h; simp only [VR] at h; obtain ⟨x, y, rfl, _⟩ := h; exact ⟨_, [], rfl, h', rfl⟩

/-- How many cells a variable of a type has, as a store asks it. -/
def wid (P : Program) (t : TypeId) : Option Nat := (P.info? t).map (·.size)

theorem run_store {b o t : Nat} {arr : Array Value} {T : TypeId} {v : Value} (hb : w.heap[b]? = some (.cells arr T (0, 0))) (hs : wid P t = some v.cells.size)
    (hfit : o + v.cells.size ≤ arr.size) (h1 : ∀ u ∈ v.cells.toList, u.oneCell' = true) :
    (Instr.storeAt t (.pointer (some ⟨b, o, none⟩)) v).run P w = .ok () (w.setCells b o v.cells.toList) := by
  have ht : w.there b o v.cells.size := fun j hj => by
    rw [cell_of_row w b (o + j) arr T (0, 0) hb, frozen_of_row w b (o + j) arr T hb]
    refine ⟨?_, rfl⟩
    rw [Array.getElem?_eq_getElem (by omega)]
    rfl
  have := run_storeVar_mid (P := P) w b o t v.cells ht hs (Array.all_eq_true_iff_forall_mem.2 fun u hu => h1 u (by simpa using hu))
  have hc : (Value.agg v.cells).cells = v.cells := rfl
  have e : (storeVar t ⟨b, o, none⟩ v).run P w = (storeVar t ⟨b, o, none⟩ (.agg v.cells)).run P w := by
    unfold storeVar
    rw [hc]
  simp [Instr.storeAt, Instr.sureAddr, e, this]

variable {k B : Nat}

/-- A store into a box. -/
theorem store_box {i off t : Nat} {T : TypeId} {cs : List V} {x : V} {p v : Value} (st : St k B F σ μ w) (hi : σ[i]? = some (.box T cs)) (hp : VR F σ μ w (.p i off) p) (hv : VR F σ μ w x v)
    (hw : wid P t = some (flat x).length) (hfit : off + (flat x).length ≤ cs.length) (ho : ones (flat x) = true) :
    ∃ w', (Instr.storeAt t p v).run P w = .ok () w' ∧ St k B F (σ.set i (.box T (setAt cs off (flat x)))) μ w' ∧ Stp k B F σ μ w F (σ.set i (.box T (setAt cs off (flat x)))) μ w' ∧
      Keep σ.length σ μ (σ.set i (.box T (setAt cs off (flat x)))) μ := by
  simp only [VR] at hp
  obtain ⟨b, T', cs', h1, h2, rfl⟩ := hp
  obtain ⟨b', arr, e1, e2, e3, e4, e5⟩ := st.obj i _ _ hi h2
  simp at e1
  subst e1
  have hil : i < σ.length := (List.getElem?_eq_some_iff.1 hi).1
  have hf := flat_ok hv ho
  have hlen : v.cells.size = (flat x).length := by rw [← Array.length_toList]; exact VRs.length hf
  have hal : arr.size = cs.length := by rw [← Array.length_toList]; exact VRs.length e3
  have hrun := run_store (P := P) (t := t) (o := off) (v := v) e2 (by rw [hw, hlen]) (by omega) (ones_ok _ _ hf ho)
  obtain ⟨r1, r2, r3, r4, r5⟩ := setCells_rest b v.cells.toList off w
  obtain ⟨arr', g1, g2⟩ := heap_setCells v.cells.toList off w arr e2
  have hμ : μ.set i (.pointer (some ⟨b, 0, none⟩)) = μ := by
    apply List.ext_getElem?
    intro j
    by_cases e : i = j
    · subst e; rw [List.getElem?_set_self (by rw [st.len]; exact hil), h2]
    · rw [List.getElem?_set_ne e]
  have hkeep : Keep σ.length σ μ (σ.set i (.box T (setAt cs off (flat x)))) μ := by
    refine ⟨fun j T1 c1 u hj a1 a2 => ⟨?_, a2⟩, fun j E sz m c1 u hj a1 a2 => ?_⟩
    · by_cases e : i = j
      · subst e; rw [hi] at a1; simp at a1; obtain ⟨rfl, rfl⟩ := a1; exact ⟨_, List.getElem?_set_self hj⟩
      · exact ⟨c1, by rw [List.getElem?_set_ne e]; exact a1⟩
    · have e : i ≠ j := by rintro rfl; rw [hi] at a1; simp at a1
      exact ⟨m, c1, u, by rw [List.getElem?_set_ne e]; exact a1, a2, Nat.le_refl _, fun _ => rfl⟩
  have hm : Mem F w F (w.setCells b off v.cells.toList) := ⟨Nat.le_of_eq r4.symm, fun c hc hF => ⟨r5 c (fun e => hF (e ▸ e4)), hF⟩⟩
  have := St.set (ob' := .box T (setAt cs off (flat x))) (h' := .pointer (some ⟨b, 0, none⟩)) (F' := F) (w' := w.setCells b off v.cells.toList) st hi h2 r1 r2 r3 (Nat.le_of_eq r4.symm)
    (fun c _ hc => r5 c (fun e => hc (by rw [e]; rfl))) (fun _ h => h) (fun _ h => .inl h) (fun c hc => .inl hc) (by rw [hμ]; exact hkeep)
    (by
      rw [hμ]
      refine ⟨b, arr', rfl, g1, ?_, e4, e5⟩
      rw [g2]
      exact VRs.setAt off (VRs.mono hm st.len hkeep _ _ e3) (VRs.mono hm st.len hkeep _ _ hf))
  rw [hμ] at this
  exact ⟨_, hrun, this.1, this.2.1, this.2.2.1⟩

/-- A new variable. -/
theorem new_box {T : TypeId} {cs : List V} {arr : Array Value} (st : St k B F σ μ w) (hv : VRs F σ μ w cs arr.toList) :
    ∃ F' μ', St k B F' (σ ++ [.box T cs]) μ' (w.alloc (.cells arr T)) ∧ Stp k B F σ μ w F' (σ ++ [.box T cs]) μ' (w.alloc (.cells arr T)) ∧ Keep σ.length σ μ (σ ++ [.box T cs]) μ' ∧
      VR F' (σ ++ [.box T cs]) μ' (w.alloc (.cells arr T)) (.p σ.length 0) (.pointer (some ⟨w.heap.size, 0, none⟩)) := by
  have hsz : (w.alloc (.cells arr T)).heap.size = w.heap.size + 1 := by simp
  have hmem : ∀ b, b < w.heap.size → (w.alloc (.cells arr T)).heap[b]? = w.heap[b]? := fun b hb => heap_alloc_old w _ hb
  let F' : Nat → Prop := fun b => F b ∨ b = w.heap.size
  have hm : Mem F w F' (w.alloc (.cells arr T)) := ⟨by omega, fun b hb hF => ⟨hmem b hb, fun h => h.elim hF (by omega)⟩⟩
  have hkeep : Keep σ.length σ μ (σ ++ [.box T cs]) (μ ++ [.pointer (some ⟨w.heap.size, 0, none⟩)]) := by
    refine ⟨fun i T1 c1 u hi e1 e2 => ⟨⟨c1, (List.getElem?_append_left hi).trans e1⟩, (List.getElem?_append_left (by rw [st.len]; exact hi)).trans e2⟩,
      fun i E sz m c1 u hi e1 e2 => ⟨m, c1, u, (List.getElem?_append_left hi).trans e1, (List.getElem?_append_left (by rw [st.len]; exact hi)).trans e2, Nat.le_refl _, fun _ => rfl⟩⟩
  obtain ⟨g1, g2, g3, g4⟩ := St.push (ob' := .box T cs) (h' := .pointer (some ⟨w.heap.size, 0, none⟩)) (F' := F') (w' := w.alloc (.cells arr T)) st rfl rfl rfl (by omega) hmem (fun _ h => .inl h)
    (fun b hb => hb.imp id (fun e => ⟨by omega, by omega⟩)) (fun b hb => by simp [blk] at hb; omega)
    ⟨w.heap.size, arr, rfl, heap_alloc_new w _, VRs.mono hm st.len hkeep _ _ hv, .inr rfl, fun _ => st.base⟩
  exact ⟨F', _, g1, g2, g3, ⟨_, T, cs, by simp, by rw [← st.len]; simp, rfl⟩⟩
end
end Go.AW
