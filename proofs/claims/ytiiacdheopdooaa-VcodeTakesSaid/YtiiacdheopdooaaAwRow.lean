/-
  The calculus: append to a row of the call's own; a store into it.
-/
import Derived.Test.YtiiacdheopdooaaAwWrite
namespace Go.AW
open Go

/-- What an append takes from: so many elements, these cells, as long as memory stands. -/
structure Src (P : Program) (w : World) (u : TypeId) (size : Nat) (x : Value) (m : Nat) (news : List Value) : Prop where
  ty : (∃ e, P.underlying u = some (.slice e)) ∨ P.underlying u = some .string
  len : ∀ w', (Builtin.lenOf x).run P w' = .ok m w'
  cells : ∀ w', w'.heap = w.heap → (Builtin.firstCells size m x).run P w' = .ok news.toArray w'
  one : ∀ v ∈ news, v.oneCell' = true
  size : news.length = m * size

section
variable {P : Program} {w : World}

theorem Src.slice {u e : TypeId} {size b off m c : Nat} {news : List Value} (hu : P.underlying u = some (.slice e)) (hc : w.rangeAt b off news) (h1 : ∀ v ∈ news, v.oneCell' = true)
    (hl : news.length = m * size) : Src P w u size (.slice (some ⟨b, off, none⟩) m c) m news := by
  refine ⟨.inl ⟨e, hu⟩, fun w' => by simp [Builtin.lenOf], fun w' hh => ?_, h1, hl⟩
  refine run_firstCells_some (P := P) w' size m ⟨b, off, none⟩ m c news hl fun j v hv => ?_
  rw [Addr.add_mid, World.cell?_of_block (w := w) (by rw [hh])]
  exact hc j v hv

theorem Src.none {u e : TypeId} {size : Nat} (A : Option Addr) (c : Nat) (hu : P.underlying u = some (.slice e)) : Src P w u size (.slice A 0 c) 0 [] := by
  refine ⟨.inl ⟨e, hu⟩, fun w' => by simp [Builtin.lenOf], fun w' hh => ?_, by simp, by simp⟩
  cases A with
  | none => simp [Builtin.firstCells]
  | some a => simp [Builtin.firstCells, loadCells, loadCellsFrom]

theorem Src.string {u : TypeId} (s : ByteArray) (hu : P.underlying u = some .string) : Src P w u 1 (.string s) s.size (Lib.strCells s) :=
  ⟨.inr hu, fun w' => by simp [Builtin.lenOf], fun w' _ => Lib.run_firstCells_string w' 1 s, Lib.strCells_oneCell s, by rw [Lib.strCells_length, Nat.mul_one]⟩

/-- A slice type: its elements' type, their cells, their bytes. -/
def sliT (P : Program) (t : TypeId) : Option (Nat × Nat × Nat) :=
  match P.underlying t with
  | some (.slice e) => match P.info? e with
    | some i => match i.zero with
      | some z => if z.cells.size = i.size ∧ 0 < i.size ∧ 0 < i.bytes then some (e, i.size, i.bytes) else none
      | none => none
    | none => none
  | _ => none

theorem sliT_ok {t e sz by_ : Nat} (h : sliT P t = some (e, sz, by_)) : P.underlying t = some (.slice e) ∧ ∃ i z, P.info? e = some i ∧ i.zero = some z ∧ i.size = sz ∧ i.bytes = by_ ∧ z.cells.size = sz ∧ 0 < sz ∧ 0 < by_ := by
  unfold sliT at h
  split at h
  · rename_i e' hu
    split at h
    · rename_i i hi
      split at h
      · rename_i z hz
        split at h
        · rename_i hc
          simp at h
          obtain ⟨rfl, rfl, rfl⟩ := h
          exact ⟨hu, i, z, hi, hz, rfl, rfl, hc.1, hc.2.1, hc.2.2⟩
        · simp at h
      · simp at h
    · simp at h
  · simp at h

/-- APPEND, exactly. -/
theorem run_append_src {base t u ty e sz by_ n m : Nat} {v x : Value} {xs news : List Value} (ht : sliT P t = some (e, sz, by_)) (hown : w.ownsRow base e sz v n xs) (src : Src P w u sz x m news)
    (hbytes : (n + m) * by_ ≤ 140737488355328) (hbase : base ≤ w.heap.size) :
    ∃ v' w', (Builtin.append_ #[t, u] ty #[v, x]).run P w = .ok v' w' ∧ w'.ownsRow base e sz v' (n + m) (xs ++ news) ∧ w.grownBy w' v.ownBlock ∧ (m = 0 → v' = v) ∧
      (∀ g, v'.ownBlock = some g → v.ownBlock = some g ∨ w.heap.size ≤ g) ∧ w.heap.size ≤ w'.heap.size := by
  obtain ⟨hu, i, z, hi, hz, rfl, rfl, hzs, hsz, hby⟩ := sliT_ok ht
  have hnm : n + m ≤ 140737488355328 := Nat.le_trans (Nat.le_mul_of_pos_right _ hby) hbytes
  have hmax : n + m ≤ maxLen := by simp only [maxLen]; omega
  have hlen : (xs ++ news).length = (n + m) * i.size := by rw [List.length_append, hown.1, src.size, Nat.add_mul]
  have h63' : ¬ (9223372036854775807 < ((n : Int) + (m : Int))) := by omega
  have hl := src.len
  have hcd := src.cells w.drew rfl
  have hc := src.cells w rfl
  have grown : ∀ (old : Nat), old < n + m → ∀ (row : Option Nat),
      (w.drew.alloc (.cells (xs.toArray ++ news.toArray ++ Builtin.zeroCells z.cells (grownCap w (n + m) old e - (n + m))) e)).ownsRow base e i.size
        (.slice (some ⟨w.heap.size, 0, none⟩) (n + m) (grownCap w (n + m) old e)) (n + m) (xs ++ news) ∧
      w.grownBy (w.drew.alloc (.cells (xs.toArray ++ news.toArray ++ Builtin.zeroCells z.cells (grownCap w (n + m) old e - (n + m))) e)) row := by
    intro old ho row
    have hge := grownCap_ge w (n + m) old e
    have hcm : grownCap w (n + m) old e ≤ maxLen := grownCap_le_maxLen w (n + m) old e hmax
    refine ⟨⟨hlen, .inr ⟨w.heap.size, _, _, rfl, hbase, heap_alloc_new w.drew _, hge, hcm, ?_, ?_⟩⟩, ⟨rfl, rfl, rfl, by simp, fun k hk _ => heap_alloc_old w.drew _ hk⟩⟩
    · simp only [Array.size_append, List.size_toArray, size_zeroCells, hzs, hown.1, src.size, ← Nat.add_mul]
      congr 1
      omega
    · simp only [Array.toList_append, List.append_assoc]
      rw [← List.append_assoc, ← hlen]
      exact List.take_left
  rcases hown.2 with ⟨rfl, rfl⟩ | ⟨g, cap, cur, rfl, hbg, hg, hnc, hcm, hcs, htake⟩
  · have hx : xs = [] := List.eq_nil_of_length_eq_zero (by simpa using hown.1)
    subst hx
    by_cases hm : m = 0
    · subst hm
      have hn : news = [] := List.eq_nil_of_length_eq_zero (by simpa using src.size)
      subst hn
      refine ⟨.slice none 0 0, w, ?_, World.ownsRow_nil w base e i.size, ⟨rfl, rfl, rfl, Nat.le_refl _, fun _ _ _ => rfl⟩, fun _ => rfl, fun g hg => .inl hg, Nat.le_refl _⟩
      rcases src.ty with ⟨e', hu'⟩ | hu' <;> simp [Builtin.append_, run_underlying hu, run_underlying hu', sizeOf, typeInfo, hi, hl, hc]
    · have h48' : ¬ (281474976710656 < Builtin.nextslicecap m 0 * i.bytes) := by rw [nextslicecap_zero (by omega)]; simp only [Nat.zero_add] at hbytes; omega
      have hgr := grown 0 (by omega) (Value.ownBlock (.slice none 0 0))
      simp only [Nat.zero_add, List.nil_append, Array.empty_append] at hgr ⊢
      simp only [Int.natCast_zero, Int.zero_add] at h63'
      refine ⟨_, _, ?_, hgr.1, hgr.2, fun h => absurd h hm, fun g hg => .inr ?_, by simp⟩
      · rcases src.ty with ⟨e', hu'⟩ | hu' <;>
          simp [Builtin.append_, run_underlying hu, run_underlying hu', sizeOf, typeInfo, zeroValue, hi, hz, hl, hm, h63', h48', Question.forced, run_firstCells_none, hcd, newRow, grownCap]
      · simp [Value.ownBlock] at hg; omega
  · by_cases hroom : n + m ≤ cap
    · have hfit : n * i.size + news.length ≤ cur.size := by rw [src.size, hcs, ← Nat.add_mul]; exact Nat.mul_le_mul_right _ hroom
      have hst := run_storeCells_at P g (n * i.size) e news 0 cur w hg (by simpa using hfit) src.one
      simp only [Nat.add_zero] at hst
      refine ⟨.slice (some ⟨g, 0, none⟩) (n + m) cap, w.setRow g (cur.toList.take (n * i.size) ++ news ++ cur.toList.drop (n * i.size + news.length)).toArray, ?_,
        ⟨hlen, .inr ⟨g, cap, _, rfl, hbg, setRow_heap w g cur _ e _ hg, hroom, hcm, ?_, ?_⟩⟩, ⟨rfl, rfl, rfl, by simp, fun k _ hk => setRow_other w g k _ (fun e => hk (by simp [Value.ownBlock, e]))⟩, fun h => by subst h; rfl, fun g' hg' => .inl hg', by simp⟩
      · rcases src.ty with ⟨e', hu'⟩ | hu' <;>
          simp [Builtin.append_, run_underlying hu, run_underlying hu', sizeOf, typeInfo, hi, hl, hroom, hc, Addr.add_lit, hst]
      · simp only [List.size_toArray, List.length_append, List.length_take, List.length_drop, Array.length_toList]
        omega
      · rw [htake, ← hlen]
        exact List.take_left
    · have holds : ∀ j u, xs[j]? = some u → w.cell? ((⟨g, 0, none⟩ : Addr).add j) = some u := hown.cells (g := g) rfl
      have h48' : ¬ (281474976710656 < Builtin.nextslicecap (n + m) cap * i.bytes) := by have := growslice_fits (need := n + m) (old := cap) (by omega) hbytes; omega
      have hfo := run_firstCells_some (P := P) w.drew i.size n ⟨g, 0, none⟩ n cap xs hown.1 (by simpa using holds)
      have hgr := grown cap (by omega) (Value.ownBlock (.slice (some ⟨g, 0, none⟩) n cap))
      refine ⟨_, _, ?_, hgr.1, hgr.2, fun h => absurd hroom (by subst h; omega), fun g' hg' => .inr ?_, by simp⟩
      · rcases src.ty with ⟨e', hu'⟩ | hu' <;>
          (simp [Builtin.append_, run_underlying hu, run_underlying hu', sizeOf, typeInfo, zeroValue, hi, hz, hl, hroom, h63', h48', Question.forced, hfo, hcd, newRow, grownCap]
           rw [← List.append_toArray, Array.append_assoc])
      · simp [Value.ownBlock] at hg'; omega

variable {F : Nat → Prop} {σ : List Ob} {μ : List Value} {k B : Nat}

def D.one : D → Bool
  | .s v => v.oneCell'
  | .l _ _ => true
def onesD : List D → Bool
  | [] => true
  | x :: xs => x.one && onesD xs

theorem onesD_ok : ∀ (xs : List D) (vs : List Value), DRs F w xs vs → onesD xs = true → ∀ v ∈ vs, v.oneCell' = true
  | [], vs, h, _ => by simp only [DRs] at h; subst h; simp
  | x :: xs, vs, h, ho => by
    simp only [DRs] at h
    obtain ⟨v, us, rfl, h1, h2⟩ := h
    simp only [onesD, Bool.and_eq_true] at ho
    intro u hu
    rcases List.mem_cons.1 hu with rfl | hu
    · cases x with
      | s v => simp only [DR] at h1; subst h1; exact ho.1
      | l n xs => simp only [DR] at h1; obtain ⟨A, cap, rfl, _⟩ := h1; rfl
    · exact onesD_ok xs us h2 ho.2 u hu

theorem DRs.mem {F' : Nat → Prop} {w' : World} (hm : Mem F w F' w') {xs : List D} {vs : List Value} (h : DRs F w xs vs) : DRs F' w' xs vs := DRs.mono hm xs vs h

/-- What an own row's handle says. -/
theorem own_hdr (st : St k B F σ μ w) {i E sz n : Nat} {cs : List D} {v : Value} (hi : σ[i]? = some (.row E sz n cs)) (hv : VR F σ μ w (.o i n) v) :
    μ[i]? = some v ∧ ∃ vs, w.ownsRow (if k ≤ i then B else 0) E sz v n vs ∧ DRs F w cs vs ∧ ∀ b, v.ownBlock = some b → F b := by
  simp only [VR] at hv
  obtain ⟨E', sz', m, cs', h, A, cap, h1, h2, rfl, h3, h4⟩ := hv
  rw [hi] at h1
  simp at h1
  obtain ⟨rfl, rfl, rfl, rfl⟩ := h1
  obtain rfl := h4 rfl
  exact ⟨h2, st.obj i _ _ hi h2⟩

/-- APPEND to an own row. -/
theorem append_row {i t u E sz n m by_ : Nat} {cs ys : List D} {v x : Value} {news : List Value} (ht : sliT P t = some (E, sz, by_)) (st : St k B F σ μ w)
    (hi : σ[i]? = some (.row E sz n cs)) (hv : VR F σ μ w (.o i n) v) (src : Src P w u sz x m news) (hys : DRs F w ys news) (hb : (n + m) * by_ ≤ 140737488355328) :
    ∃ v' w' F' μ', (Builtin.append_ #[t, u] t #[v, x]).run P w = .ok v' w' ∧ St k B F' (σ.set i (.row E sz (n + m) (cs ++ ys))) μ' w' ∧
      Stp k B F σ μ w F' (σ.set i (.row E sz (n + m) (cs ++ ys))) μ' w' ∧ Keep σ.length σ μ (σ.set i (.row E sz (n + m) (cs ++ ys))) μ' ∧
      VR F' (σ.set i (.row E sz (n + m) (cs ++ ys))) μ' w' (.o i (n + m)) v' := by
  obtain ⟨hμ, vs, hown, hd, hF⟩ := own_hdr st hi hv
  have hil : i < σ.length := (List.getElem?_eq_some_iff.1 hi).1
  obtain ⟨v', w', hr, ho', hg, hsame, hnew, hsz⟩ := run_append_src (P := P) (ty := t) ht hown src hb (by split; exact st.base; exact Nat.zero_le _)
  let F' : Nat → Prop := fun b => F b ∨ (w.heap.size ≤ b ∧ v'.ownBlock = some b)
  have hblk : blk (.row E sz n cs) v = v.ownBlock := blk_row v (row_no_ptr hown)
  have hblk' : blk (.row E sz (n + m) (cs ++ ys)) v' = v'.ownBlock := blk_row v' (row_no_ptr ho')
  have hlt : ∀ g, v'.ownBlock = some g → g < w'.heap.size := fun g e => (ho'.lt g e).2
  have hm : Mem F w F' w' := ⟨hsz, fun b hb hf => ⟨hg.block b hb (fun e => hf (hF b e.symm)), fun h => h.elim hf (fun h => by omega)⟩⟩
  have hml : i < μ.length := by rw [st.len]; exact hil
  have hkeep : Keep σ.length σ μ (σ.set i (.row E sz (n + m) (cs ++ ys))) (μ.set i v') := by
    refine ⟨fun j T1 c1 u1 hj a1 a2 => ?_, fun j E1 s1 m1 c1 u1 hj a1 a2 => ?_⟩
    · have e : i ≠ j := by rintro rfl; rw [hi] at a1; simp at a1
      exact ⟨⟨c1, by rw [List.getElem?_set_ne e]; exact a1⟩, by rw [List.getElem?_set_ne e]; exact a2⟩
    · by_cases e : i = j
      · subst e
        rw [hi] at a1
        simp at a1
        obtain ⟨rfl, rfl, rfl, rfl⟩ := a1
        rw [hμ] at a2
        obtain rfl := Option.some.inj a2
        exact ⟨n + m, cs ++ ys, v', List.getElem?_set_self hj, List.getElem?_set_self hml, by omega, fun e => hsame (by omega)⟩
      · exact ⟨m1, c1, u1, by rw [List.getElem?_set_ne e]; exact a1, by rw [List.getElem?_set_ne e]; exact a2, Nat.le_refl _, fun _ => rfl⟩
  have hslice : ∃ A cap, v' = .slice A (n + m) cap := by
    rcases ho'.2 with ⟨rfl, e⟩ | ⟨g, cap, cur, rfl, _⟩
    · exact ⟨none, 0, by rw [e]⟩
    · exact ⟨_, _, rfl⟩
  obtain ⟨A, cap, hA⟩ := hslice
  obtain ⟨g1, g2, g3, g4⟩ := St.set (ob' := .row E sz (n + m) (cs ++ ys)) (h' := v') (F' := F') (w' := w') st hi hμ hg.os hg.tape hg.output hsz
    (fun b hb hne => hg.block b hb (fun e => hne (by rw [hblk, e]))) (fun _ h => .inl h) (fun b hb => hb.imp id (fun h => ⟨h.1, hlt b h.2⟩))
    (fun b hb => by rw [hblk'] at hb; rw [hblk]; exact hnew b hb) hkeep
    ⟨vs ++ news, ho', DRs.append (DRs.mem hm hd) (DRs.mem hm hys), fun b e => by
      rcases hnew b e with h1 | h1
      · exact .inl (hF b h1)
      · exact .inr ⟨h1, e⟩⟩
  exact ⟨v', w', F', _, hr, g1, g2, g3, ⟨E, sz, n + m, cs ++ ys, v', A, cap, List.getElem?_set_self hil, List.getElem?_set_self hml, hA, Nat.le_refl _, fun _ => rfl⟩⟩

/-- A nil slice becomes an own row: nothing moves. -/
theorem nil_row (E sz : Nat) (st : St k B F σ μ w) :
    St k B F (σ ++ [.row E sz 0 []]) (μ ++ [.slice none 0 0]) w ∧ Stp k B F σ μ w F (σ ++ [.row E sz 0 []]) (μ ++ [.slice none 0 0]) w ∧ Keep σ.length σ μ (σ ++ [.row E sz 0 []]) (μ ++ [.slice none 0 0]) ∧
      VR F (σ ++ [.row E sz 0 []]) (μ ++ [.slice none 0 0]) w (.o σ.length 0) (.slice none 0 0) := by
  obtain ⟨g1, g2, g3, _⟩ := St.push (ob' := .row E sz 0 []) (h' := .slice none 0 0) (F' := F) (w' := w) st rfl rfl rfl (Nat.le_refl _) (fun _ _ => rfl) (fun _ h => h) (fun _ h => .inl h)
    (fun b hb => by simp [blk] at hb) ⟨[], World.ownsRow_nil _ _ _ _, by simp [DRs], fun b hb => by simp [Value.ownBlock] at hb⟩
  exact ⟨g1, g2, g3, ⟨E, sz, 0, [], .slice none 0 0, none, 0, by simp, by rw [← st.len]; simp, rfl, Nat.le_refl _, fun _ => rfl⟩⟩

theorem ones_map : ∀ ys : List D, onesD ys = true → ones (ys.map .d) = true
  | [], _ => rfl
  | y :: ys, h => by
    simp only [onesD, Bool.and_eq_true] at h
    simp only [List.map_cons, ones, Bool.and_eq_true]
    exact ⟨by have := h.1; cases y <;> simp_all [V.one, D.one], ones_map ys h.2⟩

theorem DRs.ofV : ∀ (ys : List D) (vs : List Value), VRs F σ μ w (ys.map .d) vs → DRs F w ys vs
  | [], vs, h => by simpa [VRs, DRs] using h
  | y :: ys, vs, h => by
    simp only [List.map_cons, VRs, VR] at h
    obtain ⟨v, us, rfl, h1, h2⟩ := h
    exact ⟨v, us, rfl, h1, DRs.ofV ys us h2⟩

theorem setAt_under {α : Type} : ∀ (ys xs : List α) (off n : Nat), off + ys.length ≤ n → (setAt xs off ys).take n = setAt (xs.take n) off ys
  | [], _, _, _, _ => rfl
  | y :: ys, xs, off, n, h => by
    simp only [setAt, List.length_cons] at h ⊢
    rw [setAt_under ys _ _ n (by omega), List.take_set]

/-- A store into an own row. -/
theorem store_row {i off t E sz n : Nat} {cs ys : List D} {x : V} {p v : Value} (st : St k B F σ μ w) (hi : σ[i]? = some (.row E sz n cs)) (hp : VR F σ μ w (.e i n off) p) (hv : VR F σ μ w x v)
    (hx : flat x = ys.map .d) (hw : wid P t = some ys.length) (hfit : off + ys.length ≤ cs.length) (ho : onesD ys = true) :
    ∃ w', (Instr.storeAt t p v).run P w = .ok () w' ∧ St k B F (σ.set i (.row E sz n (setAt cs off ys))) μ w' ∧ Stp k B F σ μ w F (σ.set i (.row E sz n (setAt cs off ys))) μ w' ∧
      Keep σ.length σ μ (σ.set i (.row E sz n (setAt cs off ys))) μ := by
  simp only [VR] at hp
  obtain ⟨E', sz', m, cs', h, b, h1, h2, rfl, h3, h4⟩ := hp
  rw [hi] at h1
  simp at h1
  obtain ⟨rfl, rfl, rfl, rfl⟩ := h1
  have hb := h4 rfl
  obtain ⟨vs, hown, hd, hF⟩ := st.obj i _ _ hi h2
  have hf := flat_ok hv (by rw [hx]; exact ones_map ys ho)
  rw [hx] at hf
  have hfd := DRs.ofV ys v.cells.toList hf
  have hlen : v.cells.size = ys.length := by rw [← Array.length_toList]; exact DRs.length hfd
  rcases hown.2 with ⟨rfl, _⟩ | ⟨g, cap, cur, rfl, hg, hh, hnc, hcm, hcs, htake⟩
  · simp [Value.ownBlock] at hb
  · simp [Value.ownBlock] at hb
    subst hb
    have hvl : vs.length = cs.length := DRs.length hd
    have hvn : vs.length = n * sz := hown.1
    have hncs : n * sz ≤ cap * sz := Nat.mul_le_mul_right _ hnc
    have hrun := run_store (P := P) (t := t) (o := off) (v := v) hh (by rw [hw, hlen]) (by omega) (onesD_ok _ _ hfd ho)
    obtain ⟨r1, r2, r3, r4, r5⟩ := setCells_rest g v.cells.toList off w
    obtain ⟨arr', g1, g2⟩ := heap_setCells v.cells.toList off w cur hh
    have hil : i < σ.length := (List.getElem?_eq_some_iff.1 hi).1
    have hμ : μ.set i (.slice (some ⟨g, 0, none⟩) n cap) = μ := by
      apply List.ext_getElem?
      intro j
      by_cases e : i = j
      · subst e; rw [List.getElem?_set_self (by rw [st.len]; exact hil), h2]
      · rw [List.getElem?_set_ne e]
    have hkeep : Keep σ.length σ μ (σ.set i (.row E sz n (setAt cs off ys))) μ := by
      refine ⟨fun j T1 c1 u hj a1 a2 => ⟨⟨c1, ?_⟩, a2⟩, fun j E1 s1 m1 c1 u hj a1 a2 => ?_⟩
      · have e : i ≠ j := by rintro rfl; rw [hi] at a1; simp at a1
        rw [List.getElem?_set_ne e]; exact a1
      · by_cases e : i = j
        · subst e
          rw [hi] at a1
          simp at a1
          obtain ⟨rfl, rfl, rfl, rfl⟩ := a1
          exact ⟨n, _, u, List.getElem?_set_self hj, a2, Nat.le_refl _, fun _ => rfl⟩
        · exact ⟨m1, c1, u, by rw [List.getElem?_set_ne e]; exact a1, a2, Nat.le_refl _, fun _ => rfl⟩
    have hm : Mem F w F (w.setCells g off v.cells.toList) := ⟨Nat.le_of_eq r4.symm, fun c hc hFc => ⟨r5 c (fun e => hFc (e ▸ hF g rfl)), hFc⟩⟩
    have hasz : arr'.size = cur.size := by rw [← Array.length_toList, g2, setAt_length, Array.length_toList]
    have htk : arr'.toList.take (n * sz) = setAt vs off v.cells.toList := by
      rw [g2, setAt_under _ _ _ _ (by rw [Array.length_toList, hlen, ← hvn, hvl]; exact hfit), htake]
    have := St.set (ob' := .row E sz n (setAt cs off ys)) (h' := .slice (some ⟨g, 0, none⟩) n cap) (F' := F) (w' := w.setCells g off v.cells.toList) st hi h2 r1 r2 r3 (Nat.le_of_eq r4.symm)
      (fun c _ hc => r5 c (fun e => hc (by rw [e]; rfl))) (fun _ h => h) (fun _ h => .inl h) (fun c hc => .inl hc) (by rw [hμ]; exact hkeep)
      (by
        rw [hμ]
        refine ⟨setAt vs off v.cells.toList, ⟨by rw [setAt_length]; exact hvn, .inr ⟨g, cap, arr', rfl, hg, g1, hnc, hcm, by rw [hasz]; exact hcs, htk⟩⟩, ?_, hF⟩
        exact DRs.setAt off (DRs.mem hm hd) (DRs.mem hm hfd))
    rw [hμ] at this
    exact ⟨_, hrun, this.1, this.2.1, this.2.2.1⟩
end
end Go.AW
