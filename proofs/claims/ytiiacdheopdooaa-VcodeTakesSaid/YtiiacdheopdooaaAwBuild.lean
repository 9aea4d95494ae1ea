/-
  The calculus: structs and slices put together out of their parts.
-/
import Derived.Test.YtiiacdheopdooaaAwRow
namespace Go.AW
open Go

theorem foldl_setAt : ∀ (l : List Value) (k off : Nat) (cs : Array Value), ((l.zipIdx k).foldl (fun (cs : Array Value) (p : Value × Nat) => cs.setIfInBounds (off + p.2) p.1) cs).toList = setAt cs.toList (off + k) l
  | [], _, _, _ => rfl
  | v :: l, k, off, cs => by
    simp only [List.zipIdx_cons, List.foldl_cons, setAt]
    rw [foldl_setAt l (k + 1) off]
    simp [Nat.add_assoc]

theorem foldl_setAt' (v : Array Value) (off : Nat) (cs : Array Value) : (v.zipIdx.foldl (fun cs (c, j) => cs.setIfInBounds (off + j) c) cs).toList = setAt cs.toList off v.toList := by
  have := foldl_setAt v.toList 0 off cs
  rw [Nat.add_zero] at this
  rw [← this, ← Array.foldl_toList, Array.toList_zipIdx]

def fillV (zs : List V) (pl : List (Nat × Nat)) : List (Nat × V) → Option (List V)
  | [] => some zs
  | (i, x) :: r => match pl[i]? with
    | some (off, sz) => if (flat x).length = sz ∧ off + sz ≤ zs.length ∧ ones (flat x) = true then fillV (setAt zs off (flat x)) pl r else none
    | none => none

section
variable {P : Program} {F : Nat → Prop} {σ : List Ob} {μ : List Value} {w : World}

def VRp (F : Nat → Prop) (σ : List Ob) (μ : List Value) (w : World) : List (Nat × V) → List (Nat × Value) → Prop
  | [], ps => ps = []
  | (i, x) :: r, ps => ∃ v qs, ps = (i, v) :: qs ∧ VR F σ μ w x v ∧ VRp F σ μ w r qs

theorem fillV_ok (place : Nat → Option (Nat × Nat)) (pl : List (Nat × Nat)) (hp : ∀ i, place i = pl[i]?) : ∀ (parts : List (Nat × V)) (zs : List V) (ps : List (Nat × Value)) (cells : Array Value) (cs : List V),
    fillV zs pl parts = some cs → VRp F σ μ w parts ps → VRs F σ μ w zs cells.toList → ∃ out, Instr.fill place cells ps = some out ∧ VRs F σ μ w cs out.toList
  | [], zs, ps, cells, cs, h, hq, hz => by
    simp only [VRp] at hq
    subst hq
    simp only [fillV, Option.some.injEq] at h
    subst h
    exact ⟨cells, rfl, hz⟩
  | (i, x) :: r, zs, ps, cells, cs, h, hq, hz => by
    simp only [VRp] at hq
    obtain ⟨v, qs, rfl, hv, hr⟩ := hq
    simp only [fillV] at h
    split at h
    · rename_i off sz hpl
      split at h
      · rename_i hc
        obtain ⟨h1, h2, h3⟩ := hc
        have hf := flat_ok hv h3
        have hl : v.cells.size = sz := by rw [← Array.length_toList, VRs.length hf, h1]
        have hcl : cells.size = zs.length := by rw [← Array.length_toList]; exact VRs.length hz
        obtain ⟨out, g1, g2⟩ := fillV_ok place pl hp r _ qs (v.cells.zipIdx.foldl (fun cs (c, j) => cs.setIfInBounds (off + j) c) cells) cs h hr (by
          rw [foldl_setAt']
          exact VRs.setAt off hz hf)
        refine ⟨out, ?_, g2⟩
        simp only [Instr.fill, hp, hpl]
        rw [if_neg (by simp [hl]; omega)]
        exact g1
      · simp at h
    · simp at h

/-- A struct type's zero cells, and where its fields lie. -/
def plc (P : Program) (t : TypeId) : Option (List Value × List (Nat × Nat)) :=
  match P.info? t, P.underlying t with
  | some it, some (.struct fields) =>
    match it.zero, fields.toList.mapM (fun f => (P.info? f.type).map fun i => (f.offset, i.size)) with
    | some z, some places => some (z.cells.toList, places)
    | _, _ => none
  | _, _ => none

theorem run_build_V {t : TypeId} {zs : List Value} {pl : List (Nat × Nat)} {parts : List (Nat × V)} {ps : List (Nat × Value)} {cs : List V} (hp : plc P t = some (zs, pl))
    (h : fillV (zs.map fun v => .d (.s v)) pl parts = some cs) (hq : VRp F σ μ w parts ps) : ∃ v, (Instr.build t ps.toArray).run P w = .ok v w ∧ VR F σ μ w (.a cs) v := by
  unfold plc at hp
  split at hp
  · rename_i it fields hi hu
    split at hp
    · rename_i z places hz hpl
      simp at hp
      obtain ⟨rfl, rfl⟩ := hp
      obtain ⟨out, g1, g2⟩ := fillV_ok (places.toArray[·]?) places (fun i => by simp) parts _ ps z.cells cs h hq (cvs_ok _)
      simp only [List.getElem?_toArray] at g1
      exact ⟨_, run_build w t ps.toArray out (by simp [Program.built, hi, hu, hz, hpl]; exact g1), ⟨out, rfl, g2⟩⟩
    · simp at hp
  · simp at hp

def buildCells (sz : Nat) : Nat → List (Nat × V) → Option (List V)
  | _, [] => some []
  | i, (j, x) :: r => if j = i ∧ (flat x).length = sz ∧ ones (flat x) = true then (buildCells sz (i + 1) r).map (flat x ++ ·) else none

theorem setAt_take {α : Type} : ∀ (ys xs : List α) (off : Nat), (setAt xs off ys).take off = xs.take off
  | [], _, _ => rfl
  | y :: ys, xs, off => by
    simp only [setAt]
    have h := setAt_take ys (xs.set off y) (off + 1)
    have : ((setAt (xs.set off y) (off + 1) ys).take (off + 1)).take off = ((xs.set off y).take (off + 1)).take off := by rw [h]
    simp only [List.take_take, Nat.min_eq_left (Nat.le_succ off)] at this
    rw [this, List.take_set_of_le (Nat.le_refl _)]

theorem setAt_mid {α : Type} : ∀ (ys xs : List α) (off : Nat), off + ys.length ≤ xs.length → (setAt xs off ys).take (off + ys.length) = xs.take off ++ ys
  | [], xs, off, _ => by simp [setAt]
  | y :: ys, xs, off, h => by
    simp only [setAt, List.length_cons] at h ⊢
    have := setAt_mid ys (xs.set off y) (off + 1) (by simp; omega)
    rw [show off + (ys.length + 1) = off + 1 + ys.length from by omega, this]
    rw [List.take_succ_eq_append_getElem (by simp; omega)]
    simp [List.take_set_of_le]

theorem buildCells_ok (sz : Nat) : ∀ (parts : List (Nat × V)) (i : Nat) (ps : List (Nat × Value)) (cells : Array Value) (cs : List V), buildCells sz i parts = some cs → VRp F σ μ w parts ps →
    cells.size = (i + parts.length) * sz → ∃ out vs, Instr.fill (fun i => some (i * sz, sz)) cells ps = some out ∧ out.toList = cells.toList.take (i * sz) ++ vs ∧ VRs F σ μ w cs vs
  | [], i, ps, cells, cs, h, hq, hc => by
    simp only [VRp] at hq
    subst hq
    simp only [buildCells, Option.some.injEq] at h
    subst h
    have hl : cells.toList.length ≤ i * sz := by simp at hc ⊢; omega
    exact ⟨cells, [], rfl, by rw [List.take_of_length_le hl]; simp, rfl⟩
  | (j, x) :: r, i, ps, cells, cs, h, hq, hc => by
    simp only [VRp] at hq
    obtain ⟨v, qs, rfl, hv, hr⟩ := hq
    simp only [buildCells] at h
    split at h
    · rename_i hcond
      obtain ⟨rfl, h1, h3⟩ := hcond
      have hf := flat_ok hv h3
      have hl : v.cells.size = sz := by rw [← Array.length_toList, VRs.length hf, h1]
      have hl' : v.cells.toList.length = sz := by rw [Array.length_toList, hl]
      cases hb : buildCells sz (j + 1) r with
      | none => simp [hb] at h
      | some cs' =>
        simp [hb] at h
        subst h
        have hfit : j * sz + sz ≤ cells.size := by
          rw [hc, ← Nat.succ_mul]
          exact Nat.mul_le_mul_right _ (by simp)
        have hsz : (v.cells.zipIdx.foldl (fun cs (c, k) => cs.setIfInBounds (j * sz + k) c) cells).size = cells.size := by
          rw [← Array.length_toList, foldl_setAt', setAt_length, Array.length_toList]
        obtain ⟨out, vs, g1, g2, g3⟩ := buildCells_ok sz r (j + 1) qs (v.cells.zipIdx.foldl (fun cs (c, k) => cs.setIfInBounds (j * sz + k) c) cells) cs' hb hr (by rw [hsz, hc]; simp; congr 1; omega)
        refine ⟨out, v.cells.toList ++ vs, ?_, ?_, VRs.append hf g3⟩
        · simp only [Instr.fill]
          rw [if_neg (by simp [hl]; omega)]
          exact g1
        · rw [g2, foldl_setAt', Nat.succ_mul]
          have := setAt_mid v.cells.toList cells.toList (j * sz) (by rw [hl', Array.length_toList]; exact hfit)
          rw [hl'] at this
          rw [this, List.append_assoc]
    · simp at h

theorem buildCells_length (sz : Nat) : ∀ (parts : List (Nat × V)) (i : Nat) (cs : List V), buildCells sz i parts = some cs → cs.length = parts.length * sz
  | [], i, cs, h => by simp only [buildCells, Option.some.injEq] at h; subst h; simp
  | (j, x) :: r, i, cs, h => by
    simp only [buildCells] at h
    split at h
    · rename_i hc
      cases hb : buildCells sz (i + 1) r with
      | none => simp [hb] at h
      | some cs' =>
        simp [hb] at h
        subst h
        rw [List.length_append, buildCells_length sz r (i + 1) cs' hb, hc.2.1]
        simp [Nat.add_mul, Nat.add_comm]
    · simp at h

/-- A slice literal: its cells. -/
theorem run_buildSlice_V {t e sz by_ : Nat} {parts : List (Nat × V)} {ps : List (Nat × Value)} {cs : List V} (ht : sliT P t = some (e, sz, by_)) (h : buildCells sz 0 parts = some cs) (hq : VRp F σ μ w parts ps)
    (hn : parts.length * sz ≤ 16777216) :
    ∃ arr : Array Value, (Instr.buildSlice t parts.length ps.toArray).run P w = .ok (.slice (some ⟨w.heap.size, 0, none⟩) parts.length parts.length) (w.alloc (.cells arr e)) ∧ VRs F σ μ w cs arr.toList ∧ arr.size = parts.length * sz := by
  obtain ⟨hu, i, z, hi, hz, hs, hb, hzs, hsz, _⟩ := sliT_ok ht
  subst hs
  have hlen : ∀ arr : Array Value, VRs F σ μ w cs arr.toList → arr.size = parts.length * i.size := fun arr ha => by
    rw [← Array.length_toList, VRs.length ha, buildCells_length _ _ _ _ h]
  cases parts with
  | nil =>
    simp only [VRp] at hq
    subst hq
    simp only [buildCells, Option.some.injEq] at h
    subst h
    refine ⟨#[], ?_, rfl, by simp⟩
    simp [Instr.buildSlice, run_underlying hu, sizeOf, typeInfo, hi, newRow, Instr.fill]
    congr 2
    apply Array.ext'
    simp
  | cons p r =>
    generalize hp : (p :: r : List (Nat × V)) = parts at *
    have h0 : ¬ (parts.length * i.size = 0) := by
      have : 0 < parts.length := by rw [← hp]; simp
      have := Nat.mul_pos this hsz
      omega
    obtain ⟨out, vs, g1, g2, g3⟩ := buildCells_ok (F := F) (σ := σ) (μ := μ) (w := w) i.size parts 0 ps ((Array.range (parts.length * i.size)).map (fun k => z.cells[k % z.cells.size]!)) cs h hq (by simp)
    simp at g2
    have h24 : ¬ (16777216 < parts.length * i.size) := by omega
    rw [← g2] at g3
    refine ⟨out, ?_, g3, hlen out g3⟩
    simp [Instr.buildSlice, run_underlying hu, sizeOf, typeInfo, zeroValue, hi, hz, h24, newRow]
    rw [if_neg h0, g1]
    simp
end
end Go.AW
