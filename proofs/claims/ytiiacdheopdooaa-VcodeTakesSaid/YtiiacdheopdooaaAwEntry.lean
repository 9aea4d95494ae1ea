/-
  The calculus: what an input's memory holds, as data.
-/
import Derived.Test.YtiiacdheopdooaaAwCall
import Derived.Below
namespace Go.AW
open Go Go.RowKit

def Rd {H : Type} (enc : TypeId × Value → H) (P : Program) (w : World) (t : TypeId) (S : List D → Prop) : Prop :=
  ∀ fuel cs d ps, DataW.trod enc P w 0 (fun _ => true) true fuel t cs = some (d, ps) → ∃ xs, S xs ∧ DRs (fun _ => False) w xs cs

section
variable {H : Type} {enc : TypeId × Value → H} {P : Program} {w : World} {t : TypeId}

theorem Rd.mono {S S' : List D → Prop} (h : Rd enc P w t S) (hs : ∀ xs, S xs → S' xs) : Rd enc P w t S' := fun fuel cs d ps e => by
  obtain ⟨xs, h1, h2⟩ := h fuel cs d ps e
  exact ⟨xs, hs xs h1, h2⟩

theorem Rd.int {k : IntKind} (hu : P.underlying t = some (.int k)) : Rd enc P w t fun xs => ∃ n, xs = [.s (.int k n)] ∧ (Lit.int k n).wf = true := by
  intro fuel cs d ps h
  cases fuel with
  | zero => simp [DataW.trod] at h
  | succ f =>
    unfold DataW.trod at h
    rw [hu] at h
    rcases cs with _ | ⟨c, _ | ⟨c2, cs⟩⟩
    · simp at h
    · cases c <;> simp at h
      rename_i k' n
      obtain ⟨⟨rfl, hw⟩, _⟩ := h
      exact ⟨_, ⟨n, rfl, hw⟩, by simp [DRs, DR]⟩
    · simp at h
theorem Rd.bool (hu : P.underlying t = some .bool) : Rd enc P w t fun xs => ∃ b, xs = [.s (.bool b)] := by
  intro fuel cs d ps h
  cases fuel with
  | zero => simp [DataW.trod] at h
  | succ f =>
    unfold DataW.trod at h
    rw [hu] at h
    rcases cs with _ | ⟨c, _ | ⟨c2, cs⟩⟩
    · simp at h
    · cases c <;> simp at h
      rename_i b
      exact ⟨_, ⟨b, rfl⟩, by simp [DRs, DR]⟩
    · simp at h
theorem Rd.str (hu : P.underlying t = some .string) : Rd enc P w t fun xs => ∃ l : List UInt8, xs = [.s (.string ⟨l.toArray⟩)] ∧ l.length ≤ maxLen := by
  intro fuel cs d ps h
  cases fuel with
  | zero => simp [DataW.trod] at h
  | succ f =>
    unfold DataW.trod at h
    rw [hu] at h
    rcases cs with _ | ⟨c, _ | ⟨c2, cs⟩⟩
    · simp at h
    · cases c with
      | string s =>
        simp only at h
        split at h
        · rename_i hs
          exact ⟨_, ⟨s.data.toList, rfl, hs⟩, by simp [DRs, DR]⟩
        · cases h
      | _ => cases h
    · simp at h

theorem DRs.append_of {F : Nat → Prop} : ∀ {xs ys : List D} {us vs : List Value}, DRs F w xs us → DRs F w ys vs → DRs F w (xs ++ ys) (us ++ vs)
  | [], ys, us, vs, h1, h2 => by simp only [DRs] at h1; subst h1; exact h2
  | x :: xs, ys, us, vs, h1, h2 => by
    simp only [DRs] at h1
    obtain ⟨v, us', rfl, h3, h4⟩ := h1
    exact ⟨v, us' ++ vs, rfl, h3, DRs.append_of h4 h2⟩

theorem mapM_some {α β : Type} {f : α → Option β} : ∀ {l : List α} {r : List β}, l.mapM f = some r → r.length = l.length ∧ ∀ (i : Nat) (a : α), l[i]? = some a → ∃ b, f a = some b ∧ r[i]? = some b
  | [], r, h => by simp at h; subst h; exact ⟨rfl, fun i a h => by simp at h⟩
  | x :: l, r, h => by
    rw [List.mapM_cons] at h
    cases hx : f x with
    | none => rw [hx] at h; simp at h
    | some b =>
      rw [hx] at h
      cases hl : l.mapM f with
      | none => rw [hl] at h; simp at h
      | some bs =>
        rw [hl] at h
        simp at h
        subst h
        obtain ⟨h1, h2⟩ := mapM_some hl
        refine ⟨by simp [h1], fun i a ha => ?_⟩
        cases i with
        | zero => simp at ha; subst ha; exact ⟨b, hx, rfl⟩
        | succ i => simp at ha ⊢; exact h2 i a ha

theorem addr_add_add (a : Addr) (m j : Nat) : (a.add m).add j = a.add (m + j) := by
  unfold Addr.add
  by_cases h1 : m = 0
  · subst h1; simp
  · by_cases h2 : j = 0
    · subst h2; simp
    · rw [if_neg h1, if_neg h2, if_neg (by omega)]; simp [Nat.add_assoc]
theorem cells_some {a : Addr} {n : Nat} {vs : List Value} (h : w.cells? 0 a n = some vs) : vs.length = n ∧ ∀ j v, vs[j]? = some v → w.cell? (a.add j) = some v := by
  unfold World.cells? at h
  rw [if_pos (Nat.zero_le _)] at h
  obtain ⟨h1, h2⟩ := mapM_some h
  rw [List.length_range] at h1
  refine ⟨h1, fun j v hj => ?_⟩
  have hjn : j < n := by rw [← h1]; exact (List.getElem?_eq_some_iff.1 hj).1
  obtain ⟨b, hb, hr⟩ := h2 j j (by rw [List.getElem?_range hjn])
  rw [hj] at hr
  obtain rfl := Option.some.inj hr
  exact hb
theorem cell_spot {a : Addr} {v : Value} (h : w.cell? a = some v) : a.block < w.heap.size ∧ a.spot = none := by
  unfold World.cell? at h
  split at h
  · rename_i c t f hh
    refine ⟨(Array.getElem?_eq_some_iff.1 hh).1, ?_⟩
    cases hs : a.spot with
    | none => rfl
    | some x => rw [hs] at h; simp at h
  · cases h

/-- A slice's elements, one behind the other. -/
theorem Rd.slice {e sz : Nat} {S : List D → Prop} (hu : P.underlying t = some (.slice e)) (hsz : P.cellsOf e = sz) (h0 : 0 < sz) (hS : Rd enc P w e S) :
    Rd enc P w t fun xs => ∃ yss : List (List D), (∀ ys ∈ yss, S ys ∧ ys.length = sz) ∧ xs = [.l yss.length yss.flatten] ∧ yss.length ≤ maxLen := by
  intro fuel cs d ps h
  cases fuel with
  | zero => simp [DataW.trod] at h
  | succ f =>
    unfold DataW.trod at h
    rw [hu] at h
    rcases cs with _ | ⟨c, _ | ⟨c2, cs⟩⟩
    · simp at h
    · cases c with
      | slice A len cap =>
        cases A with
        | none =>
          cases len <;> cases cap <;> simp at h
          exact ⟨_, ⟨[], by simp, rfl, Nat.zero_le _⟩, by simp [DRs, DR]⟩
        | some a =>
          simp only [hsz] at h
          split at h
          · rename_i hc
            obtain ⟨_, hc1, hc2⟩ := hc
            cases hm : (List.range len).mapM (fun i => (w.cells? 0 (a.add (i * sz)) sz).bind (DataW.trod enc P w 0 (fun _ => true) true f e)) with
            | none => rw [hm] at h; simp at h
            | some el =>
              obtain ⟨hl, hg⟩ := mapM_some hm
              rw [List.length_range] at hl
              have hel : ∀ i, i < len → ∃ vs ys, w.cells? 0 (a.add (i * sz)) sz = some vs ∧ S ys ∧ DRs (fun _ => False) w ys vs := by
                intro i hi
                obtain ⟨b, hb, _⟩ := hg i i (by rw [List.getElem?_range hi])
                cases hv : w.cells? 0 (a.add (i * sz)) sz with
                | none => rw [hv] at hb; simp at hb
                | some vs =>
                  rw [hv] at hb
                  simp only [Option.bind_some] at hb
                  obtain ⟨ys, h1, h2⟩ := hS f vs b.1 b.2 hb
                  exact ⟨vs, ys, rfl, h1, h2⟩
              have hpre : ∀ m, m ≤ len → ∃ (yss : List (List D)) (vs : List Value), yss.length = m ∧ (∀ ys ∈ yss, S ys ∧ ys.length = sz) ∧ vs.length = m * sz ∧ DRs (fun _ => False) w yss.flatten vs ∧ ∀ j v, vs[j]? = some v → w.cell? (a.add j) = some v := by
                intro m
                induction m with
                | zero => intro _; exact ⟨[], [], rfl, by simp, by simp, by simp [DRs], by simp⟩
                | succ m ih =>
                  intro hm
                  obtain ⟨yss, vs, h1, h2, h3, h4, h5⟩ := ih (by omega)
                  obtain ⟨us, ys, g1, g2, g3⟩ := hel m (by omega)
                  obtain ⟨k1, k2⟩ := cells_some g1
                  refine ⟨yss ++ [ys], vs ++ us, by simp [h1], ?_, by simp [h3, k1, Nat.succ_mul], by simpa using DRs.append_of h4 g3, fun j v hj => ?_⟩
                  · intro zs hz
                    rcases List.mem_append.1 hz with hz | hz
                    · exact h2 zs hz
                    · simp at hz; subst hz
                      exact ⟨g2, by rw [← DRs.length g3, k1]⟩
                  · by_cases hjv : j < vs.length
                    · rw [List.getElem?_append_left hjv] at hj
                      exact h5 j v hj
                    · rw [List.getElem?_append_right (by omega)] at hj
                      have := k2 (j - vs.length) v hj
                      rw [addr_add_add, h3, show m * sz + (j - m * sz) = j by omega] at this
                      exact this
              obtain ⟨yss, vs, h1, h2, h3, h4, h5⟩ := hpre len (Nat.le_refl _)
              refine ⟨[.l yss.length yss.flatten], ⟨yss, h2, rfl, by omega⟩, ?_⟩
              refine ⟨_, _, rfl, ?_, rfl⟩
              rw [h1]
              refine ⟨some a, cap, rfl, hc1, ?_⟩
              rcases Nat.eq_zero_or_pos len with h0' | hpos
              · subst h0'
                exact .inl ⟨by rw [List.length_eq_zero_iff.1 h1]; rfl, rfl⟩
              · have hv0 : ∃ v, vs[0]? = some v := ⟨vs[0]'(by rw [h3]; exact Nat.mul_pos hpos h0), by rw [List.getElem?_eq_getElem]⟩
                obtain ⟨v0, hv0⟩ := hv0
                have hc0 := h5 0 v0 hv0
                obtain ⟨hb, hs⟩ := cell_spot hc0
                obtain ⟨b, o, sp⟩ := a
                simp [Addr.add] at hb hs
                subst hs
                exact .inr ⟨b, o, vs, rfl, hb, fun h => h, fun j v hj => by have := h5 j v hj; rw [Addr.add_mid] at this; exact this, h4⟩
          · cases h
      | _ => cases h
    · simp at h

def layF (P : Program) : List Field → Nat → Nat → Bool
  | [], off, tot => decide (off = tot)
  | f :: fs, off, tot => decide (f.offset = off) && layF P fs (off + P.cellsOf f.type) tot
def RdF {H : Type} (enc : TypeId × Value → H) (P : Program) (w : World) : List Field → List (List D → Prop) → Prop
  | [], [] => True
  | f :: fs, S :: Ss => Rd enc P w f.type S ∧ RdF enc P w fs Ss
  | _, _ => False
def catS : List (List D → Prop) → List D → Prop
  | [], xs => xs = []
  | S :: Ss, xs => ∃ a b, S a ∧ catS Ss b ∧ xs = a ++ b

theorem RdF.read {fuel tot : Nat} {cs : List Value} (hc : cs.length = tot) : ∀ {fs : List Field} {Ss : List (List D → Prop)} {off : Nat} {r : List (DataW H × List MemPlace)}, layF P fs off tot = true → RdF enc P w fs Ss →
    fs.mapM (fun f => DataW.trod enc P w 0 (fun _ => true) true fuel f.type ((cs.drop f.offset).take (P.cellsOf f.type))) = some r → ∃ xs, catS Ss xs ∧ DRs (fun _ => False) w xs (cs.drop off)
  | [], [], off, r, hl, _, _ => by
    simp only [layF, decide_eq_true_eq] at hl
    exact ⟨[], rfl, by simp only [DRs]; exact List.drop_eq_nil_of_le (by omega)⟩
  | [], S :: Ss, off, r, hl, h, _ => h.elim
  | f :: fs, [], off, r, hl, h, _ => h.elim
  | f :: fs, S :: Ss, off, r, hl, h, hm => by
    simp only [layF, Bool.and_eq_true, decide_eq_true_eq] at hl
    rw [List.mapM_cons] at hm
    cases hx : DataW.trod enc P w 0 (fun _ => true) true fuel f.type ((cs.drop f.offset).take (P.cellsOf f.type)) with
    | none => rw [hx] at hm; simp at hm
    | some b =>
      rw [hx] at hm
      cases hr : fs.mapM (fun f => DataW.trod enc P w 0 (fun _ => true) true fuel f.type ((cs.drop f.offset).take (P.cellsOf f.type))) with
      | none => rw [hr] at hm; simp at hm
      | some bs =>
        obtain ⟨xs, h1, h2⟩ := h.1 fuel _ b.1 b.2 hx
        obtain ⟨ys, h3, h4⟩ := RdF.read hc hl.2 h.2 hr
        refine ⟨xs ++ ys, ⟨xs, ys, h1, h3, rfl⟩, ?_⟩
        rw [hl.1] at h2
        have := DRs.append_of h2 h4
        rw [← List.drop_drop, List.take_append_drop] at this
        exact this

/-- A struct's fields, one behind the other. -/
theorem Rd.struct {fs : Array Field} {Ss : List (List D → Prop)} (hu : P.underlying t = some (.struct fs)) (hl : layF P fs.toList 0 (P.cellsOf t) = true) (hF : RdF enc P w fs.toList Ss) : Rd enc P w t (catS Ss) := by
  intro fuel cs d ps h
  cases fuel with
  | zero => simp [DataW.trod] at h
  | succ f =>
    unfold DataW.trod at h
    rw [hu] at h
    simp only at h
    split at h
    · rename_i hc
      cases hm : fs.toList.mapM (fun g => DataW.trod enc P w 0 (fun _ => true) true f g.type ((cs.drop g.offset).take (P.cellsOf g.type))) with
      | none => rw [hm] at h; simp at h
      | some r =>
        have := RdF.read hc hl hF hm
        simpa using this
    · cases h

theorem St.law (w : World) : St 0 w.heap.size (fun _ => False) [] [] w :=
  ⟨rfl, fun i ob h h1 => by simp at h1, fun i j ob h ob' h' b h1 => by simp at h1, fun b h => h.elim, Nat.le_refl _⟩

/-- A law that is true: as the row asks it. -/
theorem AC.law {f : FuncId} {args : List V} {vals : List Value} {Q : V → List Ob → Prop} (h : AC P f args [] Q) (hq : ∀ x σ, Q x σ → x = bv true) (hv : VRs (fun _ => False) [] [] w args vals) :
    Calls P f vals.toArray w fun e w' => e = .returned (.bool true) ∧ Below w.heap.size w w' :=
  (h.2 (fun _ => False) [] w vals (St.law w) hv).mono fun e w' ⟨v, x, F', σ', μ', he, q, st, _, hx⟩ => by
    rw [hq x σ' q] at hx
    simp only [VR, DR] at hx
    subst hx
    refine ⟨he, st.os, st.tape, st.output, st.size, fun k hk => st.mem k hk ?_⟩
    rintro ⟨i, ob, u, h1, _⟩
    simp at h1
end
end Go.AW
