/-
  The calculus: a statement whose order Go leaves open: its operations in the order of the text, the ones that only look being right whatever the others have done.
-/
import Derived.Test.YtiiacdheopdooaaAwFrame
namespace Go.AW
open Go

set_option linter.unusedVariables false
set_option linter.unusedSimpArgs false

/-- What an operation waits for, and what that waits for. -/
def anc (ops : Array Oper) : Nat → Nat → List Nat
  | 0, _ => []
  | n + 1, i => match ops[i]? with
    | some o => (o.after.toList.filter (Region.binds .any)).flatMap fun e => e.on :: anc ops n e.on
    | none => []

def writes (ops : Array Oper) (j : Nat) (t : Tmp) : Bool := ((ops[j]?).bind (·.dst)) == some t
def looks (ops : Array Oper) (i : Nat) : List Tmp := match ops[i]? with | some o => o.looksAt ops | none => []

/-- Nobody looks at, or writes, what an unordered other one writes; nobody waits for a later one. -/
def drawB (ops : Array Oper) : Bool :=
  let n := ops.size
  (List.range n).all fun i =>
    ((match ops[i]? with | some o => (o.after.toList.filter (Region.binds .any)).all (fun e => decide (e.on < i)) && (match o.op with | .select .. => false | _ => true) | none => false)) &&
    (List.range n).all fun j =>
      (i == j) || ((looks ops i ++ ((ops[i]?).bind (·.dst)).toList).all fun t => !writes ops j t || (if j < i then (anc ops n i).contains j else (anc ops n j).contains i))

def CalmAt (P : Program) (N k : Nat) (o : Oper) (T : Tm) (x : V) (σ : List Ob) : Prop := AOp P N k o T σ fun y σ' => y = x ∧ σ' = σ

/-- Is the operation carried out, as the frame stands? -/
def wants (ops : Array Oper) (T : Tm) (o : Oper) : Option Bool :=
  match o.guard with
  | none => some true
  | some (j, p) => match gv ops T j with
    | .d (.s (.bool b)) => some (b == p)
    | .t _ => some false
    | _ => none

inductive ADr (P : Program) (N k : Nat) (ops : Array Oper) (Q : Tm → List Ob → Prop) : Nat → List Oper → Tm → List (List Ob) → List Nat → List (List Ob → Prop) → Prop
  | nil {i : Nat} {T : Tm} {σ : List Ob} {S : List (List Ob)} {E : List Nat} {pc : List (List Ob → Prop)} : Q T σ → ADr P N k ops Q i [] T (σ :: S) E pc
  | skip {i : Nat} {o : Oper} {rest : List Oper} {T : Tm} {S : List (List Ob)} {E : List Nat} {pc : List (List Ob → Prop)} : dstOk N o.dst = true → wants ops T o = some false →
      ADr P N k ops Q (i + 1) rest (put T o.dst (.t [])) S E pc → ADr P N k ops Q i (o :: rest) T S E pc
  | calm {i : Nat} {o : Oper} {rest : List Oper} {T : Tm} {S : List (List Ob)} {E : List Nat} {pc : List (List Ob → Prop)} (x : V) (p : List Ob → Prop) : dstOk N o.dst = true → wants ops T o = some true →
      (∀ σ, p σ → CalmAt P N k o (keepT T (o.looksAt ops)) x σ) → (∀ σ, σ ∈ S → p σ) →
      ADr P N k ops Q (i + 1) rest (put T o.dst x) S E (p :: pc) → ADr P N k ops Q i (o :: rest) T S E pc
  | calmw {i : Nat} {o : Oper} {rest : List Oper} {T : Tm} {S : List (List Ob)} {E : List Nat} {pc : List (List Ob → Prop)} (x : V) (p : List Ob → Prop) (n e : Nat) : dstOk N o.dst = true → wants ops T o = some true →
      (∀ σ, p σ → CalmAt P N k o (keepT T (o.looksAt ops)) x σ) → E[n]? = some e → e ∈ anc ops ops.size i → (∀ σ, σ ∈ S.take (n + 1) → p σ) →
      ADr P N k ops Q (i + 1) rest (put T o.dst x) S E (p :: pc) → ADr P N k ops Q i (o :: rest) T S E pc
  | eff {i : Nat} {o : Oper} {rest : List Oper} {T : Tm} {σ : List Ob} {S : List (List Ob)} {E : List Nat} {pc : List (List Ob → Prop)} (x : V) (σ' : List Ob) : dstOk N o.dst = true → wants ops T o = some true →
      (E.all fun e => (anc ops ops.size i).contains e) = true → AOp P N k o (keepT T (o.looksAt ops)) σ (fun y τ => y = x ∧ τ = σ') → (∀ p : List Ob → Prop, p ∈ pc → p σ') →
      ADr P N k ops Q (i + 1) rest (put T o.dst x) (σ' :: σ :: S) (i :: E) pc → ADr P N k ops Q i (o :: rest) T (σ :: S) E pc

section
variable {P : Program} {N k : Nat} {ops : Array Oper} {Q : Tm → List Ob → Prop}

/-- The frame behind the operations of a set, in the order of the text. -/
def Tset (ops : Array Oper) (X : Nat → V) (L : Nat → Bool) (T : Tm) : Nat → Tm
  | 0 => T
  | n + 1 => if L n = true then put (Tset ops X L T n) ((ops[n]?).bind (·.dst)) (X n) else Tset ops X L T n

theorem look_put (T : Tm) (d : Option Tmp) (x : V) (t : Nat) : look (put T d x) t = if d = some t then x else look T t := by
  cases d with
  | none => simp [put]
  | some s =>
    simp only [put, look]
    by_cases e : t = s
    · subst e; simp
    · rw [if_neg e, if_neg (by simpa using Ne.symm e)]

/-- What stands in a slot hangs on its writers alone. -/
theorem Tset_look (X : Nat → V) (L L' : Nat → Bool) (T : Tm) (t : Nat) : ∀ n, (∀ j, j < n → writes ops j t = true → L j = L' j) → look (Tset ops X L T n) t = look (Tset ops X L' T n) t
  | 0, _ => rfl
  | n + 1, h => by
    have ih := Tset_look X L L' T t n fun j hj => h j (by omega)
    simp only [Tset]
    by_cases hw : writes ops n t = true
    · rw [h n (by omega) hw]
      split
      · rw [look_put, look_put, ih]
      · exact ih
    · have hw' : (ops[n]?).bind (·.dst) ≠ some t := by simpa [writes] using hw
      split <;> split <;> simp [look_put, hw', ih]

/-- A set out of which nothing that is waited for is missing. -/
def Shut (ops : Array Oper) (L : Nat → Bool) : Prop := ∀ (i : Nat) (o : Oper), ops[i]? = some o → L i = true → ∀ e ∈ o.after.toList, Region.binds .any e = true → L e.on = true

theorem Shut.mem_anc {L : Nat → Bool} (h : Shut ops L) : ∀ (n i j : Nat), L i = true → j ∈ anc ops n i → L j = true
  | 0, i, j, _, hj => by simp [anc] at hj
  | n + 1, i, j, hi, hj => by
    simp only [anc] at hj
    split at hj
    · rename_i o ho
      obtain ⟨e, he, hj⟩ := List.mem_flatMap.1 hj
      obtain ⟨h1, h2⟩ := List.mem_filter.1 he
      have := h i o ho hi e h1 h2
      rcases List.mem_cons.1 hj with rfl | hj
      · exact this
      · exact Shut.mem_anc h n e.on j this hj
    · simp at hj

/-- .. of an operation that is about to run. -/
theorem Shut.anc_ready {L : Nat → Bool} (h : Shut ops L) {i : Nat} {o : Oper} (ho : ops[i]? = some o) (hr : ∀ e ∈ o.after.toList, Region.binds .any e = true → L e.on = true) (n j : Nat) (hj : j ∈ anc ops n i) : L j = true := by
  cases n with
  | zero => simp [anc] at hj
  | succ n =>
    simp only [anc, ho] at hj
    obtain ⟨e, he, hj⟩ := List.mem_flatMap.1 hj
    obtain ⟨h1, h2⟩ := List.mem_filter.1 he
    have := hr e h1 h2
    rcases List.mem_cons.1 hj with rfl | hj
    · exact this
    · exact Shut.mem_anc h n e.on j this hj

structure DrawOk (ops : Array Oper) : Prop where
  back : ∀ (i : Nat) (o : Oper), ops[i]? = some o → ∀ e ∈ o.after.toList, Region.binds .any e = true → e.on < i
  sel : ∀ (i : Nat) (o : Oper) (cs : Array SelectCase) (b : Bool), ops[i]? = some o → o.op ≠ .select cs b
  meet : ∀ (i j t : Nat), i < ops.size → j < ops.size → i ≠ j → t ∈ looks ops i ++ ((ops[i]?).bind (·.dst)).toList → writes ops j t = true → (j < i → j ∈ anc ops ops.size i) ∧ (i < j → i ∈ anc ops ops.size j)

theorem drawB_ok (h : drawB ops = true) : DrawOk ops := by
  unfold drawB at h
  simp only [List.all_eq_true, List.mem_range, Bool.and_eq_true, Bool.or_eq_true, beq_iff_eq] at h
  refine ⟨fun i o ho e he hb => ?_, fun i o cs b ho hs => ?_, fun i j t hi hj hne ht hw => ?_⟩
  · have hi := (Array.getElem?_eq_some_iff.1 ho).1
    have := (h i hi).1
    rw [ho] at this
    simp only [Bool.and_eq_true, List.all_eq_true, decide_eq_true_eq] at this
    exact this.1 e (List.mem_filter.2 ⟨he, hb⟩)
  · have hi := (Array.getElem?_eq_some_iff.1 ho).1
    have := (h i hi).1
    rw [ho] at this
    simp [hs] at this
  · rcases (h i hi).2 j hj with e | e
    · exact absurd e hne
    · have := e t ht
      simp only [hw] at this
      refine ⟨fun hlt => ?_, fun hlt => ?_⟩
      · rw [if_pos hlt] at this; simpa using this
      · rw [if_neg (by omega)] at this; simpa using this

/-- The frame behind the first operations of the text. -/
def Tall (ops : Array Oper) (X : Nat → V) (T : Tm) : Nat → Tm
  | 0 => T
  | n + 1 => put (Tall ops X T n) ((ops[n]?).bind (·.dst)) (X n)

theorem Tall_congr {X X' : Nat → V} (T : Tm) : ∀ n, (∀ j, j < n → X j = X' j) → Tall ops X T n = Tall ops X' T n
  | 0, _ => rfl
  | n + 1, h => by simp only [Tall]; rw [Tall_congr T n fun j hj => h j (by omega), h n (by omega)]

theorem Tset_all (X : Nat → V) (T : Tm) (i : Nat) : ∀ n, i ≤ n → Tset ops X (fun j => decide (j < i)) T n = Tall ops X T i
  | 0, h => by obtain rfl : i = 0 := by omega
               rfl
  | n + 1, h => by
    simp only [Tset]
    by_cases e : n < i
    · obtain rfl : i = n + 1 := by omega
      rw [if_pos (by simp)]
      simp only [Tall]
      congr 1
      have : ∀ m, m ≤ n → Tset ops X (fun j => decide (j < n + 1)) T m = Tall ops X T m := by
        intro m
        induction m with
        | zero => intro _; rfl
        | succ m ih => intro hm; simp only [Tset, Tall]; rw [if_pos (by simp; omega), ih (by omega)]
      exact this n (Nat.le_refl _)
    · rw [if_neg (by simpa using e)]
      exact Tset_all X T i n (by omega)

/-- The last one who has written a slot. -/
theorem Tset_last (X : Nat → V) (L : Nat → Bool) (T : Tm) (t i : Nat) (hi : L i = true) (hw : writes ops i t = true) : ∀ n, i < n → (∀ j, i < j → j < n → writes ops j t = true → L j = false) → look (Tset ops X L T n) t = X i
  | 0, h, _ => by omega
  | n + 1, h, hl => by
    simp only [Tset]
    by_cases e : i = n
    · subst e
      rw [if_pos hi, look_put, if_pos (by simpa [writes] using hw)]
    · have ih := Tset_last X L T t i hi hw n (by omega) fun j h1 h2 => hl j h1 (by omega)
      by_cases hwn : writes ops n t = true
      · rw [hl n (by omega) (by omega) hwn]
        exact ih
      · have : (ops[n]?).bind (·.dst) ≠ some t := by simpa [writes] using hwn
        split <;> simp [look_put, this, ih]

/-- All that the text's walk has shown. -/
structure Plan (P : Program) (N k : Nat) (ops : Array Oper) (T : Tm) (σ : List Ob) (n : Nat) (X : Nat → V) (E : List Nat) (S : List (List Ob)) (pc : List (List Ob → Prop)) : Prop where
  len : S.length = E.length + 1
  first : S[E.length]? = some σ
  lt : ∀ e ∈ E, e < n
  nodup : E.Nodup
  chain : ∀ a b e e' : Nat, E[a]? = some e → E[b]? = some e' → a < b → e' ∈ anc ops ops.size e
  step : ∀ i, i < n → ∃ o, ops[i]? = some o ∧ dstOk N o.dst = true ∧
    ((i ∉ E ∧ wants ops (Tall ops X T i) o = some false ∧ X i = .t []) ∨
     (i ∉ E ∧ wants ops (Tall ops X T i) o = some true ∧ (∀ (a : Nat) (s : List Ob), S[a]? = some s → (∀ b e : Nat, b < a → E[b]? = some e → e ∉ anc ops ops.size i) → CalmAt P N k o (keepT (Tall ops X T i) (o.looksAt ops)) (X i) s) ∧
       ∃ p, p ∈ pc ∧ ∀ s, p s → CalmAt P N k o (keepT (Tall ops X T i) (o.looksAt ops)) (X i) s) ∨
     (∃ a s s', E[a]? = some i ∧ S[a]? = some s' ∧ S[a + 1]? = some s ∧ wants ops (Tall ops X T i) o = some true ∧
       AOp P N k o (keepT (Tall ops X T i) (o.looksAt ops)) s fun y τ => y = X i ∧ τ = s'))

theorem ADr.plan {T0 : Tm} {σ0 : List Ob} : ∀ {i : Nat} {rest : List Oper} {T : Tm} {S : List (List Ob)} {E : List Nat} {pc : List (List Ob → Prop)}, ADr P N k ops Q i rest T S E pc → (∀ j, rest[j]? = ops[i + j]?) → i + rest.length = ops.size →
    ∀ X, T = Tall ops X T0 i → Plan P N k ops T0 σ0 i X E S pc → ∃ X' E' S' pc' σ', Plan P N k ops T0 σ0 ops.size X' E' S' pc' ∧ S'[0]? = some σ' ∧ Q (Tall ops X' T0 ops.size) σ' := by
  intro i rest T S E pc h
  have upd : ∀ (X : Nat → V) (i : Nat) (x : V), ∀ j, j ≤ i → Tall ops (fun j => if j = i then x else X j) T0 j = Tall ops X T0 j := fun X i x j hj => Tall_congr T0 j fun l hl => by simp; omega
  induction h with
  | nil hq =>
    rename_i i T σ S E pc
    intro hr hl X hT pl
    simp at hl
    subst hl
    exact ⟨X, E, σ :: S, pc, σ, pl, rfl, by rw [← hT]; exact hq⟩
  | skip hd hw hrest ih =>
    rename_i i o rest T S E pc
    intro hr hl X hT pl
    have ho : ops[i]? = some o := by simpa using (hr 0).symm
    let X' : Nat → V := fun j => if j = i then .t [] else X j
    have hi : i ∉ E := fun hm => by have := pl.lt i hm; omega
    refine ih (fun j => by have := hr (j + 1); simpa [Nat.add_assoc, Nat.add_comm 1 j] using this) (by simp at hl; omega) X' ?_ ⟨pl.len, pl.first, fun e he => by have := pl.lt e he; omega, pl.nodup, pl.chain, fun j hj => ?_⟩
    · simp only [Tall, ho, Option.bind_some]
      rw [upd X i _ i (Nat.le_refl _), ← hT]
      simp [X']
    · by_cases e : j = i
      · subst e
        refine ⟨o, ho, hd, .inl ⟨hi, ?_, by simp [X']⟩⟩
        rw [upd X j _ j (Nat.le_refl _), ← hT]
        exact hw
      · have hX : X' j = X j := by simp [X', e]
        obtain ⟨o', h1, h2, h3⟩ := pl.step j (by omega)
        refine ⟨o', h1, h2, ?_⟩
        rw [upd X i _ j (by omega), hX]
        exact h3
  | calm x p hd hw hpc hc hrest ih =>
    rename_i i o rest T S E pc
    intro hr hl X hT pl
    have ho : ops[i]? = some o := by simpa using (hr 0).symm
    let X' : Nat → V := fun j => if j = i then x else X j
    have hi : i ∉ E := fun hm => by have := pl.lt i hm; omega
    refine ih (fun j => by have := hr (j + 1); simpa [Nat.add_assoc, Nat.add_comm 1 j] using this) (by simp at hl; omega) X' ?_ ⟨pl.len, pl.first, fun e he => by have := pl.lt e he; omega, pl.nodup, pl.chain, fun j hj => ?_⟩
    · simp only [Tall, ho, Option.bind_some]
      rw [upd X i _ i (Nat.le_refl _), ← hT]
      simp [X']
    · by_cases e : j = i
      · subst e
        refine ⟨o, ho, hd, .inr (.inl ⟨hi, ?_⟩)⟩
        rw [upd X j _ j (Nat.le_refl _), ← hT]
        have : X' j = x := by simp [X']
        rw [this]
        exact ⟨hw, fun a s hs _ => hpc s (hc s (List.mem_of_getElem? hs)), p, List.mem_cons_self, hpc⟩
      · have hX : X' j = X j := by simp [X', e]
        obtain ⟨o', h1, h2, h3⟩ := pl.step j (by omega)
        refine ⟨o', h1, h2, ?_⟩
        rw [upd X i _ j (by omega), hX]
        rcases h3 with h3 | ⟨a1, a2, a3, p4, a4, a5⟩ | h3
        · exact .inl h3
        · exact .inr (.inl ⟨a1, a2, a3, p4, List.mem_cons_of_mem _ a4, a5⟩)
        · exact .inr (.inr h3)
  | calmw x p n en hd hw hpc hen hea hc hrest ih =>
    rename_i i o rest T S E pc
    intro hr hl X hT pl
    have ho : ops[i]? = some o := by simpa using (hr 0).symm
    let X' : Nat → V := fun j => if j = i then x else X j
    have hi : i ∉ E := fun hm => by have := pl.lt i hm; omega
    refine ih (fun j => by have := hr (j + 1); simpa [Nat.add_assoc, Nat.add_comm 1 j] using this) (by simp at hl; omega) X' ?_ ⟨pl.len, pl.first, fun e he => by have := pl.lt e he; omega, pl.nodup, pl.chain, fun j hj => ?_⟩
    · simp only [Tall, ho, Option.bind_some]
      rw [upd X i _ i (Nat.le_refl _), ← hT]
      simp [X']
    · by_cases e : j = i
      · subst e
        refine ⟨o, ho, hd, .inr (.inl ⟨hi, ?_⟩)⟩
        rw [upd X j _ j (Nat.le_refl _), ← hT]
        have : X' j = x := by simp [X']
        rw [this]
        refine ⟨hw, fun a s hs hb => hpc s (hc s ?_), p, List.mem_cons_self, hpc⟩
        rcases Nat.lt_or_ge n a with hlt | hge
        · exact absurd hea (hb n en hlt hen)
        · exact List.mem_of_getElem? (i := a) (by rw [List.getElem?_take, if_pos (by omega)]; exact hs)
      · have hX : X' j = X j := by simp [X', e]
        obtain ⟨o', h1, h2, h3⟩ := pl.step j (by omega)
        refine ⟨o', h1, h2, ?_⟩
        rw [upd X i _ j (by omega), hX]
        rcases h3 with h3 | ⟨a1, a2, a3, p4, a4, a5⟩ | h3
        · exact .inl h3
        · exact .inr (.inl ⟨a1, a2, a3, p4, List.mem_cons_of_mem _ a4, a5⟩)
        · exact .inr (.inr h3)
  | eff x σ' hd hw hch ha hp hrest ih =>
    rename_i i o rest T σ S E pc
    intro hr hl X hT pl
    have ho : ops[i]? = some o := by simpa using (hr 0).symm
    let X' : Nat → V := fun j => if j = i then x else X j
    have hi : i ∉ E := fun hm => by have := pl.lt i hm; omega
    refine ih (fun j => by have := hr (j + 1); simpa [Nat.add_assoc, Nat.add_comm 1 j] using this) (by simp at hl; omega) X' ?_ ⟨?_, ?_, fun e he => ?_, List.nodup_cons.2 ⟨hi, pl.nodup⟩, fun a b e e' h1 h2 hab => ?_, fun j hj => ?_⟩
    · simp only [Tall, ho, Option.bind_some]
      rw [upd X i _ i (Nat.le_refl _), ← hT]
      simp [X']
    · have := pl.len; simp at this ⊢; omega
    · have := pl.first; simpa using this
    · rcases List.mem_cons.1 he with rfl | he
      · omega
      · have := pl.lt e he; omega
    · cases b with
      | zero => omega
      | succ b =>
        simp at h2
        cases a with
        | zero =>
          simp at h1
          subst h1
          have := List.all_eq_true.1 hch e' (List.mem_of_getElem? h2)
          simpa using this
        | succ a => exact pl.chain a b e e' (by simpa using h1) h2 (by omega)
    · by_cases e : j = i
      · subst e
        refine ⟨o, ho, hd, .inr (.inr ⟨0, σ, σ', rfl, rfl, rfl, ?_⟩)⟩
        rw [upd X j _ j (Nat.le_refl _), ← hT]
        have : X' j = x := by simp [X']
        rw [this]
        exact ⟨hw, ha⟩
      · have hX : X' j = X j := by simp [X', e]
        obtain ⟨o', h1, h2, h3⟩ := pl.step j (by omega)
        refine ⟨o', h1, h2, ?_⟩
        rw [upd X i _ j (by omega), hX]
        rcases h3 with ⟨a1, a2⟩ | ⟨a1, a2, a3, p4, a4, a5⟩ | ⟨a, s, s', a1, a2, a3, a4⟩
        · exact .inl ⟨fun hm => (List.mem_cons.1 hm).elim (fun e' => e e') a1, a2⟩
        · refine .inr (.inl ⟨fun hm => (List.mem_cons.1 hm).elim (fun e' => e e') a1, a2, fun a s hs hb => ?_, p4, a4, a5⟩)
          cases a with
          | zero =>
            simp at hs
            subst hs
            exact a5 _ (hp p4 a4)
          | succ a => exact a3 a s (by simpa using hs) fun b e hba he => hb (b + 1) e (by omega) (by simpa using he)
        · exact .inr (.inr ⟨a + 1, s, s', by simpa using a1, by simpa using a2, by simpa using a3, a4⟩)

theorem keepT_look (T : Tm) : ∀ (ts : List Nat) (t : Nat), look (keepT T ts) t = if t ∈ ts then look T t else .u
  | [], t => by simp [keepT, look]
  | s :: ts, t => by
    simp only [keepT, look]
    by_cases e : t = s
    · subst e; simp
    · rw [if_neg e, keepT_look T ts t]
      simp [e]

def Lof (listed : Array Bool) (j : Nat) : Bool := listed.getD j false

theorem mem_ready_iff {listed : Array Bool} {i : Nat} : i ∈ Region.ready .any ops listed ↔ ∃ o, ops[i]? = some o ∧ listed.getD i true = false ∧ ∀ e ∈ o.after.toList, Region.binds .any e = true → listed.getD e.on false = true := by
  unfold Region.ready
  rw [List.mem_filter, List.mem_range]
  constructor
  · rintro ⟨h1, h2⟩
    rw [Array.getElem?_eq_getElem h1] at h2
    simp only [Bool.and_eq_true, Bool.not_eq_true', Option.map_some, Option.getD_some, Array.all_eq_true_iff_forall_mem] at h2
    refine ⟨_, Array.getElem?_eq_getElem h1, h2.1, fun e he hb => ?_⟩
    have := h2.2 e (by simpa using he)
    simpa [hb] using this
  · rintro ⟨o, ho, h1, h2⟩
    refine ⟨(Array.getElem?_eq_some_iff.1 ho).1, ?_⟩
    rw [ho]
    simp only [Bool.and_eq_true, Bool.not_eq_true', Option.map_some, Option.getD_some, Array.all_eq_true_iff_forall_mem]
    refine ⟨h1, fun e he => ?_⟩
    cases hb : Region.binds .any e with
    | false => simp
    | true => simp [h2 e (by simpa using he) hb]

/-- How the run stands when a set of operations is done. -/
structure Mid (k B N : Nat) (ops : Array Oper) (T : Tm) (X : Nat → V) (E : List Nat) (S : List (List Ob)) (F : Nat → Prop) (σ : List Ob) (μ : List Value) (w : World) (listed : Array Bool) (a : Act) (w' : World) : Prop where
  size : listed.size = ops.size
  shut : Shut ops (Lof listed)
  now : ∃ m s F' μ', m ≤ E.length ∧ (∀ b e : Nat, E[b]? = some e → (Lof listed e = true ↔ m ≤ b)) ∧ S[m]? = some s ∧ Stp k B F σ μ w F' s μ' w' ∧ St k B F' s μ' w' ∧ TR N F' s μ' w' (Tset ops X (Lof listed) T ops.size) a.tmps
  defers : a.defers = []

theorem Lof_set {listed : Array Bool} {i : Nat} (hi : i < listed.size) (j : Nat) : Lof (listed.setIfInBounds i true) j = if j = i then true else Lof listed j := by
  unfold Lof
  by_cases e : j = i
  · subst e
    simp [Array.getD_eq_getD_getElem?, hi]
  · rw [if_neg e]
    simp [Array.getD_eq_getD_getElem?, Array.getElem?_setIfInBounds_ne (Ne.symm e)]

/-- One operation more, whichever is ready. -/
theorem Mid.step {B : Nat} {T : Tm} {X : Nat → V} {E : List Nat} {S : List (List Ob)} {pc : List (List Ob → Prop)} {F : Nat → Prop} {σ : List Ob} {μ : List Value} {w : World} {listed : Array Bool} {a : Act} {w' : World} (dok : DrawOk ops)
    (pl : Plan P N k ops T σ ops.size X E S pc) (mid : Mid k B N ops T X E S F σ μ w listed a w') {i : Nat} (hi : i ∈ Region.ready .any ops listed) (Z : Exit → Act → World → Prop) (K : Act → World → Prop)
    (hK : ∀ a' w'', Mid k B N ops T X E S F σ μ w (listed.setIfInBounds i true) a' w'' → K a' w'') : wpOp P ops Z i K a w' := by
  obtain ⟨o, ho, hli, haf⟩ := mem_ready_iff.1 hi
  have hin := (Array.getElem?_eq_some_iff.1 ho).1
  have hls : i < listed.size := by rw [mid.size]; exact hin
  have hLi : Lof listed i = false := by
    unfold Lof
    rw [Array.getD_eq_getD_getElem?, Array.getElem?_eq_getElem hls] at hli ⊢
    simpa using hli
  obtain ⟨m, s, F', μ', hm, hE, hs, sp, st', tr⟩ := mid.now
  obtain ⟨o', ho', hd, hstep⟩ := pl.step i hin
  rw [ho] at ho'
  obtain rfl := Option.some.inj ho'
  have ancL : ∀ j, j ∈ anc ops ops.size i → Lof listed j = true := fun j hj => mid.shut.anc_ready ho haf _ j hj
  -- a slot that the operation looks at, or writes
  have same : ∀ t, t ∈ looks ops i ++ ((ops[i]?).bind (·.dst)).toList → ∀ j, j < ops.size → writes ops j t = true → Lof listed j = decide (j < i) := by
    intro t ht j hj hw
    by_cases e : j = i
    · subst e; simp [hLi]
    · have := dok.meet i j t hin hj (Ne.symm e) ht hw
      rcases Nat.lt_or_ge j i with h | h
      · simp [h, ancL j (this.1 h)]
      · have h' : i < j := by omega
        have h2 : ¬ j < i := by omega
        simp only [h2, decide_false]
        cases hL : Lof listed j with
        | false => rfl
        | true =>
          have := mid.shut.mem_anc _ j i hL (this.2 h')
          rw [hLi] at this
          exact this.symm
  have lookSame : ∀ t, t ∈ o.looksAt ops → look (Tset ops X (Lof listed) T ops.size) t = look (Tall ops X T i) t := by
    intro t ht
    have hl : looks ops i = o.looksAt ops := by simp [looks, ho]
    rw [Tset_look X (Lof listed) (fun j => decide (j < i)) T t ops.size (fun j hj hw => same t (by rw [hl]; exact List.mem_append_left _ ht) j hj hw), Tset_all X T i ops.size (by omega)]
  have trk : TR N F' s μ' w' (keepT (Tall ops X T i) (o.looksAt ops)) a.tmps := tr.sub fun t => by
    rw [keepT_look]
    split
    · rename_i ht; exact .inr (lookSame t ht).symm
    · exact .inl rfl
  have wantE : ∀ b, wants ops (Tall ops X T i) o = some b → Region.wanted o (yielded ops a.tmps) = b := by
    intro b hb
    unfold wants at hb
    unfold Region.wanted
    cases hgd : o.guard with
    | none => rw [hgd] at hb; simpa using hb
    | some gp =>
      obtain ⟨j, p⟩ := gp
      rw [hgd] at hb
      simp only at hb ⊢
      have hgv : gv ops (Tset ops X (Lof listed) T ops.size) j = gv ops (Tall ops X T i) j := by
        unfold gv
        cases hdj : (ops[j]?).bind (·.dst) with
        | none => rfl
        | some d =>
          simp only
          refine lookSame d ?_
          unfold Oper.looksAt
          rw [hgd]
          simp [hdj]
      split at hb
      · rename_i b' hv
        rw [yielded_of tr (hgv.trans hv)]
        simpa using hb
      · rename_i xs hv
        rw [yielded_not tr (hgv.trans hv)]
        simpa using hb
      · simp at hb
  -- what the frame is behind it
  have behind : ∀ (F2 : Nat → Prop) (s2 : List Ob) (μ2 : List Value) (w2 : World) (v : Value), TR N F2 s2 μ2 w2 (Tset ops X (Lof listed) T ops.size) a.tmps → VR F2 s2 μ2 w2 (X i) v →
      TR N F2 s2 μ2 w2 (Tset ops X (Lof (listed.setIfInBounds i true)) T ops.size) (a.put o.dst v).tmps := by
    intro F2 s2 μ2 w2 v h1 h2
    have h3 := TR.put h1 hd h2
    refine ⟨h3.1, fun t => ?_⟩
    have h4 := h3.2 t
    rw [look_put] at h4
    by_cases e : o.dst = some t
    · rw [if_pos e] at h4
      rw [Tset_last X _ T t i (by rw [Lof_set hls]; simp) (by simp [writes, ho, e]) ops.size hin fun j h5 h6 hw => ?_]
      · exact h4
      · rw [Lof_set hls, if_neg (by omega)]
        have := same t (List.mem_append_right _ (by simp [ho, e])) j h6 hw
        rw [this]
        simp; omega
    · rw [if_neg e] at h4
      rw [Tset_look X _ (Lof listed) T t ops.size fun j hj hw => ?_]
      · exact h4
      · rw [Lof_set hls]
        split
        · rename_i e2
          subst e2
          simp [writes, ho] at hw
          exact absurd hw e
        · rfl
  have shut' : Shut ops (Lof (listed.setIfInBounds i true)) := by
    intro j oj hj hL e he hb
    rw [Lof_set hls] at hL ⊢
    split
    · rfl
    · split at hL
      · rename_i e2
        subst e2
        rw [ho] at hj
        obtain rfl := Option.some.inj hj
        exact haf e he hb
      · exact mid.shut j oj hj hL e he hb
  have noE : i ∉ E → ∀ b e : Nat, E[b]? = some e → (Lof (listed.setIfInBounds i true) e = true ↔ m ≤ b) := by
    intro hni b e hb
    rw [Lof_set hls, if_neg (fun h : e = i => hni (h ▸ List.mem_of_getElem? hb))]
    exact hE b e hb
  unfold wpOp
  rw [ho]
  simp only
  rcases hstep with ⟨hni, hw, hx⟩ | ⟨hni, hw, hc, _⟩ | ⟨a', s0, s1, hEa, hs1, hs0, hw, ha⟩
  · rw [if_neg (by simp [wantE false hw])]
    refine hK _ _ ⟨by simp [mid.size], shut', ⟨m, s, F', μ', hm, noE hni, hs, sp, st', behind F' s μ' w' undef tr ?_⟩, by rw [put_defers]; exact mid.defers⟩
    rw [hx]
    exact ⟨#[], rfl, rfl⟩
  · rw [if_pos (wantE true hw)]
    refine .inl (hc m s hs (fun b e hbm he hin => by have := (hE b e he).1 (ancL e hin); omega) B F' μ' w' a st' trk _ Z fun v w2 hl => ?_)
    obtain ⟨x, F2, σ2, μ2, ⟨rfl, rfl⟩, g1, g2, g3, g4⟩ := hl
    exact hK _ _ ⟨by simp [mid.size], shut', ⟨m, σ2, F2, μ2, hm, noE hni, hs, sp.trans g1, g2, behind F2 σ2 μ2 w2 v (TR.mono tr (g1.memF st') st'.len g3) g4⟩, by rw [put_defers]; exact mid.defers⟩
  · rw [if_pos (wantE true hw)]
    have ham : a' < m := by
      rcases Nat.lt_or_ge a' m with h | h
      · exact h
      · have := (hE a' i hEa).2 h
        rw [hLi] at this
        simp at this
    have hma : m = a' + 1 := by
      rcases Nat.lt_or_ge (a' + 1) m with h | h
      · exfalso
        have hb : m - 1 < E.length := by omega
        have h0 : E[m - 1]? = some E[m - 1] := List.getElem?_eq_getElem hb
        have := pl.chain a' (m - 1) i _ hEa h0 (by omega)
        have := ancL _ this
        have := (hE (m - 1) _ h0).1 this
        omega
      · omega
    subst hma
    rw [hs0] at hs
    obtain rfl := Option.some.inj hs
    refine .inl (ha B F' μ' w' a st' trk _ Z fun v w2 hl => ?_)
    obtain ⟨x, F2, σ2, μ2, ⟨rfl, rfl⟩, g1, g2, g3, g4⟩ := hl
    refine hK _ _ ⟨by simp [mid.size], shut', ⟨a', σ2, F2, μ2, by omega, fun b e hb => ?_, hs1, sp.trans g1, g2, behind F2 σ2 μ2 w2 v (TR.mono tr (g1.memF st') st'.len g3) g4⟩, by rw [put_defers]; exact mid.defers⟩
    rw [Lof_set hls]
    split
    · rename_i e2
      subst e2
      have := (List.getElem?_inj (List.getElem?_eq_some_iff.1 hb).1 pl.nodup).1 (hb.trans hEa.symm)
      simp [this]
    · rename_i e2
      rw [hE b e hb]
      constructor
      · intro h; omega
      · intro h
        rcases Nat.lt_or_ge a' b with h' | h'
        · omega
        · exfalso
          have : b = a' := by omega
          subst this
          rw [hEa] at hb
          exact e2 (Option.some.inj hb).symm

/-- How many are left. -/
def todo (ops : Array Oper) (listed : Array Bool) : Nat := ((List.range ops.size).filter fun j => !Lof listed j).length

theorem filter_less {α : Type} (p q : α → Bool) : ∀ l : List α, (∀ x, x ∈ l → q x = true → p x = true) → (∃ x, x ∈ l ∧ p x = true ∧ q x = false) → (l.filter q).length < (l.filter p).length
  | [], _, h => by obtain ⟨x, hx, _⟩ := h; simp at hx
  | y :: l, h1, h2 => by
    have le : ∀ l : List α, (∀ x, x ∈ l → q x = true → p x = true) → (l.filter q).length ≤ (l.filter p).length := by
      intro l
      induction l with
      | nil => intro _; simp
      | cons z l ih =>
        intro h
        have := ih fun x hx => h x (List.mem_cons_of_mem _ hx)
        simp only [List.filter_cons]
        by_cases e : q z = true
        · rw [if_pos e, if_pos (h z List.mem_cons_self e)]; simp; exact this
        · rw [if_neg e]; split <;> simp <;> omega
    obtain ⟨x, hx, hp, hq⟩ := h2
    simp only [List.filter_cons]
    have hl := le l fun x hx => h1 x (List.mem_cons_of_mem _ hx)
    rcases List.mem_cons.1 hx with e | hx
    · subst e
      rw [if_pos hp, if_neg (by simp [hq])]
      simp; omega
    · have := filter_less p q l (fun x hx => h1 x (List.mem_cons_of_mem _ hx)) ⟨x, hx, hp, hq⟩
      by_cases e : q y = true
      · rw [if_pos e, if_pos (h1 y List.mem_cons_self e)]; simp; exact this
      · rw [if_neg e]; split <;> simp <;> omega

theorem all_done (dok : DrawOk ops) {listed : Array Bool} (hs : listed.size = ops.size) (h : Region.ready .any ops listed = []) : ∀ i, i < ops.size → Lof listed i = true := by
  intro i
  induction i using Nat.strongRecOn with
  | _ i ih =>
    intro hi
    cases hL : Lof listed i with
    | true => rfl
    | false =>
      exfalso
      have ho : ops[i]? = some ops[i] := Array.getElem?_eq_getElem hi
      have : i ∈ Region.ready .any ops listed := by
        refine mem_ready_iff.2 ⟨_, ho, ?_, fun e he hb => ?_⟩
        · unfold Lof at hL
          rw [Array.getD_eq_getD_getElem?, Array.getElem?_eq_getElem (by omega)] at hL ⊢
          simpa using hL
        · have hlt := dok.back i _ ho e he hb
          exact ih e.on hlt (by omega)
      rw [h] at this
      simp at this

theorem Mid.any {B : Nat} {T : Tm} {X : Nat → V} {E : List Nat} {S : List (List Ob)} {pc : List (List Ob → Prop)} {F : Nat → Prop} {σ : List Ob} {μ : List Value} {w : World} (dok : DrawOk ops)
    (pl : Plan P N k ops T σ ops.size X E S pc) (Z : Exit → Act → World → Prop) (hZ : ∀ a' w', Cfg k B N F σ μ w (fun T' s => T' = Tall ops X T ops.size ∧ S[0]? = some s) a' w' → Z .normal a' w') :
    ∀ (fuel : Nat) (listed : Array Bool) (a : Act) (w' : World), todo ops listed ≤ fuel → Mid k B N ops T X E S F σ μ w listed a w' → wpAny P .any ops Z fuel listed a w' := by
  have done : ∀ (listed : Array Bool) (a : Act) (w' : World), Region.ready .any ops listed = [] → Mid k B N ops T X E S F σ μ w listed a w' → Z .normal a w' := by
    intro listed a w' hr mid
    have hall := all_done dok mid.size hr
    obtain ⟨m, s, F', μ', hm, hE, hs, sp, st', tr⟩ := mid.now
    have hm0 : m = 0 := by
      rcases Nat.eq_zero_or_pos E.length with e | e
      · omega
      · have h0 : E[0]? = some E[0] := List.getElem?_eq_getElem e
        have := (hE 0 _ h0).1 (hall _ (pl.lt _ (List.getElem_mem e)))
        omega
    subst hm0
    refine hZ a w' ⟨F', s, μ', Tall ops X T ops.size, ⟨rfl, hs⟩, sp, st', ⟨tr.1, fun t => ?_⟩, mid.defers⟩
    have := tr.2 t
    rw [Tset_look X (Lof listed) (fun j => decide (j < ops.size)) T t ops.size fun j hj _ => by rw [hall j hj]; simp [hj], Tset_all X T ops.size ops.size (Nat.le_refl _)] at this
    exact this
  intro fuel
  induction fuel with
  | zero =>
    intro listed a w' ht mid
    have hr : Region.ready .any ops listed = [] := by
      cases hc : Region.ready .any ops listed with
      | nil => rfl
      | cons i rs =>
        exfalso
        have hi : i ∈ Region.ready .any ops listed := by rw [hc]; exact List.mem_cons_self
        obtain ⟨o, ho, hl, _⟩ := mem_ready_iff.1 hi
        have hin := (Array.getElem?_eq_some_iff.1 ho).1
        have h0 : (List.range ops.size).filter (fun j => !Lof listed j) = [] := List.eq_nil_of_length_eq_zero (by unfold todo at ht; omega)
        have hm : i ∈ (List.range ops.size).filter (fun j => !Lof listed j) := by
          refine List.mem_filter.2 ⟨List.mem_range.2 hin, ?_⟩
          unfold Lof
          rw [Array.getD_eq_getD_getElem?] at hl ⊢
          rw [Array.getElem?_eq_getElem (by rw [mid.size]; exact hin)] at hl ⊢
          simpa using hl
        rw [h0] at hm
        simp at hm
    exact ⟨hr, done listed a w' hr mid⟩
  | succ fuel ih =>
    intro listed a w' ht mid
    refine ⟨fun hr => done listed a w' hr mid, fun i hi => ?_⟩
    refine Mid.step dok pl mid hi Z _ fun a2 w2 mid2 => ih _ a2 w2 ?_ mid2
    obtain ⟨o, ho, hl, _⟩ := mem_ready_iff.1 hi
    have hin := (Array.getElem?_eq_some_iff.1 ho).1
    have hls : i < listed.size := by rw [mid.size]; exact hin
    have : todo ops (listed.setIfInBounds i true) < todo ops listed := by
      unfold todo
      refine filter_less _ _ _ (fun x _ hx => ?_) ⟨i, List.mem_range.2 hin, ?_, ?_⟩
      · rw [Lof_set hls] at hx
        split at hx
        · simp at hx
        · exact hx
      · unfold Lof
        rw [Array.getD_eq_getD_getElem?] at hl ⊢
        rw [Array.getElem?_eq_getElem hls] at hl ⊢
        simpa using hl
      · rw [Lof_set hls]; simp
    omega

/-- A STATEMENT WHOSE ORDER IS OPEN. -/
theorem AW.draw {id : Nat} {l : List Oper} {Q : Ex → Tm → List Ob → Prop} {T : Tm} {σ : List Ob} (hm : P.follows .mixedOrders = true) (hB : drawB l.toArray = true)
    (h : ADr P N k l.toArray (Q .normal) 0 l T [σ] [] []) : AW P N k (.region id l.toArray true) Q T σ := by
  intro B F μ w a st tr hd
  obtain ⟨X, E, S, pc, σ', pl, hs, hq⟩ := ADr.plan (σ0 := σ) h (fun j => by simp) (by simp) (fun _ => .u) rfl
    ⟨by simp, by simp, by simp, by simp, by simp, by simp⟩
  refine wp_region_any hm ?_
  refine Mid.any (drawB_ok hB) pl _ (fun a' w' hc => ?_) l.toArray.size _ a _ ?_ ?_ (B := B) (F := F) (σ := σ) (μ := μ) (w := w)
  · refine Cfg.mono hc fun T' s ⟨h1, h2⟩ => ?_
    rw [hs] at h2
    obtain rfl := Option.some.inj h2
    rw [h1]
    exact hq
  · unfold todo
    exact Nat.le_trans (List.length_filter_le _ _) (by simp)
  · have hLf : ∀ j, Lof (Array.replicate l.toArray.size false) j = false := fun j => by
      unfold Lof
      rw [Array.getD_eq_getD_getElem?, Array.getElem?_replicate]
      split <;> rfl
    have hT : ∀ n, Tset l.toArray X (Lof (Array.replicate l.toArray.size false)) T n = T := by
      intro n
      induction n with
      | zero => rfl
      | succ n ih => simp only [Tset]; rw [if_neg (by rw [hLf]; simp), ih]
    refine ⟨by simp, fun i o _ hL => by rw [hLf] at hL; simp at hL, ⟨E.length, σ, F, μ, Nat.le_refl _, fun b e hb => ?_, pl.first, ?_, ?_, ?_⟩, hd⟩
    · rw [hLf]
      have := (List.getElem?_eq_some_iff.1 hb).1
      simp; omega
    · exact Stp.same rfl rfl rfl rfl
    · exact st.same rfl
    · rw [hT]
      have hm : Mem F w F { w with drawn := w.drawn + 1 } := ⟨Nat.le_refl _, fun b _ hf => ⟨rfl, hf⟩⟩
      exact TR.mono tr hm st.len (Keep.refl _ _ _)
end
end Go.AW
