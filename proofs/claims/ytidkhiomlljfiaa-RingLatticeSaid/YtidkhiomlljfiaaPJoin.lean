/-
  Plain: rings that are joined.
-/
import Derived.Test.YtidkhiomlljfiaaPRng
import Derived.Test.YtidkhiomlljfiaaMc
namespace Go.AW
set_option linter.unusedVariables false
set_option linter.unusedSimpArgs false

/-! ### Which of two members counts -/

def Mb.rest (x : Mb) : List UInt8 := estt x.st ++ etoks x.toks
def mless (x y : Mb) : Bool := decide (x.ep < y.ep) || (decide (x.ep = y.ep) && lessB x.rest y.rest)
def counts (x y : Mb) : Mb := if mless y x then x else y
theorem mless_iff (x y : Mb) : mless x y = true ↔ x.ep < y.ep ∨ (x.ep = y.ep ∧ lessB x.rest y.rest = true) := by
  unfold mless; simp only [Bool.or_eq_true, Bool.and_eq_true, decide_eq_true_eq]
theorem mless_not (x y : Mb) : mless x y = false ↔ ¬ (x.ep < y.ep) ∧ (x.ep = y.ep → lessB x.rest y.rest = false) := by
  unfold mless; simp only [Bool.or_eq_false_iff, Bool.and_eq_false_iff, decide_eq_false_iff_not]
  constructor
  · rintro ⟨h1, h2⟩; exact ⟨h1, fun h => h2.resolve_left (fun g => g h)⟩
  · rintro ⟨h1, h2⟩
    refine ⟨h1, ?_⟩
    by_cases h : x.ep = y.ep
    · exact .inr (h2 h)
    · exact .inl h
theorem mless_ntrans {x y z : Mb} (h1 : mless y x = false) (h2 : mless z y = false) : mless z x = false := by
  rw [mless_not] at h1 h2 ⊢
  obtain ⟨a1, a2⟩ := h1
  obtain ⟨b1, b2⟩ := h2
  exact ⟨by omega, fun h => less_le_trans (b2 (by omega)) (a2 (by omega))⟩
theorem mless_trans {x y z : Mb} (h1 : mless x y = true) (h2 : mless y z = true) : mless x z = true := by
  rw [mless_iff] at h1 h2 ⊢
  rcases h1 with h1 | ⟨h1, h3⟩ <;> rcases h2 with h2 | ⟨h2, h4⟩
  · exact .inl (by omega)
  · exact .inl (by omega)
  · exact .inl (by omega)
  · exact .inr ⟨by omega, less_trans h3 h4⟩
theorem mless_asym {x y : Mb} (h : mless x y = true) : mless y x = false := by
  rw [mless_iff] at h
  rw [mless_not]
  rcases h with h | ⟨h1, h2⟩
  · exact ⟨by omega, fun h => by omega⟩
  · exact ⟨by omega, fun h => less_asym h2⟩
theorem counts_same (x : Mb) : counts x x = x := by unfold counts; split <;> rfl
theorem counts_or (x y : Mb) : counts x y = x ∨ counts x y = y := by unfold counts; split; exact .inl rfl; exact .inr rfl
theorem counts_assoc (x y z : Mb) : counts (counts x y) z = counts x (counts y z) := by
  unfold counts
  cases hA : mless y x <;> cases hB : mless z y
  · have := mless_ntrans hA hB
    simp [hA, hB, this]
  · simp [hA, hB]
  · cases hC : mless z x <;> simp [hA, hB, hC]
  · have := mless_trans hB hA
    simp [hA, hB, this]
theorem trip_rest : Trip (rseq Cu.stt (fun _ c => Cu.tokl c)) (fun x : Nat × List Nat => estt x.1 ++ etoks x.2) (fun x => x.1 ≤ 3 ∧ gtoks x.2) :=
  Trip.seq trip_stt (fun _ _ => trip_tokl) (fun _ c => trip_tokl.stuck c) (fun _ => trip_tokl.text)
/-- A member with a good rest. -/
def Mb.okr (x : Mb) : Prop := x.st ≤ 3 ∧ gtoks x.toks
theorem rest_inj {x y : Mb} (hx : x.okr) (hy : y.okr) (h : x.rest = y.rest) : x.st = y.st ∧ x.toks = y.toks := by
  have := Trip.inj trip_rest (x := (x.st, x.toks)) (y := (y.st, y.toks)) hx hy h
  exact Prod.mk.inj this
theorem counts_comm {x y : Mb} (hx : x.okr) (hy : y.okr) (hn : x.name = y.name) : counts x y = counts y x := by
  unfold counts
  cases hA : mless y x
  · cases hB : mless x y
    · rw [mless_not] at hA hB
      have he : x.ep = y.ep := by omega
      have hr : x.rest = y.rest := by
        rcases less_total (hA.2 he.symm) with h | h
        · exact h
        · rw [hB.2 he] at h; cases h
      obtain ⟨h1, h2⟩ := rest_inj hx hy hr
      obtain ⟨a, b, c, d⟩ := x
      obtain ⟨a', b', c', d'⟩ := y
      simp only at hn he h1 h2
      subst hn he h1 h2
      rfl
    · rfl
  · rw [mless_asym hA]; rfl

/-! ### Rings that are joined -/

def joinm : Ring → Ring → Ring
  | [], b => b
  | x :: a, [] => x :: a
  | x :: a, y :: b => if lessB x.name y.name then x :: joinm a (y :: b) else if lessB y.name x.name then y :: joinm (x :: a) b else counts x y :: joinm a b
termination_by a b => a.length + b.length
decreasing_by all_goals (simp only [List.length_cons]; omega)
theorem joinm_left (b : Ring) : joinm [] b = b := by rw [joinm]
theorem joinm_right (a : Ring) : joinm a [] = a := by cases a <;> rw [joinm]
theorem joinm_cons (x y : Mb) (a b : Ring) : joinm (x :: a) (y :: b) = if lessB x.name y.name then x :: joinm a (y :: b) else if lessB y.name x.name then y :: joinm (x :: a) b else counts x y :: joinm a b := by rw [joinm]
theorem joinm_mem : ∀ (a b : Ring) (z : Mb), z ∈ joinm a b → z ∈ a ∨ z ∈ b
  | [], b, z, h => by rw [joinm_left] at h; exact .inr h
  | x :: a, [], z, h => by rw [joinm_right] at h; exact .inl h
  | x :: a, y :: b, z, h => by
    rw [joinm_cons] at h
    split at h
    · rcases List.mem_cons.1 h with rfl | h
      · exact .inl List.mem_cons_self
      · rcases joinm_mem a (y :: b) z h with h | h
        · exact .inl (List.mem_cons_of_mem _ h)
        · exact .inr h
    split at h
    · rcases List.mem_cons.1 h with rfl | h
      · exact .inr List.mem_cons_self
      · rcases joinm_mem (x :: a) b z h with h | h
        · exact .inl h
        · exact .inr (List.mem_cons_of_mem _ h)
    · rcases List.mem_cons.1 h with h | h
      · rcases counts_or x y with e | e
        · rw [h, e]; exact .inl List.mem_cons_self
        · rw [h, e]; exact .inr List.mem_cons_self
      · rcases joinm_mem a b z h with h | h
        · exact .inl (List.mem_cons_of_mem _ h)
        · exact .inr (List.mem_cons_of_mem _ h)
termination_by a b => a.length + b.length
decreasing_by all_goals (simp only [List.length_cons]; omega)

abbrev Up (l : Ring) : Prop := l.Pairwise (fun x y => lessB x.name y.name = true)
theorem name_eq {x y : Mb} (h1 : ¬ lessB x.name y.name = true) (h2 : ¬ lessB y.name x.name = true) : x.name = y.name := by
  rcases less_total (by simpa using h2 : lessB y.name x.name = false) with h | h
  · exact h
  · exact absurd h h1
theorem counts_name {x y : Mb} (h : x.name = y.name) : (counts x y).name = x.name := by
  rcases counts_or x y with e | e <;> rw [e]
  exact h.symm
theorem joinm_up : ∀ (a b : Ring), Up a → Up b → Up (joinm a b)
  | [], b, h1, h2 => by rw [joinm_left]; exact h2
  | x :: a, [], h1, h2 => by rw [joinm_right]; exact h1
  | x :: a, y :: b, h1, h2 => by
    have g1 := List.pairwise_cons.1 h1
    have g2 := List.pairwise_cons.1 h2
    rw [joinm_cons]
    by_cases hc : lessB x.name y.name = true
    · rw [if_pos hc]
      refine List.pairwise_cons.2 ⟨fun z hz => ?_, joinm_up a (y :: b) g1.2 h2⟩
      rcases joinm_mem _ _ _ hz with h | h
      · exact g1.1 z h
      · rcases List.mem_cons.1 h with rfl | h
        · exact hc
        · exact less_trans hc (g2.1 z h)
    rw [if_neg hc]
    by_cases hd : lessB y.name x.name = true
    · rw [if_pos hd]
      refine List.pairwise_cons.2 ⟨fun z hz => ?_, joinm_up (x :: a) b h1 g2.2⟩
      rcases joinm_mem _ _ _ hz with h | h
      · rcases List.mem_cons.1 h with rfl | h
        · exact hd
        · exact less_trans hd (g1.1 z h)
      · exact g2.1 z h
    · rw [if_neg hd]
      have hn := name_eq hc hd
      refine List.pairwise_cons.2 ⟨fun z hz => ?_, joinm_up a b g1.2 g2.2⟩
      rw [counts_name hn]
      rcases joinm_mem _ _ _ hz with h | h
      · exact g1.1 z h
      · rw [hn]; exact g2.1 z h
termination_by a b => a.length + b.length
decreasing_by all_goals (simp only [List.length_cons]; omega)

def findm (n : List UInt8) : Ring → Option Mb
  | [] => none
  | x :: r => if x.name = n then some x else findm n r
theorem findm_none {n : List UInt8} : ∀ {l : Ring}, (∀ x ∈ l, x.name ≠ n) → findm n l = none
  | [], h => rfl
  | x :: l, h => by
    unfold findm
    rw [if_neg (h x List.mem_cons_self)]
    exact findm_none fun y hy => h y (List.mem_cons_of_mem _ hy)
theorem findm_some {n : List UInt8} : ∀ {l : Ring} {x : Mb}, findm n l = some x → x ∈ l ∧ x.name = n
  | [], x, h => by cases h
  | y :: l, x, h => by
    unfold findm at h
    split at h
    · rename_i hn
      obtain rfl := Option.some.inj h
      exact ⟨List.mem_cons_self, hn⟩
    · obtain ⟨h1, h2⟩ := findm_some h
      exact ⟨List.mem_cons_of_mem _ h1, h2⟩
theorem less_ne {x y : List UInt8} (h : lessB x y = true) : y ≠ x := by
  rintro rfl
  rw [less_irr] at h; cases h
theorem findm_ext : ∀ {l m : Ring}, Up l → Up m → (∀ n, findm n l = findm n m) → l = m
  | [], [], _, _, _ => rfl
  | [], y :: m, _, _, h => by
    have := h y.name
    simp [findm] at this
  | x :: l, [], _, _, h => by
    have := h x.name
    simp [findm] at this
  | x :: l, y :: m, h1, h2, h => by
    have g1 := List.pairwise_cons.1 h1
    have g2 := List.pairwise_cons.1 h2
    have hx := h x.name
    have hy := h y.name
    by_cases hc : lessB x.name y.name = true
    · exfalso
      have e : findm x.name (y :: m) = none := findm_none fun z hz => by
        rcases List.mem_cons.1 hz with rfl | hz
        · exact less_ne hc
        · exact less_ne (less_trans hc (g2.1 z hz))
      rw [e] at hx
      simp [findm] at hx
    by_cases hd : lessB y.name x.name = true
    · exfalso
      have e : findm y.name (x :: l) = none := findm_none fun z hz => by
        rcases List.mem_cons.1 hz with rfl | hz
        · exact less_ne hd
        · exact less_ne (less_trans hd (g1.1 z hz))
      rw [e] at hy
      simp [findm] at hy
    have hn := name_eq hc hd
    have hxy : x = y := by
      simp only [findm, if_pos] at hx
      rw [if_pos hn.symm] at hx
      exact Option.some.inj hx
    subst hxy
    rw [findm_ext g1.2 g2.2 fun n => ?_]
    have := h n
    by_cases hq : x.name = n
    · rw [findm_none fun z hz => by rw [← hq]; exact less_ne (g1.1 z hz), findm_none fun z hz => by rw [← hq]; exact less_ne (g2.1 z hz)]
    · simpa [findm, hq] using this
def oj : Option Mb → Option Mb → Option Mb
  | none, q => q
  | some x, none => some x
  | some x, some y => some (counts x y)
theorem oj_none (p : Option Mb) : oj p none = p := by cases p <;> rfl
theorem oj_assoc (p q r : Option Mb) : oj (oj p q) r = oj p (oj q r) := by
  cases p <;> cases q <;> cases r <;> try rfl
  simp only [oj, counts_assoc]
theorem findm_joinm (n : List UInt8) : ∀ (a b : Ring), Up a → Up b → findm n (joinm a b) = oj (findm n a) (findm n b)
  | [], b, h1, h2 => by rw [joinm_left]; rfl
  | x :: a, [], h1, h2 => by rw [joinm_right]; exact (oj_none _).symm
  | x :: a, y :: b, h1, h2 => by
    have g1 := List.pairwise_cons.1 h1
    have g2 := List.pairwise_cons.1 h2
    rw [joinm_cons]
    by_cases hc : lessB x.name y.name = true
    · rw [if_pos hc]
      by_cases hq : x.name = n
      · have e : findm n (y :: b) = none := findm_none fun z hz => by
          rw [← hq]
          rcases List.mem_cons.1 hz with rfl | hz
          · exact less_ne hc
          · exact less_ne (less_trans hc (g2.1 z hz))
        rw [e, oj_none]
        simp only [findm, if_pos hq]
      · rw [show findm n (x :: joinm a (y :: b)) = findm n (joinm a (y :: b)) by simp [findm, hq], show findm n (x :: a) = findm n a by simp [findm, hq]]
        exact findm_joinm n a (y :: b) g1.2 h2
    rw [if_neg hc]
    by_cases hd : lessB y.name x.name = true
    · rw [if_pos hd]
      by_cases hq : y.name = n
      · have e : findm n (x :: a) = none := findm_none fun z hz => by
          rw [← hq]
          rcases List.mem_cons.1 hz with rfl | hz
          · exact less_ne hd
          · exact less_ne (less_trans hd (g1.1 z hz))
        rw [e]
        simp only [findm, if_pos hq]
        rfl
      · rw [show findm n (y :: joinm (x :: a) b) = findm n (joinm (x :: a) b) by simp [findm, hq], show findm n (y :: b) = findm n b by simp [findm, hq]]
        exact findm_joinm n (x :: a) b h1 g2.2
    · rw [if_neg hd]
      have hn := name_eq hc hd
      by_cases hq : x.name = n
      · simp only [findm, if_pos hq, if_pos (hn.symm.trans hq), if_pos ((counts_name hn).trans hq)]
        rfl
      · have hq2 : ¬ y.name = n := fun h => hq (hn.trans h)
        have hq3 : ¬ (counts x y).name = n := fun h => hq ((counts_name hn).symm.trans h)
        simp only [findm, if_neg hq, if_neg hq2, if_neg hq3]
        exact findm_joinm n a b g1.2 g2.2
termination_by a b => a.length + b.length
decreasing_by all_goals (simp only [List.length_cons]; omega)

/-! ### Right ones -/

def Mb.fine (x : Mb) : Prop := x.name.length ≤ 32 ∧ x.name ≠ [] ∧ x.ep ≠ 0 ∧ x.st ≤ 3 ∧ x.toks.length ≤ 16 ∧ rises none x.toks = true
theorem mcheck_iff : ∀ (l : Ring) (p : List UInt8), mcheck p l = 0 ↔ (∀ x ∈ l, x.fine) ∧ (∀ x ∈ l, lessB p x.name = true) ∧ Up l
  | [], p => by simp [mcheck]
  | x :: l, p => by
    have ih := mcheck_iff l x.name
    constructor
    · intro h
      have hp := mcheck_parts _ _ h
      have h0 : lessB p x.name = true ∧ mcheck x.name l = 0 := by
        unfold mcheck at h
        repeat (split at h; · exact absurd h (by decide))
        rename_i a3 _ _ _ _
        exact ⟨by simpa using a3, h⟩
      obtain ⟨g1, g2, g3⟩ := ih.1 h0.2
      refine ⟨hp, fun y hy => ?_, List.pairwise_cons.2 ⟨g2, g3⟩⟩
      rcases List.mem_cons.1 hy with rfl | hy
      · exact h0.1
      · exact less_trans h0.1 (g2 y hy)
    · rintro ⟨h1, h2, h3⟩
      obtain ⟨g1, g2⟩ := List.pairwise_cons.1 h3
      obtain ⟨a1, a2, a3, a4, a5, a6⟩ := h1 x List.mem_cons_self
      have h4 := h2 x List.mem_cons_self
      unfold mcheck
      rw [if_neg (by omega), if_neg a2, if_neg (by simp [h4]), if_neg a3, if_neg (by omega), if_neg (by omega), if_neg (by simp [a6])]
      exact ih.2 ⟨fun y hy => h1 y (List.mem_cons_of_mem _ hy), g1, g2⟩
theorem less_nil_ne {n : List UInt8} (h : n ≠ []) : lessB [] n = true := by
  cases n with
  | nil => exact absurd rfl h
  | cons b t => exact less_nil_cons b t
theorem Ring.check_iff (l : Ring) : Ring.check l = 0 ↔ l.length ≤ 32 ∧ (∀ x ∈ l, x.fine) ∧ Up l := by
  unfold Ring.check
  by_cases h : 32 < l.length
  · rw [if_pos h]; exact ⟨fun h => absurd h (by decide), fun h => by omega⟩
  · rw [if_neg h, mcheck_iff]
    exact ⟨fun ⟨h1, h2, h3⟩ => ⟨by omega, h1, h3⟩, fun ⟨h1, h2, h3⟩ => ⟨h2, fun x hx => less_nil_ne (h2 x hx).2.1, h3⟩⟩
theorem fine_okr {x : Mb} (h : x.fine) (hf : x.fits) : x.okr := ⟨h.2.2.2.1, h.2.2.2.2.1, h.2.2.2.2.2, hf.2.2⟩
theorem joinm_same (a : Ring) : joinm a a = a := by
  induction a with
  | nil => rw [joinm]
  | cons x a ih => rw [joinm_cons, if_neg (by rw [less_irr]; decide), if_neg (by rw [less_irr]; decide), counts_same, ih]
theorem joinm_comm {a b : Ring} (ha : gring a) (hb : gring b) : joinm a b = joinm b a := by
  obtain ⟨a1, a2, a3⟩ := (Ring.check_iff a).1 ha.1
  obtain ⟨b1, b2, b3⟩ := (Ring.check_iff b).1 hb.1
  refine findm_ext (joinm_up a b a3 b3) (joinm_up b a b3 a3) fun n => ?_
  rw [findm_joinm n a b a3 b3, findm_joinm n b a b3 a3]
  cases h1 : findm n a with
  | none => cases findm n b <;> rfl
  | some x =>
    cases h2 : findm n b with
    | none => rfl
    | some y =>
      obtain ⟨g1, g2⟩ := findm_some h1
      obtain ⟨g3, g4⟩ := findm_some h2
      simp only [oj]
      rw [counts_comm (fine_okr (a2 x g1) (ha.2 x g1)) (fine_okr (b2 y g3) (hb.2 y g3)) (g2.trans g4.symm)]
theorem joinm_assoc {a b c : Ring} (ha : Up a) (hb : Up b) (hc : Up c) : joinm (joinm a b) c = joinm a (joinm b c) := by
  have hab := joinm_up a b ha hb
  have hbc := joinm_up b c hb hc
  refine findm_ext (joinm_up _ _ hab hc) (joinm_up _ _ ha hbc) fun n => ?_
  rw [findm_joinm n _ _ hab hc, findm_joinm n _ _ ha hb, findm_joinm n _ _ ha hbc, findm_joinm n _ _ hb hc, oj_assoc]
theorem joinm_good {a b : Ring} (ha : gring a) (hb : gring b) (hl : (joinm a b).length ≤ 32) : gring (joinm a b) := by
  obtain ⟨a1, a2, a3⟩ := (Ring.check_iff a).1 ha.1
  obtain ⟨b1, b2, b3⟩ := (Ring.check_iff b).1 hb.1
  refine ⟨(Ring.check_iff _).2 ⟨hl, fun x hx => ?_, joinm_up a b a3 b3⟩, fun x hx => ?_⟩
  · rcases joinm_mem _ _ _ hx with h | h
    · exact a2 x h
    · exact b2 x h
  · rcases joinm_mem _ _ _ hx with h | h
    · exact ha.2 x h
    · exact hb.2 x h
def ringj (a b : Ring) : Ring × Int := if Ring.check a ≠ 0 ∨ Ring.check b ≠ 0 then ([], 1) else if 32 < (joinm a b).length then ([], 3) else (joinm a b, 0)
theorem ringj_good {a b : Ring} (ha : gring a) (hb : gring b) : ringj a b = if 32 < (joinm a b).length then ([], 3) else (joinm a b, 0) := by
  unfold ringj
  rw [if_neg (by simp [ha.1, hb.1])]
theorem ringj_same {a : Ring} (ha : gring a) : ringj a a = (a, 0) := by
  have := (Ring.check_parts ha.1).1
  rw [ringj_good ha ha, joinm_same, if_neg (by omega)]
theorem ringj_comm {a b : Ring} (ha : gring a) (hb : gring b) : ringj a b = ringj b a := by
  rw [ringj_good ha hb, ringj_good hb ha, joinm_comm ha hb]
theorem ringj_right {a b : Ring} (ha : gring a) (hb : gring b) (h : (ringj a b).2 = 0) : ringj a b = (joinm a b, 0) ∧ gring (joinm a b) := by
  rw [ringj_good ha hb] at h ⊢
  by_cases hl : 32 < (joinm a b).length
  · rw [if_pos hl] at h; exact absurd h (by decide)
  · rw [if_neg hl]; exact ⟨rfl, joinm_good ha hb (by omega)⟩
theorem ringj_assoc {a b c : Ring} (ha : gring a) (hb : gring b) (hc : gring c) (h1 : (ringj a b).2 = 0) (h2 : (ringj b c).2 = 0) : ringj (ringj a b).1 c = ringj a (ringj b c).1 := by
  obtain ⟨e1, g1⟩ := ringj_right ha hb h1
  obtain ⟨e2, g2⟩ := ringj_right hb hc h2
  rw [e1, e2]
  rw [ringj_good g1 hc, ringj_good ha g2, joinm_assoc ((Ring.check_iff a).1 ha.1).2.2 ((Ring.check_iff b).1 hb.1).2.2 ((Ring.check_iff c).1 hc.1).2.2]
end Go.AW
