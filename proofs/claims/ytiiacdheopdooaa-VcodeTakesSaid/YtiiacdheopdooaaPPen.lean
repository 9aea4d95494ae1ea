/-
  Plain: bytes that are written, up to a limit.
-/
namespace Go.AW

/-- The bytes, the limit, an error. -/
structure Pe where
  b : List UInt8
  m : Int
  e : Int

def Pe.Ok (p : Pe) : Prop := 0 ≤ p.m ∧ p.m ≤ 9223372036854775807 ∧ p.b.length ≤ 140737488355328
def Pe.fail (p : Pe) (f : Int) : Pe := ⟨p.b, p.m, if p.e = 0 then f else p.e⟩
def Pe.text (p : Pe) (s : List UInt8) : Pe :=
  if p.e ≠ 0 then p else if (s.length : Int) > p.m - p.b.length then { p with e := 3 } else { p with b := p.b ++ s }
def Pe.room (p : Pe) (n : Int) : Bool := decide (p.e = 0) && decide (n ≤ p.m - p.b.length)
def Pe.roomed (p : Pe) (n : Int) : Pe := ⟨p.b, p.m, if p.e = 0 ∧ n > p.m - p.b.length then 3 else p.e⟩
theorem Pe.roomed_b (p : Pe) (n : Int) : (p.roomed n).b = p.b := rfl
theorem Pe.roomed_m (p : Pe) (n : Int) : (p.roomed n).m = p.m := rfl
def Pe.fin (p : Pe) : List UInt8 × Int := if p.e ≠ 0 then ([], p.e) else (p.b, 0)
def Pe.texts (p : Pe) (l : List (List UInt8)) : Pe := l.foldl Pe.text p

theorem Pe.fail_ok {p : Pe} {f : Int} (h : p.Ok) : (p.fail f).Ok := h
theorem Pe.text_len (p : Pe) (s : List UInt8) : (p.text s).b.length ≤ p.b.length + s.length := by
  unfold Pe.text
  split
  · omega
  split
  · show p.b.length ≤ _; omega
  · simp
theorem Pe.text_m (p : Pe) (s : List UInt8) : (p.text s).m = p.m := by
  unfold Pe.text
  split
  · rfl
  split <;> rfl
theorem Pe.text_fit (p : Pe) (s : List UInt8) : (p.text s).b.length = p.b.length ∨ ((p.text s).b.length : Int) ≤ p.m := by
  unfold Pe.text
  split
  · exact .inl rfl
  split
  · exact .inl rfl
  · right; simp; omega
theorem Pe.text_ok {p : Pe} {s : List UInt8} (h : p.Ok) (hs : p.m ≤ 140737488355328 ∨ p.b.length + s.length ≤ 140737488355328) : (p.text s).Ok := by
  have h1 := Pe.text_len p s
  have h2 := Pe.text_fit p s
  obtain ⟨g1, g2, g3⟩ := h
  refine ⟨?_, ?_, by omega⟩ <;> rw [Pe.text_m]
  · exact g1
  · exact g2
theorem Pe.texts_stuck {p : Pe} (h : p.e ≠ 0) : ∀ l, p.texts l = p
  | [] => rfl
  | s :: l => by
    have : p.text s = p := by unfold Pe.text; rw [if_pos h]
    show (p.text s).texts l = p
    rw [this]
    exact Pe.texts_stuck h l
theorem Pe.texts_len : ∀ (l : List (List UInt8)) (p : Pe), (p.texts l).b.length ≤ p.b.length + l.flatten.length
  | [], p => by simp [Pe.texts]
  | s :: l, p => by
    have h1 := Pe.texts_len l (p.text s)
    have h2 := Pe.text_len p s
    show ((p.text s).texts l).b.length ≤ _
    simp only [List.flatten_cons, List.length_append]
    omega
theorem Pe.texts_ok : ∀ {l : List (List UInt8)} {p : Pe}, p.Ok → (p.m ≤ 140737488355328 ∨ p.b.length + l.flatten.length ≤ 140737488355328) → (p.texts l).Ok
  | [], p, h, _ => h
  | s :: l, p, h, hs => by
    simp only [List.flatten_cons, List.length_append] at hs
    have h2 := Pe.text_len p s
    have h3 := Pe.text_m p s
    exact Pe.texts_ok (p := p.text s) (Pe.text_ok h (by omega)) (by omega)
theorem Pe.texts_m : ∀ (l : List (List UInt8)) (p : Pe), (p.texts l).m = p.m
  | [], p => rfl
  | s :: l, p => by
    show ((p.text s).texts l).m = _
    rw [Pe.texts_m l, Pe.text_m]
theorem Pe.room_fit {p : Pe} {n : Int} (h : p.room n = true) : n ≤ p.m - p.b.length := by
  simp only [Pe.room, Bool.and_eq_true, decide_eq_true_eq] at h
  exact h.2
theorem Pe.texts_snoc (p : Pe) (l : List (List UInt8)) (s : List UInt8) : p.texts (l ++ [s]) = (p.texts l).text s := by
  simp [Pe.texts, List.foldl_append]
theorem Pe.texts_append (p : Pe) (l m : List (List UInt8)) : p.texts (l ++ m) = (p.texts l).texts m := by
  simp [Pe.texts, List.foldl_append]
theorem Pe.room_yes {p : Pe} {s : List UInt8} (h : p.room s.length = true) : p.roomed s.length = p ∧ p.text s = ⟨p.b ++ s, p.m, p.e⟩ := by
  obtain ⟨b, m, e⟩ := p
  simp only [Pe.room, Bool.and_eq_true, decide_eq_true_eq] at h
  obtain ⟨h1, h2⟩ := h
  subst h1
  constructor
  · simp only [Pe.roomed, Pe.mk.injEq, true_and]; rw [if_neg]; omega
  · simp only [Pe.text]; rw [if_neg (by simp), if_neg (by omega)]
theorem Pe.room_no {p : Pe} {s : List UInt8} (h : p.room s.length = false) : p.roomed s.length = p.text s ∧ (p.text s).e ≠ 0 := by
  obtain ⟨b, m, e⟩ := p
  simp only [Pe.room, Bool.and_eq_false_iff, decide_eq_false_iff_not] at h
  by_cases h1 : e = 0
  · subst h1
    have h2 : (s.length : Int) > m - b.length := by omega
    have h3 : m - (b.length : Int) < s.length := h2
    simp [Pe.roomed, Pe.text, h3]
  · simp only [Pe.roomed, Pe.text]
    rw [if_pos h1]
    simp [h1]
end Go.AW
