/-
  Plain: readings and writings of row 06.
-/
import Derived.Test.YtiiacdheopdooaaPTrip
namespace Go.AW
set_option linter.unusedVariables false

/-- What is read or written. -/
structure Ac where
  k : Int
  m : Int
  n : Int
  s : List UInt8
  b : Bool

def Pe.act (p : Pe) (a : Ac) : Pe := if a.k = 0 then p.blob a.m a.s else if a.k = 1 then p.count a.m a.n else p.flag a.b
def Pe.acts (p : Pe) (l : List Ac) : Pe := l.foldl Pe.act p
def Cu.act (c : Cu) (a : Ac) : Cu := if a.k = 0 then (c.blob a.m).2 else if a.k = 1 then (c.count a.m).2 else c.flag.2
def Cu.acts (c : Cu) (l : List Ac) : Cu := l.foldl Cu.act c
def eact (a : Ac) : List UInt8 := if a.k = 0 then eblob a.s else if a.k = 1 then vput a.n.toNat else eflag a.b
def gact (a : Ac) : Prop := if a.k = 0 then a.s.length ≤ a.m.toNat else if a.k = 1 then 0 ≤ a.n ∧ a.n.toNat ≤ a.m.toNat else True

theorem Cu.act_ok {c : Cu} {a : Ac} (h : c.Ok) : (c.act a).Ok := by
  unfold Cu.act
  split
  · exact Cu.blob_ok h
  split
  · exact Cu.count_ok h
  · exact Cu.flag_ok h
theorem Cu.acts_ok : ∀ {l : List Ac} {c : Cu}, c.Ok → (c.acts l).Ok
  | [], c, h => h
  | a :: l, c, h => Cu.acts_ok (l := l) (Cu.act_ok h)
theorem Cu.acts_snoc (c : Cu) (l : List Ac) (a : Ac) : c.acts (l ++ [a]) = (c.acts l).act a := by simp [Cu.acts, List.foldl_append]
theorem Pe.acts_snoc (p : Pe) (l : List Ac) (a : Ac) : p.acts (l ++ [a]) = (p.acts l).act a := by simp [Pe.acts, List.foldl_append]
theorem Pe.act_yes {p : Pe} {a : Ac} (h : (p.act a).e = 0) : p.e = 0 ∧ (p.act a).b = p.b ++ eact a ∧ gact a := by
  unfold Pe.act eact gact at *
  split at h <;> rename_i h1
  · simp only [if_pos h1]; exact Pe.blob_yes h
  split at h <;> rename_i h2
  · simp only [if_neg h1, if_pos h2]; exact Pe.count_yes h
  · simp only [if_neg h1, if_neg h2]; exact ⟨(Pe.flag_yes h).1, (Pe.flag_yes h).2, trivial⟩
theorem Pe.acts_yes : ∀ {l : List Ac} {p : Pe}, (p.acts l).e = 0 → p.e = 0 ∧ (p.acts l).b = p.b ++ (l.map eact).flatten ∧ ∀ a ∈ l, gact a
  | [], p, h => ⟨h, by simp [Pe.acts], by simp⟩
  | a :: l, p, h => by
    obtain ⟨h1, h2, h3⟩ := Pe.acts_yes (l := l) (p := p.act a) h
    obtain ⟨g1, g2, g3⟩ := Pe.act_yes h1
    refine ⟨g1, ?_, fun x hx => ?_⟩
    · show ((p.act a).acts l).b = _
      rw [h2, g2]; simp
    · rcases List.mem_cons.1 hx with rfl | hx
      · exact g3
      · exact h3 x hx
theorem Pe.act_m (p : Pe) (a : Ac) : (p.act a).m = p.m := by
  unfold Pe.act
  split
  · exact Pe.blob_m _ _ _
  split
  · unfold Pe.count
    split
    · rfl
    split
    · rfl
    · exact Pe.text_m _ _
  · exact Pe.text_m _ _
theorem Pe.acts_m : ∀ (l : List Ac) (p : Pe), (p.acts l).m = p.m
  | [], p => rfl
  | a :: l, p => by
    show ((p.act a).acts l).m = _
    rw [Pe.acts_m l, Pe.act_m]
theorem Pe.act_len (p : Pe) (a : Ac) (hs : a.s.length ≤ 200) (hn : a.n ≤ 9223372036854775807) : (p.act a).b.length ≤ p.b.length + 210 := by
  unfold Pe.act
  split
  · have := Pe.blob_len p a.m a.s (by omega); omega
  split
  · unfold Pe.count
    split
    · show p.b.length ≤ _; omega
    split
    · show p.b.length ≤ _; omega
    · have := Pe.text_len p (vput a.n.toNat)
      have := vput_len10 (n := a.n.toNat) (by omega)
      omega
  · have := Pe.text_len p [if a.b then 1 else 0]
    simp only [List.length_cons, List.length_nil] at this
    show (p.text _).b.length ≤ _
    omega
theorem Pe.act_ok {p : Pe} {a : Ac} (h : p.Ok) (hp : p.b.length ≤ 100000) (hs : a.s.length ≤ 200) (hn : a.n ≤ 9223372036854775807) : (p.act a).Ok := by
  have h1 := Pe.act_len p a hs hn
  have h2 := Pe.act_m p a
  obtain ⟨g1, g2, g3⟩ := h
  exact ⟨by omega, by omega, by omega⟩
theorem Pe.acts_ok : ∀ (l : List Ac) {p : Pe}, p.Ok → p.b.length + 210 * l.length ≤ 100000 → (∀ a ∈ l, a.s.length ≤ 200) → (∀ a ∈ l, a.n ≤ 9223372036854775807) → (p.acts l).Ok ∧ (p.acts l).b.length ≤ p.b.length + 210 * l.length
  | [], p, h, _, _, _ => ⟨h, by show p.b.length ≤ _; omega⟩
  | a :: l, p, h, hp, hs, hn => by
    simp only [List.length_cons] at hp ⊢
    have h1 := Pe.act_len p a (hs a List.mem_cons_self) (hn a List.mem_cons_self)
    have := Pe.acts_ok l (p := p.act a) (Pe.act_ok h (by omega) (hs a List.mem_cons_self) (hn a List.mem_cons_self)) (by omega) (fun x hx => hs x (List.mem_cons_of_mem _ hx)) (fun x hx => hn x (List.mem_cons_of_mem _ hx))
    refine ⟨this.1, ?_⟩
    have := this.2
    show ((p.act a).acts l).b.length ≤ _
    omega
/-- What was written is read again. -/
theorem Cu.act_fore {c : Cu} {a : Ac} {r : List UInt8} (ha : gact a) (hs : a.s.length ≤ 200) (hn : a.n ≤ 9223372036854775807) (hc : c.e = 0) (hl : c.a ≤ c.s.length) (hd : c.s.drop c.a = eact a ++ r) :
    c.act a = ⟨c.s, c.a + (eact a).length, 0⟩ ∧ (a.k = 0 → (c.blob a.m).1 = a.s) ∧ (a.k = 1 → (c.count a.m).1 = a.n) ∧ (a.k ≠ 0 → a.k ≠ 1 → c.flag.1 = a.b) := by
  unfold gact at ha
  unfold eact at hd
  unfold Cu.act eact
  by_cases h1 : a.k = 0
  · rw [if_pos h1] at ha hd
    rw [if_pos h1, if_pos h1]
    have := (trip_blob a.m).fore c a.s r ⟨ha, by omega⟩ hc hl hd
    try simp only at this
    rw [this]
    exact ⟨rfl, fun _ => rfl, fun h => absurd h1 (by omega), fun h => absurd h1 h⟩
  by_cases h2 : a.k = 1
  · rw [if_neg h1, if_pos h2] at ha hd
    rw [if_neg h1, if_pos h2, if_neg h1, if_pos h2]
    have := (trip_count a.m).fore c a.n.toNat r ⟨ha.2, by omega⟩ hc hl hd
    try simp only at this
    rw [this]
    exact ⟨rfl, fun h => absurd h h1, fun _ => by simp only; omega, fun _ h => absurd h2 h⟩
  · rw [if_neg h1, if_neg h2] at ha hd
    rw [if_neg h1, if_neg h2, if_neg h1, if_neg h2]
    have := trip_flag.fore c a.b r trivial hc hl hd
    rw [this]
    exact ⟨rfl, fun h => absurd h h1, fun h => absurd h h2, fun _ _ => rfl⟩
theorem Cu.act_s (c : Cu) (a : Ac) : (c.act a).s = c.s := by
  unfold Cu.act
  split
  · exact (trip_blob a.m).text c
  split
  · exact (trip_count a.m).text c
  · exact trip_flag.text c
theorem Cu.acts_fore : ∀ {l : List Ac} {c : Cu} {r : List UInt8}, (∀ a ∈ l, gact a) → (∀ a ∈ l, a.s.length ≤ 200) → (∀ a ∈ l, a.n ≤ 9223372036854775807) → c.e = 0 → c.a ≤ c.s.length → c.s.drop c.a = (l.map eact).flatten ++ r →
    c.acts l = ⟨c.s, c.a + (l.map eact).flatten.length, 0⟩
  | [], c, r, _, _, _, hc, _, _ => by
    obtain ⟨s, a, e⟩ := c
    simp only at hc
    subst hc
    simp [Cu.acts]
  | a :: l, c, r, hg, hs, hn, hc, hl, hd => by
    simp only [List.map_cons, List.flatten_cons, List.append_assoc] at hd
    have h1 := (Cu.act_fore (hg a List.mem_cons_self) (hs a List.mem_cons_self) (hn a List.mem_cons_self) hc hl hd).1
    have hl2 := congrArg List.length hd
    rw [List.length_append, List.length_drop] at hl2
    show (c.act a).acts l = _
    rw [h1]
    rw [Cu.acts_fore (l := l) (r := r) (fun x hx => hg x (List.mem_cons_of_mem _ hx)) (fun x hx => hs x (List.mem_cons_of_mem _ hx)) (fun x hx => hn x (List.mem_cons_of_mem _ hx)) rfl (by show c.a + _ ≤ c.s.length; omega) (by show c.s.drop (c.a + (eact a).length) = _; rw [← List.drop_drop, hd, List.drop_left' rfl])]
    simp [Nat.add_assoc]
end Go.AW
