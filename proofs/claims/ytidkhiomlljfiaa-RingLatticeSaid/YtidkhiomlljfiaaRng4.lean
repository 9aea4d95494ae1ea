/-
  members that are read: the document's.
-/
import Derived.Test.YtidkhiomlljfiaaRng3
namespace Go.AW
open Go Go.Proofs
set_option maxHeartbeats 4000000
set_option maxRecDepth 10000
set_option linter.unusedSimpArgs false
set_option linter.unusedVariables false
attribute [local irreducible] thenQ blockQ RetQ AL AW AC AOp

theorem vtake_stuck {c : Cu} (h : c.e ≠ 0) : Cu.vtake ⟨c.s, c.a, c.e⟩ = (0, c) := by
  show Cu.vtake c = _
  unfold Cu.vtake; rw [if_pos h]
theorem byte_stuck {c : Cu} (h : c.e ≠ 0) : Cu.byte ⟨c.s, c.a, c.e⟩ = (0, c) := by
  show Cu.byte c = _
  unfold Cu.byte; rw [Cu.bytes_stuck 1 h]; rfl
theorem count_stuck {c : Cu} (h : c.e ≠ 0) (m : Int) : Cu.count ⟨c.s, c.a, c.e⟩ m = (0, c) := by
  have hv : Cu.vtake c = (0, c) := vtake_stuck h
  show Cu.count c m = _
  unfold Cu.count
  rw [hv, if_pos h]
/-- The same, error by error. -/
theorem mem_ways2 (p : List UInt8) (c : Cu) (hok : c.Ok) : ∃ t c1 n c2 b c3 k c4, Cu.blob ⟨c.s, c.a, c.e⟩ 32 = (t, c1) ∧ c1.Ok ∧
    ((∃ f, f ≠ 0 ∧ ((c1.e ≠ 0 ∧ f = c1.e) ∨ (c1.e = 0 ∧ t = [] ∧ f = 14) ∨ (c1.e = 0 ∧ t ≠ [] ∧ lessB p t = false ∧ f = 6)) ∧ c.memg p = (⟨t, 0, 0, []⟩, ⟨c1.s, c1.a, f⟩)) ∨
     (c1.e = 0 ∧ t ≠ [] ∧ lessB p t = true ∧ Cu.vtake ⟨c1.s, c1.a, 0⟩ = (n, c2) ∧ c2.Ok ∧ n < 18446744073709551616 ∧
      ((∃ f, f ≠ 0 ∧ ((c2.e ≠ 0 ∧ f = c2.e) ∨ (c2.e = 0 ∧ n = 0 ∧ f = 7)) ∧ c.memg p = (⟨t, n, 0, []⟩, ⟨c2.s, c2.a, f⟩)) ∨
       (c2.e = 0 ∧ n ≠ 0 ∧ Cu.byte ⟨c2.s, c2.a, 0⟩ = (b, c3) ∧ c3.Ok ∧ b < 256 ∧
        ((∃ f, f ≠ 0 ∧ ((c3.e ≠ 0 ∧ f = c3.e) ∨ (c3.e = 0 ∧ 3 < b ∧ f = 13)) ∧ c.memg p = (⟨t, n, b, []⟩, ⟨c3.s, c3.a, f⟩)) ∨
         (c3.e = 0 ∧ ¬ 3 < b ∧ Cu.count ⟨c3.s, c3.a, 0⟩ 16 = (k, c4) ∧ c4.Ok ∧ k ≤ 16 ∧ (c4.e = 0 ∨ k = 0) ∧ c.memg p = (⟨t, n, b, (Cu.tokg k none c4).1⟩, (Cu.tokg k none c4).2))))))) := by
  obtain ⟨t, c1, q, n, c2, r, b, c3, u, k, c4, hb, hv, hby, hc, hqo, hro, huo, h4o, hk, hb2, hn2, w1, w2, w3, hm⟩ := mem_ways p c hok
  have hb' : Cu.blob c 32 = (t, c1) := hb
  have h1o : c1.Ok := by
    have := Cu.blob_ok (max := 32) hok
    rw [hb'] at this; exact this
  -- what is stuck at the name, at the epoch, at the state
  have stuck1 : ∀ f, f ≠ 0 → q = ⟨c1.s, c1.a, f⟩ → c.memg p = (⟨t, 0, 0, []⟩, ⟨c1.s, c1.a, f⟩) := fun f hf hq => by
    have e1 := vtake_stuck (c := q) (by rw [hq]; exact hf)
    rw [hv] at e1
    obtain ⟨rfl, rfl⟩ := Prod.mk.inj e1
    have hr : r = c2 := by
      rcases w2 with ⟨_, h⟩ | ⟨_, h⟩
      · rw [h]; exact Cu.fail_stuck (by rw [hq]; exact hf) 7
      · exact h
    have e2 := byte_stuck (c := r) (by rw [hr, hq]; exact hf)
    rw [hby] at e2
    obtain ⟨rfl, rfl⟩ := Prod.mk.inj e2
    have hu : u = c3 := by
      rcases w3 with ⟨_, h⟩ | ⟨_, h⟩
      · rw [h]; exact Cu.fail_stuck (by rw [hr, hq]; exact hf) 13
      · exact h
    have e3 := count_stuck (c := u) (by rw [hu, hr, hq]; exact hf) 16
    rw [hc] at e3
    obtain ⟨rfl, rfl⟩ := Prod.mk.inj e3
    rw [hm, hu, hr, hq]; rfl
  have stuck2 : ∀ f, f ≠ 0 → r = ⟨c2.s, c2.a, f⟩ → c.memg p = (⟨t, n, 0, []⟩, ⟨c2.s, c2.a, f⟩) := fun f hf hr => by
    have e2 := byte_stuck (c := r) (by rw [hr]; exact hf)
    rw [hby] at e2
    obtain ⟨rfl, rfl⟩ := Prod.mk.inj e2
    have hu : u = c3 := by
      rcases w3 with ⟨_, h⟩ | ⟨_, h⟩
      · rw [h]; exact Cu.fail_stuck (by rw [hr]; exact hf) 13
      · exact h
    have e3 := count_stuck (c := u) (by rw [hu, hr]; exact hf) 16
    rw [hc] at e3
    obtain ⟨rfl, rfl⟩ := Prod.mk.inj e3
    rw [hm, hu, hr]; rfl
  have stuck3 : ∀ f, f ≠ 0 → u = ⟨c3.s, c3.a, f⟩ → c.memg p = (⟨t, n, b, []⟩, ⟨c3.s, c3.a, f⟩) := fun f hf hu => by
    have e3 := count_stuck (c := u) (by rw [hu]; exact hf) 16
    rw [hc] at e3
    obtain ⟨rfl, rfl⟩ := Prod.mk.inj e3
    rw [hm, hu]; rfl
  have failed : ∀ (d : Cu) (f : Int), d.e = 0 → d.fail f = ⟨d.s, d.a, f⟩ := fun d f h => by unfold Cu.fail; rw [if_pos h]
  have same : ∀ d : Cu, d = ⟨d.s, d.a, d.e⟩ := fun d => rfl
  refine ⟨t, c1, n, c2, b, c3, k, c4, hb, h1o, ?_⟩
  by_cases z1 : c1.e = 0
  case neg =>
    refine .inl ⟨c1.e, z1, .inl ⟨z1, rfl⟩, stuck1 _ z1 ?_⟩
    rcases w1 with ⟨_, h⟩ | ⟨_, _, h⟩ | ⟨_, _, h⟩
    · rw [h]; exact Cu.fail_stuck z1 14
    · rw [h]; exact Cu.fail_stuck z1 6
    · exact h
  rcases w1 with ⟨a1, h⟩ | ⟨a1, a2, h⟩ | ⟨a1, a2, h⟩
  · exact .inl ⟨14, by decide, .inr (.inl ⟨z1, a1, rfl⟩), stuck1 14 (by decide) (by rw [h]; exact failed c1 14 z1)⟩
  · exact .inl ⟨6, by decide, .inr (.inr ⟨z1, a1, a2, rfl⟩), stuck1 6 (by decide) (by rw [h]; exact failed c1 6 z1)⟩
  have hq1 : q = ⟨c1.s, c1.a, 0⟩ := by rw [h, same c1, z1]
  rw [hq1] at hv
  have h2o : c2.Ok := by
    have := Cu.vtake_ok (c := ⟨c1.s, c1.a, 0⟩) h1o
    rw [hv] at this; exact this
  refine .inr ⟨z1, a1, a2, hv, h2o, hn2, ?_⟩
  by_cases z2 : c2.e = 0
  case neg =>
    refine .inl ⟨c2.e, z2, .inl ⟨z2, rfl⟩, stuck2 _ z2 ?_⟩
    rcases w2 with ⟨_, h⟩ | ⟨_, h⟩
    · rw [h]; exact Cu.fail_stuck z2 7
    · exact h
  rcases w2 with ⟨a3, h⟩ | ⟨a3, h⟩
  · exact .inl ⟨7, by decide, .inr ⟨z2, a3, rfl⟩, stuck2 7 (by decide) (by rw [h]; exact failed c2 7 z2)⟩
  have hr1 : r = ⟨c2.s, c2.a, 0⟩ := by rw [h, same c2, z2]
  rw [hr1] at hby
  have h3o : c3.Ok := by
    have := Cu.byte_ok (c := ⟨c2.s, c2.a, 0⟩) h2o
    rw [hby] at this; exact this
  refine .inr ⟨z2, a3, hby, h3o, hb2, ?_⟩
  by_cases z3 : c3.e = 0
  case neg =>
    refine .inl ⟨c3.e, z3, .inl ⟨z3, rfl⟩, stuck3 _ z3 ?_⟩
    rcases w3 with ⟨_, h⟩ | ⟨_, h⟩
    · rw [h]; exact Cu.fail_stuck z3 13
    · exact h
  rcases w3 with ⟨a4, h⟩ | ⟨a4, h⟩
  · exact .inl ⟨13, by decide, .inr ⟨z3, a4, rfl⟩, stuck3 13 (by decide) (by rw [h]; exact failed c3 13 z3)⟩
  have hu1 : u = ⟨c3.s, c3.a, 0⟩ := by rw [h, same c3, z3]
  rw [hu1] at hc
  refine .inr ⟨z3, a4, hc, h4o, hk, ?_, hm⟩
  have hze : (Cu.count ⟨c3.s, c3.a, 0⟩ 16).2.e = 0 ∨ (Cu.count ⟨c3.s, c3.a, 0⟩ 16).1 = 0 := by
    unfold Cu.count
    by_cases h1 : (Cu.vtake ⟨c3.s, c3.a, 0⟩).2.e = 0
    · rw [if_neg (by simpa using h1)]
      split
      · exact .inr rfl
      · exact .inl h1
    · rw [if_pos h1]; exact .inr rfl
  rw [hc] at hze
  exact hze
end Go.AW
