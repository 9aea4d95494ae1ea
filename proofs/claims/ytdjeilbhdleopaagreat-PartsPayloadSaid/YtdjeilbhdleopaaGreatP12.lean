/-
  members that are read: the document's.
-/
import Derived.Test.YtdjeilbhdleopaaGreatP11
set_option linter.unusedVariables false
set_option linter.unusedSimpArgs false
set_option maxHeartbeats 4000000
set_option maxRecDepth 10000
namespace Go.AW
open Go Go.Proofs
attribute [local irreducible] thenQ blockQ RetQ AL AW AC AOp
theorem vtake_stuck {c : Cu} (h : c.e ≠ 0) : Cu.vtake ⟨c.s, c.a, c.e⟩ = (0, c) := by
  show Cu.vtake c = _
  unfold Cu.vtake; rw [if_pos h]
theorem byte_stuck {c : Cu} (h : c.e ≠ 0) : Cu.byte ⟨c.s, c.a, c.e⟩ = (0, c) := by
  show Cu.byte c = _
  unfold Cu.byte; rw [Cu.bytes_stuck 1 h]; rfl
theorem count_stuck {c : Cu} (h : c.e ≠ 0) (m : Int) : Cu.count ⟨c.s, c.a, c.e⟩ m = (0, c) := by
  have hv : Cu.vtake c = (0, c) := vtake_stuck h
  show Cu.count c m = _
  unfold Cu.count
  rw [hv, if_pos h]
theorem mem_ways2 (p : List UInt8) (c : Cu) (hok : c.Ok) : ∃ t c1 n c2 b c3 k c4, Cu.blob ⟨c.s, c.a, c.e⟩ 32 = (t, c1) ∧ c1.Ok ∧
    ((∃ f, f ≠ 0 ∧ ((c1.e ≠ 0 ∧ f = c1.e) ∨ (c1.e = 0 ∧ t = [] ∧ f = 14) ∨ (c1.e = 0 ∧ t ≠ [] ∧ lessB p t = false ∧ f = 6)) ∧ c.memg p = (⟨t, 0, 0, []⟩, ⟨c1.s, c1.a, f⟩)) ∨
     (c1.e = 0 ∧ t ≠ [] ∧ lessB p t = true ∧ Cu.vtake ⟨c1.s, c1.a, 0⟩ = (n, c2) ∧ c2.Ok ∧ n < 18446744073709551616 ∧
      ((∃ f, f ≠ 0 ∧ ((c2.e ≠ 0 ∧ f = c2.e) ∨ (c2.e = 0 ∧ n = 0 ∧ f = 7)) ∧ c.memg p = (⟨t, n, 0, []⟩, ⟨c2.s, c2.a, f⟩)) ∨
       (c2.e = 0 ∧ n ≠ 0 ∧ Cu.byte ⟨c2.s, c2.a, 0⟩ = (b, c3) ∧ c3.Ok ∧ b < 256 ∧
        ((∃ f, f ≠ 0 ∧ ((c3.e ≠ 0 ∧ f = c3.e) ∨ (c3.e = 0 ∧ 3 < b ∧ f = 13)) ∧ c.memg p = (⟨t, n, b, []⟩, ⟨c3.s, c3.a, f⟩)) ∨
         (c3.e = 0 ∧ ¬ 3 < b ∧ Cu.count ⟨c3.s, c3.a, 0⟩ 16 = (k, c4) ∧ c4.Ok ∧ k ≤ 16 ∧ (c4.e = 0 ∨ k = 0) ∧ c.memg p = (⟨t, n, b, (Cu.tokg k none c4).1⟩, (Cu.tokg k none c4).2))))))) := by
  obtain ⟨t, c1, q, n, c2, r, b, c3, u, k, c4, hb, hv, hby, hc, hqo, hro, huo, h4o, hk, hb2, hn2, w1, w2, w3, hm⟩ := mem_ways p c hok
  have hb' : Cu.blob c 32 = (t, c1) := hb
  have h1o : c1.Ok := by
    have := Cu.blob_ok (max := 32) hok
    rw [hb'] at this; exact this
  -- what is stuck at the name, at the epoch, at the state
  have stuck1 : ∀ f, f ≠ 0 → q = ⟨c1.s, c1.a, f⟩ → c.memg p = (⟨t, 0, 0, []⟩, ⟨c1.s, c1.a, f⟩) := fun f hf hq => by
    have e1 := vtake_stuck (c := q) (by rw [hq]; exact hf)
    rw [hv] at e1
    obtain ⟨rfl, rfl⟩ := Prod.mk.inj e1
    have hr : r = c2 := by
      rcases w2 with ⟨_, h⟩ | ⟨_, h⟩
      · rw [h]; exact Cu.fail_stuck (by rw [hq]; exact hf) 7
      · exact h
    have e2 := byte_stuck (c := r) (by rw [hr, hq]; exact hf)
    rw [hby] at e2
    obtain ⟨rfl, rfl⟩ := Prod.mk.inj e2
    have hu : u = c3 := by
      rcases w3 with ⟨_, h⟩ | ⟨_, h⟩
      · rw [h]; exact Cu.fail_stuck (by rw [hr, hq]; exact hf) 13
      · exact h
    have e3 := count_stuck (c := u) (by rw [hu, hr, hq]; exact hf) 16
    rw [hc] at e3
    obtain ⟨rfl, rfl⟩ := Prod.mk.inj e3
    rw [hm, hu, hr, hq]; rfl
  have stuck2 : ∀ f, f ≠ 0 → r = ⟨c2.s, c2.a, f⟩ → c.memg p = (⟨t, n, 0, []⟩, ⟨c2.s, c2.a, f⟩) := fun f hf hr => by
    have e2 := byte_stuck (c := r) (by rw [hr]; exact hf)
    rw [hby] at e2
    obtain ⟨rfl, rfl⟩ := Prod.mk.inj e2
    have hu : u = c3 := by
      rcases w3 with ⟨_, h⟩ | ⟨_, h⟩
      · rw [h]; exact Cu.fail_stuck (by rw [hr]; exact hf) 13
      · exact h
    have e3 := count_stuck (c := u) (by rw [hu, hr]; exact hf) 16
    rw [hc] at e3
    obtain ⟨rfl, rfl⟩ := Prod.mk.inj e3
    rw [hm, hu, hr]; rfl
  have stuck3 : ∀ f, f ≠ 0 → u = ⟨c3.s, c3.a, f⟩ → c.memg p = (⟨t, n, b, []⟩, ⟨c3.s, c3.a, f⟩) := fun f hf hu => by
    have e3 := count_stuck (c := u) (by rw [hu]; exact hf) 16
    rw [hc] at e3
    obtain ⟨rfl, rfl⟩ := Prod.mk.inj e3
    rw [hm, hu]; rfl
  have failed : ∀ (d : Cu) (f : Int), d.e = 0 → d.fail f = ⟨d.s, d.a, f⟩ := fun d f h => by unfold Cu.fail; rw [if_pos h]
  have same : ∀ d : Cu, d = ⟨d.s, d.a, d.e⟩ := fun d => rfl
  refine ⟨t, c1, n, c2, b, c3, k, c4, hb, h1o, ?_⟩
  by_cases z1 : c1.e = 0
  case neg =>
    refine .inl ⟨c1.e, z1, .inl ⟨z1, rfl⟩, stuck1 _ z1 ?_⟩
    rcases w1 with ⟨_, h⟩ | ⟨_, _, h⟩ | ⟨_, _, h⟩
    · rw [h]; exact Cu.fail_stuck z1 14
    · rw [h]; exact Cu.fail_stuck z1 6
    · exact h
  rcases w1 with ⟨a1, h⟩ | ⟨a1, a2, h⟩ | ⟨a1, a2, h⟩
  · exact .inl ⟨14, by decide, .inr (.inl ⟨z1, a1, rfl⟩), stuck1 14 (by decide) (by rw [h]; exact failed c1 14 z1)⟩
  · exact .inl ⟨6, by decide, .inr (.inr ⟨z1, a1, a2, rfl⟩), stuck1 6 (by decide) (by rw [h]; exact failed c1 6 z1)⟩
  have hq1 : q = ⟨c1.s, c1.a, 0⟩ := by rw [h, same c1, z1]
  rw [hq1] at hv
  have h2o : c2.Ok := by
    have := Cu.vtake_ok (c := ⟨c1.s, c1.a, 0⟩) h1o
    rw [hv] at this; exact this
  refine .inr ⟨z1, a1, a2, hv, h2o, hn2, ?_⟩
  by_cases z2 : c2.e = 0
  case neg =>
    refine .inl ⟨c2.e, z2, .inl ⟨z2, rfl⟩, stuck2 _ z2 ?_⟩
    rcases w2 with ⟨_, h⟩ | ⟨_, h⟩
    · rw [h]; exact Cu.fail_stuck z2 7
    · exact h
  rcases w2 with ⟨a3, h⟩ | ⟨a3, h⟩
  · exact .inl ⟨7, by decide, .inr ⟨z2, a3, rfl⟩, stuck2 7 (by decide) (by rw [h]; exact failed c2 7 z2)⟩
  have hr1 : r = ⟨c2.s, c2.a, 0⟩ := by rw [h, same c2, z2]
  rw [hr1] at hby
  have h3o : c3.Ok := by
    have := Cu.byte_ok (c := ⟨c2.s, c2.a, 0⟩) h2o
    rw [hby] at this; exact this
  refine .inr ⟨z2, a3, hby, h3o, hb2, ?_⟩
  by_cases z3 : c3.e = 0
  case neg =>
    refine .inl ⟨c3.e, z3, .inl ⟨z3, rfl⟩, stuck3 _ z3 ?_⟩
    rcases w3 with ⟨_, h⟩ | ⟨_, h⟩
    · rw [h]; exact Cu.fail_stuck z3 13
    · exact h
  rcases w3 with ⟨a4, h⟩ | ⟨a4, h⟩
  · exact .inl ⟨13, by decide, .inr ⟨z3, a4, rfl⟩, stuck3 13 (by decide) (by rw [h]; exact failed c3 13 z3)⟩
  have hu1 : u = ⟨c3.s, c3.a, 0⟩ := by rw [h, same c3, z3]
  rw [hu1] at hc
  refine .inr ⟨z3, a4, hc, h4o, hk, ?_, hm⟩
  have hze : (Cu.count ⟨c3.s, c3.a, 0⟩ 16).2.e = 0 ∨ (Cu.count ⟨c3.s, c3.a, 0⟩ 16).1 = 0 := by
    unfold Cu.count
    by_cases h1 : (Cu.vtake ⟨c3.s, c3.a, 0⟩).2.e = 0
    · rw [if_neg (by simpa using h1)]
      split
      · exact .inr rfl
      · exact .inl h1
    · rw [if_pos h1]; exact .inr rfl
  rw [hc] at hze
  exact hze
abbrev Mfam := Fam Cu.mem (fun (_ : List UInt8) (x : Mb) => x.name)
theorem ring_snoc (l : Ring) (x : Mb) : ringD l ++ [D.s (.string ⟨x.name.toArray⟩), .s (.int .u64 (x.ep : Nat)), .s (.int .u8 (x.st : Nat)), .l x.toks.length (toksD x.toks)] = ringD (l ++ [x]) := by
  rw [ringD, ringD, List.map_append, List.flatten_append]; rfl
theorem mem_step {n : Nat} {c0 c : Cu} {out : Ring} {p : List UInt8} (hf : Mfam n [] c0 out p c) (hce : c.e = 0) (hlen : out.length < n) :
    ((c.memg p).2.e = 0 → Mfam n [] c0 (out ++ [(c.memg p).1]) (c.memg p).1.name (c.memg p).2) ∧ ((c.memg p).2.e ≠ 0 → (Cu.mems n [] c0).2 = (c.memg p).2) := by
  have hstep := Fam.step hf hce hlen
  obtain ⟨h1, h2⟩ := memg_mem p c
  refine ⟨fun h => ?_, fun h => ?_⟩
  · rw [h1] at h
    rw [h2 h]
    exact hstep
  · rw [h1] at h ⊢
    exact Fam.bad (fun k c h => (trip_mem k).stuck c h) hstep h
theorem Cu.memg_ok {c : Cu} {p : List UInt8} (h : c.Ok) : (c.memg p).2.Ok := by rw [(memg_mem p c).1]; exact Cu.mem_ok h
theorem ring_Take (s : List UInt8) (a : Nat) (e : Int) (h : Cu.Ok ⟨s, a, e⟩) : AC Tryz.prog 209 [.p 0 0] [Cu.ob ⟨s, a, e⟩] fun x σ => x = .d (.l (Cu.ring ⟨s, a, e⟩).1.length (ringD (Cu.ring ⟨s, a, e⟩).1)) ∧ σ = [Cu.ob (Cu.ring ⟨s, a, e⟩).2] := by
  refine AC.wk Tryz.func209 ?_
  have hlt : (Cu.count ⟨s, a, e⟩ 32).1 ≤ 32 := Cu.count_max ⟨s, a, e⟩ 32
  have hok0 := Cu.count_ok (max := 32) h
  have hvec : Cu.ring ⟨s, a, e⟩ = (if ((Cu.count ⟨s, a, e⟩ 32).2.mems (Cu.count ⟨s, a, e⟩ 32).1 []).2.e ≠ 0 then [] else ((Cu.count ⟨s, a, e⟩ 32).2.mems (Cu.count ⟨s, a, e⟩ 32).1 []).1, ((Cu.count ⟨s, a, e⟩ 32).2.mems (Cu.count ⟨s, a, e⟩ 32).1 []).2) := rfl
  rw [hvec]
  generalize hz : Cu.count ⟨s, a, e⟩ 32 = z at *
  obtain ⟨n, c0⟩ := z
  simp only at hlt hok0 ⊢
  clear hvec
  focus (have kxs := hz; have kk1 := uN [0] (blob_Count s a e 32 h (by decide)); (repeat' (first | refine G ?_ | refine AW.ret ?_ | (refine GC ?_ ?_ <;> intro h <;> (try simp only [hsB] at h) <;> try exact xf) | (refine GL ?_ ?_ <;> intro h <;> (try simp only [hsN] at h) <;> (try simp only [h]) <;> (try simp only [hsB] at h) <;> try exact xf) | fail)); all_goals clear kxs kk1)
  refine AW.birth 314 4 [4] [] ?_
  refine AW.rounds [0, 2, 3, 4, 5] (fun x : Ring × List UInt8 × Cu => [(0, .p 0 0), (2, .d (.s (.slice none 0 0))), (3, iv .i64 n), (4, .o 1 x.1.length), (5, sv (bs x.2.1))]) (fun x => [Cu.ob x.2.2, .row 314 4 x.1.length (ringD x.1)])
    (fun x => x.2.2.Ok ∧ x.1.length ≤ n ∧ (x.1 = [] → x.2.1 = []) ∧ (x.2.2.e = 0 → Mfam n [] c0 x.1 x.2.1 x.2.2) ∧ (x.2.2.e ≠ 0 → (Cu.mems n [] c0).2 = x.2.2)) (fun x => n - x.1.length) ([], [], c0)
    ⟨hok0, Nat.zero_le _, fun _ => rfl, fun _ => Fam.start n [] c0, fun h => Cu.many_stuck (fun k c h => (trip_mem k).stuck c h) _ _ _ h⟩ rfl rfl (fun _ _ => Nat.le_of_ble_eq_true rfl) (fun _ _ => rfl) (fun _ _ => rfl) ?_
  rintro ⟨out, p, c⟩ ⟨hok, hol, hfp, hf, hbad⟩ J hJ
  simp only at hok hol hfp hf hbad ⊢
  have herr := cursor_Err c.s c.a c.e
  by_cases hce : c.e = 0
  case neg =>
    rw [hbad hce, if_pos hce]
    (have kk1 := uN [0] herr; exact Wc1)
  have hf := hf hce
  by_cases hlen : out.length < n
  case neg =>
    have hdone := Fam.done hf hce hlen
    have hb2 : Cu.mems n [] c0 = (out, c) := hdone
    rw [hb2]
    simp only
    rw [if_neg (by simpa using hce)]
    (have kk1 := uN [0] herr; exact Wc1)
  obtain ⟨hs1, hs2⟩ := mem_step hf hce hlen
  have hgo := Cu.memg_ok (p := p) hok
  have hmb := ring_member c hok p (decide ((out.length : Int) = 0)) (fun h => hfp (List.length_eq_zero_iff.1 (by have := of_decide_eq_true h; omega)))
  generalize c.memg p = g at *
  obtain ⟨x, c'⟩ := g
  simp only at hs1 hs2 hgo hmb
  have go : ∀ T' σ', keepT T' [0, 2, 3, 4, 5] = [(0, .p 0 0), (2, .d (.s (.slice none 0 0))), (3, iv .i64 n), (4, .o 1 (out.length + 1)), (5, sv (bs x.name))] → σ'.take 2 = [Cu.ob c', .row 314 4 (out.length + 1) (ringD out ++ [D.s (.string ⟨x.name.toArray⟩), .s (.int .u64 (x.ep : Nat)), .s (.int .u8 (x.st : Nat)), .l x.toks.length (toksD x.toks)])] → J T' σ' := fun T' σ' g1 g2 => by
    have hl : (out ++ [x]).length = out.length + 1 := by simp
    refine hJ (out ++ [x], x.name, c') T' σ' (by simp only [hl]; omega) ⟨hgo, by simp only [hl]; omega, fun h => by simp at h, hs1, hs2⟩ (by simp only [hl]; exact g1) (by simp only [hl]; rw [← ring_snoc]; exact g2)
  clear hJ hs1 hs2 hf hbad hfp
  have hlk : (out.length : Int) < n := by omega
  (have kk1 := uN [0] herr; have kk2 := uN [0] hmb; exact Wcg)
theorem ref22_one (c : Cu) (hok : c.Ok) (out : Ring) (hol : out.length ≤ 32) (p : List UInt8) (hpl : p.length ≤ 32) (hfp : out = [] → p = []) (hcd : 0 < out.length → (ringD out).drop ((out.length - 1) * 4) = D.s (.string ⟨p.toArray⟩) :: (ringD out).drop ((out.length - 1) * 4 + 1)) :
    AC Tryz.prog 297 [.p 0 0, .o 1 out.length] [Cu.ro c, .row 314 4 out.length (ringD out)] fun x σ => x = mbV (c.memg p).1 ∧ σ = [Cu.ro (c.memg p).2, .row 314 4 out.length (ringD out)] := by
  refine AC.wk Tryz.func297 ?_
  obtain ⟨t, c1, n, c2, b, c3, k, c4, hb, h1o, ways⟩ := mem_ways2 p c hok
  have hbt := ref06_Take c.s c.a c.e 32 hok (by decide)
  rw [hb] at hbt
  simp only at hbt
  have hi1 : ((out.length : Int) - 1).toNat = out.length - 1 := by omega
  have htl : c1.e = 0 → t.length ≤ 32 := fun h => by
    have := Cu.blob_lim c 32
    rw [show Cu.blob c 32 = (t, c1) from hb] at this
    exact this h
  have f1 : out = [] → lessB p t = false → t = [] := fun h1 h2 => by
    cases hx : t with
    | nil => rfl
    | cons y z =>
      have h9 : lessB [] (y :: z) = true := less_nil_cons y z
      rw [hfp h1, hx, h9] at h2; cases h2
  rcases ways with ⟨f, hf, hw, hm⟩ | ⟨z1, a1, a2, hv, h2o, hn2, ways⟩
  · rw [hm]
    have hfo : Cu.Ok ⟨c1.s, c1.a, f⟩ := h1o
    have hv := ref03_Take c1.s c1.a f hfo
    have hy := ref01_Byte c1.s c1.a f hfo
    have hc := ref06_Count c1.s c1.a f 16 hfo (by decide)
    rw [vtake_stuck (c := ⟨c1.s, c1.a, f⟩) hf] at hv
    rw [byte_stuck (c := ⟨c1.s, c1.a, f⟩) hf] at hy
    rw [count_stuck (c := ⟨c1.s, c1.a, f⟩) hf] at hc
    simp only at hv hy hc
    clear hm
    rcases hw with ⟨z1, rfl⟩ | ⟨z1, rfl, rfl⟩ | ⟨z1, a1, a2, rfl⟩
    · focus (have kk1 := uN [0] hbt; have kk2 := uN [0] hv; have kk3 := uN [0] hy; have kk4 := uN [0] hc; (repeat' (first | (refine ADr.nil ?_; try clear hgv) | refine GW ?_ | refine AW.ret ?_ | (refine GC ?_ ?_ <;> intro h <;> (try simp only [hsB] at h) <;> try exact xf) | (refine GD ?_ ?_ <;> intro h <;> (try intro hgv) <;> (try simp only [hsN] at h) <;> (try simp only [h]) <;> (try simp only [hsB] at h) <;> try exact xf) | (refine GL ?_ ?_ <;> intro h <;> (try simp only [hsN] at h) <;> (try simp only [h]) <;> (try simp only [hsB] at h) <;> try exact xf) | fail)); all_goals clear kk1 kk2 kk3 kk4)
      all_goals first | exact xg | skip
      refine AW.birth 33 1 [] [(3, 3)] ?_
      refine AW.rounds [0, 4, 5, 6, 7] (fun _ : Unit => [(0, .p 0 0), (4, .p 2 0), (5, .p 3 0), (6, iv .i64 0), (7, iv .i64 0)])
        (fun _ => [Cu.ro ⟨c1.s, c1.a, c1.e⟩, .row 314 4 out.length (ringD out), .box 314 [sv (bs []), iv .u64 0, iv .u8 0, .d (.s (.slice none 0 0))], .box 314 [sv (bs t), iv .u64 0, iv .u8 0, .o 4 0], .row 33 1 0 []]) (fun _ => True) (fun _ => 0) () trivial rfl rfl (fun _ _ => by show 2 ≤ 5; decide) (fun _ _ => rfl) (fun _ _ => rfl) ?_
      rintro _ _ J hJ
      focus ((repeat' (first | (refine ADr.nil ?_; try clear hgv) | refine GO ?_ | refine AW.ret ?_ | (refine GC ?_ ?_ <;> intro h <;> (try simp only [hsB] at h) <;> try exact xf) | (refine GD ?_ ?_ <;> intro h <;> (try intro hgv) <;> (try simp only [hsN] at h) <;> (try simp only [h]) <;> (try simp only [hsB] at h) <;> try exact xf) | (refine GL ?_ ?_ <;> intro h <;> (try simp only [hsN] at h) <;> (try simp only [h]) <;> (try simp only [hsB] at h) <;> try exact xf) | fail)))
      all_goals first | (((all_goals first | refine RetQ.yr 2 (xs := [.a [sv (bs t), iv .u64 0, iv .u8 0, .o 4 0]]) ⟨?_, ?_⟩ | refine RetQ.yn 2 (xs := [.a [sv (bs t), iv .u64 0, iv .u8 0, .o 4 0]]) ⟨?_, ?_⟩); (all_goals exact fx)); done) | exact xg
    · focus (have kxs := z1; have kk1 := uN [0] hbt; have kk2 := uN [0] hv; have kk3 := uN [0] hy; have kk4 := uN [0] hc; (repeat' (first | (refine ADr.nil ?_; try clear hgv) | refine GW ?_ | refine AW.ret ?_ | (refine GC ?_ ?_ <;> intro h <;> (try simp only [hsB] at h) <;> try exact xf) | (refine GD ?_ ?_ <;> intro h <;> (try intro hgv) <;> (try simp only [hsN] at h) <;> (try simp only [h]) <;> (try simp only [hsB] at h) <;> try exact xf) | (refine GL ?_ ?_ <;> intro h <;> (try simp only [hsN] at h) <;> (try simp only [h]) <;> (try simp only [hsB] at h) <;> try exact xf) | fail)); all_goals clear kxs kk1 kk2 kk3 kk4)
      all_goals first | exact xg | skip
      refine AW.birth 33 1 [] [(3, 3)] ?_
      refine AW.rounds [0, 4, 5, 6, 7] (fun _ : Unit => [(0, .p 0 0), (4, .p 2 0), (5, .p 3 0), (6, iv .i64 0), (7, iv .i64 0)])
        (fun _ => [Cu.ro ⟨c1.s, c1.a, 14⟩, .row 314 4 out.length (ringD out), .box 314 [sv (bs []), iv .u64 0, iv .u8 0, .d (.s (.slice none 0 0))], .box 314 [sv (bs []), iv .u64 0, iv .u8 0, .o 4 0], .row 33 1 0 []]) (fun _ => True) (fun _ => 0) () trivial rfl rfl (fun _ _ => by show 2 ≤ 5; decide) (fun _ _ => rfl) (fun _ _ => rfl) ?_
      rintro _ _ J hJ
      focus ((repeat' (first | (refine ADr.nil ?_; try clear hgv) | refine GO ?_ | refine AW.ret ?_ | (refine GC ?_ ?_ <;> intro h <;> (try simp only [hsB] at h) <;> try exact xf) | (refine GD ?_ ?_ <;> intro h <;> (try intro hgv) <;> (try simp only [hsN] at h) <;> (try simp only [h]) <;> (try simp only [hsB] at h) <;> try exact xf) | (refine GL ?_ ?_ <;> intro h <;> (try simp only [hsN] at h) <;> (try simp only [h]) <;> (try simp only [hsB] at h) <;> try exact xf) | fail)))
      all_goals first | (((all_goals first | refine RetQ.yr 2 (xs := [.a [sv (bs []), iv .u64 0, iv .u8 0, .o 4 0]]) ⟨?_, ?_⟩ | refine RetQ.yn 2 (xs := [.a [sv (bs []), iv .u64 0, iv .u8 0, .o 4 0]]) ⟨?_, ?_⟩); (all_goals exact fx)); done) | exact xg
    · have hbe := ref06_Below p t (by omega) (by have := htl z1; omega)
      rw [show Op.bytesLess p t = _ from a2] at hbe
      have hne : 0 < out.length := by
        cases out with
        | nil => exact absurd (f1 rfl a2) a1
        | cons _ _ => simp
      have htp : 0 < t.length := List.length_pos_iff.2 a1
      focus (have kxs := And.intro z1 (And.intro hi1 hcd); have kk1 := uN [0] hbt; have kk2 := uN [0] hv; have kk3 := uN [0] hy; have kk4 := uN [0] hc; have kk5 := uN [] hbe; (repeat' (first | (refine ADr.nil ?_; try clear hgv) | refine GW ?_ | refine AW.ret ?_ | (refine GC ?_ ?_ <;> intro h <;> (try simp only [hsB] at h) <;> try exact xf) | (refine GD ?_ ?_ <;> intro h <;> (try intro hgv) <;> (try simp only [hsN] at h) <;> (try simp only [h]) <;> (try simp only [hsB] at h) <;> try exact xf) | (refine GL ?_ ?_ <;> intro h <;> (try simp only [hsN] at h) <;> (try simp only [h]) <;> (try simp only [hsB] at h) <;> try exact xf) | fail)); all_goals clear kxs kk1 kk2 kk3 kk4 kk5)
      all_goals first | exact xg | skip
      refine AW.birth 33 1 [] [(3, 3)] ?_
      refine AW.rounds [0, 4, 5, 6, 7] (fun _ : Unit => [(0, .p 0 0), (4, .p 2 0), (5, .p 3 0), (6, iv .i64 0), (7, iv .i64 0)])
        (fun _ => [Cu.ro ⟨c1.s, c1.a, 6⟩, .row 314 4 out.length (ringD out), .box 314 [sv (bs []), iv .u64 0, iv .u8 0, .d (.s (.slice none 0 0))], .box 314 [sv (bs t), iv .u64 0, iv .u8 0, .o 4 0], .row 33 1 0 []]) (fun _ => True) (fun _ => 0) () trivial rfl rfl (fun _ _ => by show 2 ≤ 5; decide) (fun _ _ => rfl) (fun _ _ => rfl) ?_
      rintro _ _ J hJ
      focus ((repeat' (first | (refine ADr.nil ?_; try clear hgv) | refine GO ?_ | refine AW.ret ?_ | (refine GC ?_ ?_ <;> intro h <;> (try simp only [hsB] at h) <;> try exact xf) | (refine GD ?_ ?_ <;> intro h <;> (try intro hgv) <;> (try simp only [hsN] at h) <;> (try simp only [h]) <;> (try simp only [hsB] at h) <;> try exact xf) | (refine GL ?_ ?_ <;> intro h <;> (try simp only [hsN] at h) <;> (try simp only [h]) <;> (try simp only [hsB] at h) <;> try exact xf) | fail)))
      all_goals first | (((all_goals first | refine RetQ.yr 2 (xs := [.a [sv (bs t), iv .u64 0, iv .u8 0, .o 4 0]]) ⟨?_, ?_⟩ | refine RetQ.yn 2 (xs := [.a [sv (bs t), iv .u64 0, iv .u8 0, .o 4 0]]) ⟨?_, ?_⟩); (all_goals exact fx)); done) | exact xg
  have htl := htl z1
  have hbe := ref06_Below p t (by omega) (by omega)
  rw [show Op.bytesLess p t = _ from a2] at hbe
  have htp : 0 < t.length := List.length_pos_iff.2 a1
  obtain ⟨cs1, ca1, ce1⟩ := c1
  simp only at z1 hv h1o hbt
  subst z1
  have hvt := ref03_Take cs1 ca1 0 h1o
  rw [hv] at hvt
  simp only at hvt
  clear f1 hfp hb
  rcases ways with ⟨f, hf, hw, hm⟩ | ⟨z2, a3, hby, h3o, hb2, ways⟩
  · rw [hm]
    have hfo : Cu.Ok ⟨c2.s, c2.a, f⟩ := h2o
    have hy := ref01_Byte c2.s c2.a f hfo
    have hc := ref06_Count c2.s c2.a f 16 hfo (by decide)
    rw [byte_stuck (c := ⟨c2.s, c2.a, f⟩) hf] at hy
    rw [count_stuck (c := ⟨c2.s, c2.a, f⟩) hf] at hc
    simp only at hy hc
    clear hm hv
    rcases hw with ⟨z2, rfl⟩ | ⟨z2, rfl, rfl⟩
    · focus (have kxs := And.intro hi1 hcd; have kk1 := uN [0] hbt; have kk2 := uN [0] hvt; have kk3 := uN [0] hy; have kk4 := uN [0] hc; have kk5 := uN [] hbe; (repeat' (first | (refine ADr.nil ?_; try clear hgv) | refine GW ?_ | refine AW.ret ?_ | (refine GC ?_ ?_ <;> intro h <;> (try simp only [hsB] at h) <;> try exact xf) | (refine GD ?_ ?_ <;> intro h <;> (try intro hgv) <;> (try simp only [hsN] at h) <;> (try simp only [h]) <;> (try simp only [hsB] at h) <;> try exact xf) | (refine GL ?_ ?_ <;> intro h <;> (try simp only [hsN] at h) <;> (try simp only [h]) <;> (try simp only [hsB] at h) <;> try exact xf) | fail)); all_goals clear kxs kk1 kk2 kk3 kk4 kk5)
      all_goals first | exact xg | skip
      all_goals
        refine AW.birth 33 1 [] [(3, 3)] ?_
        refine AW.rounds [0, 4, 5, 6, 7] (fun _ : Unit => [(0, .p 0 0), (4, .p 2 0), (5, .p 3 0), (6, iv .i64 0), (7, iv .i64 0)])
          (fun _ => [Cu.ro ⟨c2.s, c2.a, c2.e⟩, .row 314 4 out.length (ringD out), .box 314 [sv (bs []), iv .u64 0, iv .u8 0, .d (.s (.slice none 0 0))], .box 314 [sv (bs t), iv .u64 n, iv .u8 0, .o 4 0], .row 33 1 0 []]) (fun _ => True) (fun _ => 0) () trivial rfl rfl (fun _ _ => by show 2 ≤ 5; decide) (fun _ _ => rfl) (fun _ _ => rfl) ?_
        rintro _ _ J hJ
        focus ((repeat' (first | (refine ADr.nil ?_; try clear hgv) | refine GO ?_ | refine AW.ret ?_ | (refine GC ?_ ?_ <;> intro h <;> (try simp only [hsB] at h) <;> try exact xf) | (refine GD ?_ ?_ <;> intro h <;> (try intro hgv) <;> (try simp only [hsN] at h) <;> (try simp only [h]) <;> (try simp only [hsB] at h) <;> try exact xf) | (refine GL ?_ ?_ <;> intro h <;> (try simp only [hsN] at h) <;> (try simp only [h]) <;> (try simp only [hsB] at h) <;> try exact xf) | fail)))
        all_goals first | (((all_goals first | refine RetQ.yr 2 (xs := [.a [sv (bs t), iv .u64 n, iv .u8 0, .o 4 0]]) ⟨?_, ?_⟩ | refine RetQ.yn 2 (xs := [.a [sv (bs t), iv .u64 n, iv .u8 0, .o 4 0]]) ⟨?_, ?_⟩); (all_goals exact fx)); done) | exact xg
    · focus (have kxs := And.intro z2 (And.intro hi1 hcd); have kk1 := uN [0] hbt; have kk2 := uN [0] hvt; have kk3 := uN [0] hy; have kk4 := uN [0] hc; have kk5 := uN [] hbe; (repeat' (first | (refine ADr.nil ?_; try clear hgv) | refine GW ?_ | refine AW.ret ?_ | (refine GC ?_ ?_ <;> intro h <;> (try simp only [hsB] at h) <;> try exact xf) | (refine GD ?_ ?_ <;> intro h <;> (try intro hgv) <;> (try simp only [hsN] at h) <;> (try simp only [h]) <;> (try simp only [hsB] at h) <;> try exact xf) | (refine GL ?_ ?_ <;> intro h <;> (try simp only [hsN] at h) <;> (try simp only [h]) <;> (try simp only [hsB] at h) <;> try exact xf) | fail)); all_goals clear kxs kk1 kk2 kk3 kk4 kk5)
      all_goals first | exact xg | skip
      all_goals
        refine AW.birth 33 1 [] [(3, 3)] ?_
        refine AW.rounds [0, 4, 5, 6, 7] (fun _ : Unit => [(0, .p 0 0), (4, .p 2 0), (5, .p 3 0), (6, iv .i64 0), (7, iv .i64 0)])
          (fun _ => [Cu.ro ⟨c2.s, c2.a, 7⟩, .row 314 4 out.length (ringD out), .box 314 [sv (bs []), iv .u64 0, iv .u8 0, .d (.s (.slice none 0 0))], .box 314 [sv (bs t), iv .u64 0, iv .u8 0, .o 4 0], .row 33 1 0 []]) (fun _ => True) (fun _ => 0) () trivial rfl rfl (fun _ _ => by show 2 ≤ 5; decide) (fun _ _ => rfl) (fun _ _ => rfl) ?_
        rintro _ _ J hJ
        focus ((repeat' (first | (refine ADr.nil ?_; try clear hgv) | refine GO ?_ | refine AW.ret ?_ | (refine GC ?_ ?_ <;> intro h <;> (try simp only [hsB] at h) <;> try exact xf) | (refine GD ?_ ?_ <;> intro h <;> (try intro hgv) <;> (try simp only [hsN] at h) <;> (try simp only [h]) <;> (try simp only [hsB] at h) <;> try exact xf) | (refine GL ?_ ?_ <;> intro h <;> (try simp only [hsN] at h) <;> (try simp only [h]) <;> (try simp only [hsB] at h) <;> try exact xf) | fail)))
        all_goals first | (((all_goals first | refine RetQ.yr 2 (xs := [.a [sv (bs t), iv .u64 0, iv .u8 0, .o 4 0]]) ⟨?_, ?_⟩ | refine RetQ.yn 2 (xs := [.a [sv (bs t), iv .u64 0, iv .u8 0, .o 4 0]]) ⟨?_, ?_⟩); (all_goals exact fx)); done) | exact xg
  obtain ⟨cs2, ca2, ce2⟩ := c2
  simp only at z2 hby h2o hvt
  subst z2
  have hyt := ref01_Byte cs2 ca2 0 h2o
  rw [hby] at hyt
  simp only at hyt
  clear hv
  rcases ways with ⟨f, hf, hw, hm⟩ | ⟨z3, a4, hct, h4o, hk, hck, hm⟩
  · rw [hm]
    have hfo : Cu.Ok ⟨c3.s, c3.a, f⟩ := h3o
    have hc := ref06_Count c3.s c3.a f 16 hfo (by decide)
    rw [count_stuck (c := ⟨c3.s, c3.a, f⟩) hf] at hc
    simp only at hc
    clear hm hby
    rcases hw with ⟨z3, rfl⟩ | ⟨z3, a4, rfl⟩
    · focus (have kxs := And.intro hi1 hcd; have kk1 := uN [0] hbt; have kk2 := uN [0] hvt; have kk3 := uN [0] hyt; have kk4 := uN [0] hc; have kk5 := uN [] hbe; (repeat' (first | (refine ADr.nil ?_; try clear hgv) | refine GW ?_ | refine AW.ret ?_ | (refine GC ?_ ?_ <;> intro h <;> (try simp only [hsB] at h) <;> try exact xf) | (refine GD ?_ ?_ <;> intro h <;> (try intro hgv) <;> (try simp only [hsN] at h) <;> (try simp only [h]) <;> (try simp only [hsB] at h) <;> try exact xf) | (refine GL ?_ ?_ <;> intro h <;> (try simp only [hsN] at h) <;> (try simp only [h]) <;> (try simp only [hsB] at h) <;> try exact xf) | fail)); all_goals clear kxs kk1 kk2 kk3 kk4 kk5)
      all_goals first | exact xg | skip
      all_goals
        refine AW.birth 33 1 [] [(3, 3)] ?_
        refine AW.rounds [0, 4, 5, 6, 7] (fun _ : Unit => [(0, .p 0 0), (4, .p 2 0), (5, .p 3 0), (6, iv .i64 0), (7, iv .i64 0)])
          (fun _ => [Cu.ro ⟨c3.s, c3.a, c3.e⟩, .row 314 4 out.length (ringD out), .box 314 [sv (bs []), iv .u64 0, iv .u8 0, .d (.s (.slice none 0 0))], .box 314 [sv (bs t), iv .u64 n, iv .u8 b, .o 4 0], .row 33 1 0 []]) (fun _ => True) (fun _ => 0) () trivial rfl rfl (fun _ _ => by show 2 ≤ 5; decide) (fun _ _ => rfl) (fun _ _ => rfl) ?_
        rintro _ _ J hJ
        focus ((repeat' (first | (refine ADr.nil ?_; try clear hgv) | refine GO ?_ | refine AW.ret ?_ | (refine GC ?_ ?_ <;> intro h <;> (try simp only [hsB] at h) <;> try exact xf) | (refine GD ?_ ?_ <;> intro h <;> (try intro hgv) <;> (try simp only [hsN] at h) <;> (try simp only [h]) <;> (try simp only [hsB] at h) <;> try exact xf) | (refine GL ?_ ?_ <;> intro h <;> (try simp only [hsN] at h) <;> (try simp only [h]) <;> (try simp only [hsB] at h) <;> try exact xf) | fail)))
        all_goals first | (((all_goals first | refine RetQ.yr 2 (xs := [.a [sv (bs t), iv .u64 n, iv .u8 b, .o 4 0]]) ⟨?_, ?_⟩ | refine RetQ.yn 2 (xs := [.a [sv (bs t), iv .u64 n, iv .u8 b, .o 4 0]]) ⟨?_, ?_⟩); (all_goals exact fx)); done) | exact xg
    · focus (have kxs := And.intro z3 (And.intro hi1 hcd); have kk1 := uN [0] hbt; have kk2 := uN [0] hvt; have kk3 := uN [0] hyt; have kk4 := uN [0] hc; have kk5 := uN [] hbe; (repeat' (first | (refine ADr.nil ?_; try clear hgv) | refine GW ?_ | refine AW.ret ?_ | (refine GC ?_ ?_ <;> intro h <;> (try simp only [hsB] at h) <;> try exact xf) | (refine GD ?_ ?_ <;> intro h <;> (try intro hgv) <;> (try simp only [hsN] at h) <;> (try simp only [h]) <;> (try simp only [hsB] at h) <;> try exact xf) | (refine GL ?_ ?_ <;> intro h <;> (try simp only [hsN] at h) <;> (try simp only [h]) <;> (try simp only [hsB] at h) <;> try exact xf) | fail)); all_goals clear kxs kk1 kk2 kk3 kk4 kk5)
      all_goals first | exact xg | skip
      all_goals
        refine AW.birth 33 1 [] [(3, 3)] ?_
        refine AW.rounds [0, 4, 5, 6, 7] (fun _ : Unit => [(0, .p 0 0), (4, .p 2 0), (5, .p 3 0), (6, iv .i64 0), (7, iv .i64 0)])
          (fun _ => [Cu.ro ⟨c3.s, c3.a, 13⟩, .row 314 4 out.length (ringD out), .box 314 [sv (bs []), iv .u64 0, iv .u8 0, .d (.s (.slice none 0 0))], .box 314 [sv (bs t), iv .u64 n, iv .u8 b, .o 4 0], .row 33 1 0 []]) (fun _ => True) (fun _ => 0) () trivial rfl rfl (fun _ _ => by show 2 ≤ 5; decide) (fun _ _ => rfl) (fun _ _ => rfl) ?_
        rintro _ _ J hJ
        focus ((repeat' (first | (refine ADr.nil ?_; try clear hgv) | refine GO ?_ | refine AW.ret ?_ | (refine GC ?_ ?_ <;> intro h <;> (try simp only [hsB] at h) <;> try exact xf) | (refine GD ?_ ?_ <;> intro h <;> (try intro hgv) <;> (try simp only [hsN] at h) <;> (try simp only [h]) <;> (try simp only [hsB] at h) <;> try exact xf) | (refine GL ?_ ?_ <;> intro h <;> (try simp only [hsN] at h) <;> (try simp only [h]) <;> (try simp only [hsB] at h) <;> try exact xf) | fail)))
        all_goals first | (((all_goals first | refine RetQ.yr 2 (xs := [.a [sv (bs t), iv .u64 n, iv .u8 b, .o 4 0]]) ⟨?_, ?_⟩ | refine RetQ.yn 2 (xs := [.a [sv (bs t), iv .u64 n, iv .u8 b, .o 4 0]]) ⟨?_, ?_⟩); (all_goals exact fx)); done) | exact xg
  obtain ⟨cs3, ca3, ce3⟩ := c3
  simp only at z3 hct h3o hyt
  subst z3
  have hctt := ref06_Count cs3 ca3 0 16 h3o (by decide)
  rw [hct] at hctt
  simp only at hctt
  rw [hm]
  generalize hR : Cu.tokg k none c4 = R
  obtain ⟨ts, cf⟩ := R
  simp only
  have h0R : (ts, cf) = ([] ++ (Cu.tokg (k - ([] : List Nat).length) ([] : List Nat).getLast? c4).1, (Cu.tokg (k - ([] : List Nat).length) ([] : List Nat).getLast? c4).2) := by
    rw [← hR]; rfl
  clear hm hby hct hR
  focus (have kxs := And.intro hi1 hcd; have kk1 := uN [0] hbt; have kk2 := uN [0] hvt; have kk3 := uN [0] hyt; have kk4 := uN [0] hctt; have kk5 := uN [] hbe; (repeat' (first | (refine ADr.nil ?_; try clear hgv) | refine GW ?_ | refine AW.ret ?_ | (refine GC ?_ ?_ <;> intro h <;> (try simp only [hsB] at h) <;> try exact xf) | (refine GD ?_ ?_ <;> intro h <;> (try intro hgv) <;> (try simp only [hsN] at h) <;> (try simp only [h]) <;> (try simp only [hsB] at h) <;> try exact xf) | (refine GL ?_ ?_ <;> intro h <;> (try simp only [hsN] at h) <;> (try simp only [h]) <;> (try simp only [hsB] at h) <;> try exact xf) | fail)); all_goals clear kxs kk1 kk2 kk3 kk4 kk5)
  all_goals first | exact xg | skip
  all_goals
    refine AW.birth 33 1 [] [(3, 3)] ?_
    refine AW.rounds [0, 4, 5, 6, 7] (fun z : List Nat × Cu => [(0, .p 0 0), (4, .p 2 0), (5, .p 3 0), (6, iv .i64 k), (7, iv .i64 z.1.length)])
      (fun z => [Cu.ro z.2, .row 314 4 out.length (ringD out), .box 314 [sv (bs []), iv .u64 0, iv .u8 0, .d (.s (.slice none 0 0))], .box 314 [sv (bs t), iv .u64 n, iv .u8 b, .o 4 z.1.length], .row 33 1 z.1.length (toksD z.1)])
      (fun z => z.1.length ≤ k ∧ z.2.Ok ∧ (ts, cf) = (z.1 ++ (Cu.tokg (k - z.1.length) z.1.getLast? z.2).1, (Cu.tokg (k - z.1.length) z.1.getLast? z.2).2)) (fun z => k - z.1.length) ([], c4) ⟨Nat.zero_le _, h4o, h0R⟩ rfl rfl (fun _ _ => by show 2 ≤ 5; decide) (fun _ _ => rfl) (fun _ _ => rfl) ?_
    rintro ⟨o2, cu⟩ ⟨hol2, hcok, hRo⟩ J hJ
    simp only at hol2 hcok hRo
    clear h0R hbt hvt hyt hctt hbe hcd
    by_cases hce : cu.e = 0
    · by_cases hlen : o2.length < k
      · obtain ⟨m, hm⟩ : ∃ m, k - o2.length = m + 1 := ⟨k - o2.length - 1, by omega⟩
        rw [hm] at hRo
        unfold Cu.tokg at hRo
        rw [if_neg (by simpa using hce)] at hRo
        have hft := ref04_Take cu.s cu.a cu.e hcok
        have hnum : Cu.tok o2.getLast? cu = ((Cu.num8 ⟨cu.s, cu.a, cu.e⟩).1, gd (after o2.getLast? (Cu.num8 ⟨cu.s, cu.a, cu.e⟩).1) 6 (Cu.num8 ⟨cu.s, cu.a, cu.e⟩).2) := rfl
        rw [hnum] at hRo
        have hn8 : (Cu.num8 ⟨cu.s, cu.a, cu.e⟩).2.Ok := Cu.num8_ok hcok
        generalize Cu.num8 ⟨cu.s, cu.a, cu.e⟩ = y at *
        obtain ⟨v, d⟩ := y
        simp only at hft hRo hn8
        have hl2 : (o2 ++ [v]).length = o2.length + 1 := by simp
        have go : ∀ dd, gd (after o2.getLast? v) 6 d = dd → ∀ T' σ', keepT T' [0, 4, 5, 6, 7] = [(0, .p 0 0), (4, .p 2 0), (5, .p 3 0), (6, iv .i64 k), (7, iv .i64 ((o2.length : Int) + 1))] → σ'.take 5 = [Cu.ro dd, .row 314 4 out.length (ringD out), .box 314 [sv (bs []), iv .u64 0, iv .u8 0, .d (.s (.slice none 0 0))], .box 314 [sv (bs t), iv .u64 n, iv .u8 b, .o 4 (o2.length + 1)], .row 33 1 (o2.length + 1) (toksD o2 ++ [D.s (.int .u64 (v : Nat))])] → J T' σ' := fun dd hdd T' σ' g1 g2 => by
          refine hJ (o2 ++ [v], dd) T' σ' (by simp only [hl2]; omega) ⟨by simp only [hl2]; omega, by rw [← hdd]; exact gd_ok hn8, ?_⟩ (by simp only [hl2]; exact g1) (by simp only [hl2, ← toks_snoc]; exact g2)
          simp only [hl2, List.getLast?_append, List.getLast?_singleton, Option.some_or]
          rw [hRo, show k - (o2.length + 1) = m by omega, hdd]
          simp only [List.append_assoc, List.cons_append, List.nil_append]
        clear hJ hRo hnum
        have hlk : (o2.length : Int) < k := by omega
        have hj1 : ((o2.length : Int) - 1).toNat = o2.length - 1 := by omega
        by_cases hde : d.e = 0
        · rcases List.eq_nil_or_concat o2 with rfl | ⟨o3, q, hcc⟩
          · have go := go d rfl
            (have kk1 := uN [0] hft; exact Wdg)
          · rw [List.concat_eq_append] at hcc
            subst hcc
            have hlq : (toksD (o3 ++ [q])).drop ((o3 ++ [q]).length - 1) = [D.s (.int .u64 (q : Nat))] := by simp [toksD]
            have hlg : (o3 ++ [q]).getLast? = some q := by simp
            rw [hlg] at go
            have hpos : 0 < (o3 ++ [q]).length := by simp
            generalize o3 ++ [q] = o4 at *
            by_cases hqv : q < v
            · have go := go d (by show gd (decide (q < v)) 6 d = d; rw [decide_eq_true hqv]; rfl)
              (have kxs := And.intro hj1 (And.intro hlq @Nat.mul_one); have kk1 := uN [0] hft; exact Wdg)
            · have go := go ⟨d.s, d.a, 6⟩ (by show gd (decide (q < v)) 6 d = _; rw [decide_eq_false hqv]; show Cu.fail d 6 = _; unfold Cu.fail; rw [if_pos hde])
              (have kxs := And.intro hj1 (And.intro hlq @Nat.mul_one); have kk1 := uN [0] hft; exact Wdg)
        · have go := go d (gd_stuck hde _ _)
          (have kxs := And.intro hj1 @Nat.mul_one; have kk1 := uN [0] hft; exact Wdg)
      · rw [show k - o2.length = 0 by omega] at hRo
        unfold Cu.tokg at hRo
        simp only [List.append_nil] at hRo
        obtain ⟨rfl, rfl⟩ := Prod.mk.inj hRo
        clear hJ
        focus ((repeat' (first | (refine ADr.nil ?_; try clear hgv) | refine GO ?_ | refine AW.ret ?_ | (refine GC ?_ ?_ <;> intro h <;> (try simp only [hsB] at h) <;> try exact xf) | (refine GD ?_ ?_ <;> intro h <;> (try intro hgv) <;> (try simp only [hsN] at h) <;> (try simp only [h]) <;> (try simp only [hsB] at h) <;> try exact xf) | (refine GL ?_ ?_ <;> intro h <;> (try simp only [hsN] at h) <;> (try simp only [h]) <;> (try simp only [hsB] at h) <;> try exact xf) | fail)))
        all_goals first | (((all_goals first | refine RetQ.yr 2 (xs := [.a [sv (bs t), iv .u64 n, iv .u8 b, .o 4 ts.length]]) ⟨?_, ?_⟩ | refine RetQ.yn 2 (xs := [.a [sv (bs t), iv .u64 n, iv .u8 b, .o 4 ts.length]]) ⟨?_, ?_⟩); (all_goals exact fx)); done) | exact xg
    · rw [tokg_stuck hce] at hRo
      simp only [List.append_nil] at hRo
      obtain ⟨rfl, rfl⟩ := Prod.mk.inj hRo
      clear hJ
      focus ((repeat' (first | (refine ADr.nil ?_; try clear hgv) | refine GO ?_ | refine AW.ret ?_ | (refine GC ?_ ?_ <;> intro h <;> (try simp only [hsB] at h) <;> try exact xf) | (refine GD ?_ ?_ <;> intro h <;> (try intro hgv) <;> (try simp only [hsN] at h) <;> (try simp only [h]) <;> (try simp only [hsB] at h) <;> try exact xf) | (refine GL ?_ ?_ <;> intro h <;> (try simp only [hsN] at h) <;> (try simp only [h]) <;> (try simp only [hsB] at h) <;> try exact xf) | fail)))
      all_goals first | (((all_goals first | refine RetQ.yr 2 (xs := [.a [sv (bs t), iv .u64 n, iv .u8 b, .o 4 ts.length]]) ⟨?_, ?_⟩ | refine RetQ.yn 2 (xs := [.a [sv (bs t), iv .u64 n, iv .u8 b, .o 4 ts.length]]) ⟨?_, ?_⟩); (all_goals exact fx)); done) | exact xg
def Lastn (out : Ring) (p : List UInt8) : Prop := p.length ≤ 32 ∧ (0 < out.length → (ringD out).drop ((out.length - 1) * 4) = D.s (.string ⟨p.toArray⟩) :: (ringD out).drop ((out.length - 1) * 4 + 1))
theorem lastn_nil : Lastn [] [] := ⟨by decide, fun h => absurd h (by decide)⟩
theorem lastn_snoc (out : Ring) (x : Mb) (h : x.name.length ≤ 32) : Lastn (out ++ [x]) x.name := by
  refine ⟨h, fun _ => ?_⟩
  have hd : (out ++ [x]).drop out.length = x :: [] := by simp
  have hc := ring_drop hd
  rw [show (out ++ [x]).length - 1 = out.length by simp, ← List.drop_drop, hc]
  rfl
theorem memg_name (p : List UInt8) (c : Cu) (h : (c.memg p).2.e = 0) : (c.memg p).1.name.length ≤ 32 := by
  obtain ⟨h1, h2⟩ := memg_mem p c
  rw [h1] at h
  rw [h2 h]
  exact ((trip_mem p).back c h).1.1.1
theorem ref22_Take (s : List UInt8) (a : Nat) (e : Int) (h : Cu.Ok ⟨s, a, e⟩) : AC Tryz.prog 218 [.p 0 0] [Cu.ro ⟨s, a, e⟩] fun x σ => x = .d (.l (Cu.ring ⟨s, a, e⟩).1.length (ringD (Cu.ring ⟨s, a, e⟩).1)) ∧ σ = [Cu.ro (Cu.ring ⟨s, a, e⟩).2] := by
  refine AC.wk Tryz.func218 ?_
  have hlt : (Cu.count ⟨s, a, e⟩ 32).1 ≤ 32 := Cu.count_max ⟨s, a, e⟩ 32
  have hok0 := Cu.count_ok (max := 32) h
  have hvec : Cu.ring ⟨s, a, e⟩ = (if ((Cu.count ⟨s, a, e⟩ 32).2.mems (Cu.count ⟨s, a, e⟩ 32).1 []).2.e ≠ 0 then [] else ((Cu.count ⟨s, a, e⟩ 32).2.mems (Cu.count ⟨s, a, e⟩ 32).1 []).1, ((Cu.count ⟨s, a, e⟩ 32).2.mems (Cu.count ⟨s, a, e⟩ 32).1 []).2) := rfl
  rw [hvec]
  generalize hz : Cu.count ⟨s, a, e⟩ 32 = z at *
  obtain ⟨n, c0⟩ := z
  simp only at hlt hok0 ⊢
  clear hvec
  focus (have kxs := hz; have kk1 := uN [0] (ref06_Count s a e 32 h (by decide)); (repeat' (first | refine G ?_ | refine AW.ret ?_ | (refine GC ?_ ?_ <;> intro h <;> (try simp only [hsB] at h) <;> try exact xf) | (refine GL ?_ ?_ <;> intro h <;> (try simp only [hsN] at h) <;> (try simp only [h]) <;> (try simp only [hsB] at h) <;> try exact xf) | fail)); all_goals clear kxs kk1)
  refine AW.birth 314 4 [4] [] ?_
  refine AW.rounds [0, 2, 3, 4, 5] (fun x : Ring × List UInt8 × Cu => [(0, .p 0 0), (2, .d (.s (.slice none 0 0))), (3, iv .i64 n), (4, .o 1 x.1.length), (5, iv .i64 x.1.length)]) (fun x => [Cu.ro x.2.2, .row 314 4 x.1.length (ringD x.1)])
    (fun x => x.2.2.Ok ∧ x.1.length ≤ n ∧ (x.1 = [] → x.2.1 = []) ∧ (x.2.2.e = 0 → Mfam n [] c0 x.1 x.2.1 x.2.2 ∧ Lastn x.1 x.2.1) ∧ (x.2.2.e ≠ 0 → (Cu.mems n [] c0).2 = x.2.2)) (fun x => n - x.1.length) ([], [], c0)
    ⟨hok0, Nat.zero_le _, fun _ => rfl, fun _ => ⟨Fam.start n [] c0, lastn_nil⟩, fun h => Cu.many_stuck (fun k c h => (trip_mem k).stuck c h) _ _ _ h⟩ rfl rfl (fun _ _ => Nat.le_of_ble_eq_true rfl) (fun _ _ => rfl) (fun _ _ => rfl) ?_
  rintro ⟨out, p, c⟩ ⟨hok, hol, hfp, hf, hbad⟩ J hJ
  simp only at hok hol hfp hf hbad ⊢
  by_cases hce : c.e = 0
  case neg =>
    rw [hbad hce, if_pos hce]
    exact Wc1
  obtain ⟨hf, hla⟩ := hf hce
  by_cases hlen : out.length < n
  case neg =>
    have hdone := Fam.done hf hce hlen
    have hb2 : Cu.mems n [] c0 = (out, c) := hdone
    rw [hb2]
    simp only
    rw [if_neg (by simpa using hce)]
    exact Wc1
  obtain ⟨hs1, hs2⟩ := mem_step hf hce hlen
  have hgo := Cu.memg_ok (p := p) hok
  have hmb := ref22_one c hok out (by omega) p hla.1 hfp hla.2
  have hnl : (c.memg p).2.e = 0 → (c.memg p).1.name.length ≤ 32 := memg_name p c
  generalize c.memg p = g at *
  obtain ⟨x, c'⟩ := g
  simp only at hs1 hs2 hgo hmb hnl
  have go : ∀ T' σ', keepT T' [0, 2, 3, 4, 5] = [(0, .p 0 0), (2, .d (.s (.slice none 0 0))), (3, iv .i64 n), (4, .o 1 (out.length + 1)), (5, iv .i64 ((out.length : Int) + 1))] → σ'.take 2 = [Cu.ro c', .row 314 4 (out.length + 1) (ringD out ++ [D.s (.string ⟨x.name.toArray⟩), .s (.int .u64 (x.ep : Nat)), .s (.int .u8 (x.st : Nat)), .l x.toks.length (toksD x.toks)])] → J T' σ' := fun T' σ' g1 g2 => by
    have hl : (out ++ [x]).length = out.length + 1 := by simp
    refine hJ (out ++ [x], x.name, c') T' σ' (by simp only [hl]; omega) ⟨hgo, by simp only [hl]; omega, fun h => by simp at h, fun h => ⟨hs1 h, lastn_snoc out x (hnl h)⟩, hs2⟩ (by simp only [hl]; exact g1) (by simp only [hl]; rw [← ring_snoc]; exact g2)
  clear hJ hs1 hs2 hf hbad hfp hla hnl
  have hlk : (out.length : Int) < n := by omega
  (have kk1 := uN [0, 1] hmb; exact Wcg)
def enD (x : En) : List D := [.s (.string ⟨x.1.toArray⟩), .s (.int .u64 x.2)]
abbrev vecD (v : Vec) : List D := (v.map enD).flatten
theorem vec_drop {v r : Vec} {x : En} {i : Nat} (h : v.drop i = x :: r) : (vecD v).drop (i * 2) = .s (.string ⟨x.1.toArray⟩) :: .s (.int .u64 x.2) :: vecD r := by
  rw [vecD, flat_drop (f := enD) (sz := 2) (fun _ => rfl), h]; rfl
def Vec.fits (v : Vec) : Prop := v.length ≤ 9223372036854775807 ∧ (∀ x ∈ v, x.1.length ≤ 9223372036854775807) ∧ ∀ x ∈ v, x.2 < 18446744073709551616
def Vec.ahead (v : Vec) (i : Nat) (p : List UInt8) : Prop := (i = 0 ∧ p = []) ∨ (0 < i ∧ p.length ≤ 32 ∧ ∃ n r, v.drop (i - 1) = (p, n) :: r)
end Go.AW
