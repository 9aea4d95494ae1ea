/-
  frames: a new coder; a frame at the beginning of a text: the program's, the document's.
-/
import Derived.Test.YtdjeilbhdleopaaGreatP21
set_option linter.unusedVariables false
set_option linter.unusedSimpArgs false
set_option maxHeartbeats 4000000
set_option maxRecDepth 10000
namespace Go.AW
open Go Go.Proofs
attribute [local irreducible] thenQ blockQ RetQ AL AW AC AOp
theorem crc_New : AC Tryz.prog 220 [] [] fun y σ => y = .p 0 0 ∧ σ = [.box 399 SM0] := by
  refine AC.wk Tryz.func220 ?_
  exact Wa1
theorem frame_New : AC Tryz.prog 118 [] [] fun y σ => y = .p 1 0 ∧ σ = cdr SM0 := by
  refine AC.wk Tryz.func118 ?_
  have hn := crc_New
  (have kk1 := uN [] hn; exact Wa2)
def framew (s : List UInt8) : Fm × (Nat × Int) := ((Cu.frame ⟨s, 0, 0⟩).1, if (Cu.frame ⟨s, 0, 0⟩).2.e ≠ 0 then (0, (Cu.frame ⟨s, 0, 0⟩).2.e) else ((Cu.frame ⟨s, 0, 0⟩).2.a, 0))
theorem frame_zero (c : Cu) (h : (Cu.frame c).2.e ≠ 0) : (Cu.frame c).1 = (0, 0, []) := by
  unfold Cu.frame at h ⊢
  exact if_pos h
theorem frame_Decode (S : List V) (hS : S = SM0 ∨ S = SM1) (s : List UInt8) (hs : s.length ≤ 140737488351232) : AC Tryz.prog 119 [.p 1 0, sv (bs s)] (cdr S) fun y σ => y = .t [fmV (framew s).1, iv .i64 ((framew s).2.1 : Nat), iv .i64 (framew s).2.2] ∧ σ = cdr SM1 := by
  refine AC.wk Tryz.func119 ?_
  have hok : Cu.Ok ⟨s, 0, 0⟩ := ⟨hs, Nat.zero_le _⟩
  have hnew := @cursor_New s
  have hz := frame_zero ⟨s, 0, 0⟩
  unfold framew
  rcases hS with rfl | rfl
  · have ht := frame_Take_SM0 ⟨s, 0, 0⟩ hok
    generalize Cu.frame ⟨s, 0, 0⟩ = z at *
    obtain ⟨⟨v, k, p⟩, c⟩ := z
    simp only at ht hz ⊢
    have herr := cursor_Err c.s c.a c.e
    have hat := cursor_At c.s c.a c.e
    by_cases he : c.e = 0
    · rw [if_neg (by simpa using he)]
      clear hz
      focus (have kk1 := uN [] hnew; have kk2 := uN [0, 1, 3] ht; have kk3 := uN [3] herr; have kk4 := uN [3] hat; (repeat' (first | (refine ADr.nil ?_; try clear hgv) | refine GWF ?_ | refine AW.ret ?_ | (refine GC ?_ ?_ <;> intro h <;> (try simp only [hsB] at h) <;> try exact xf) | (refine GD ?_ ?_ <;> intro h <;> (try intro hgv) <;> (try simp only [hsN] at h) <;> (try simp only [h]) <;> (try simp only [hsB] at h) <;> try exact xf) | (refine GL ?_ ?_ <;> intro h <;> (try simp only [hsN] at h) <;> (try simp only [h]) <;> (try simp only [hsB] at h) <;> try exact xf) | fail)); all_goals clear kk1 kk2 kk3 kk4)
      all_goals first | (((all_goals first | refine RetQ.yr 2 (xs := [.a [iv .u8 (v : Nat), iv .u8 (k : Nat), sv (bs p)], iv .i64 (c.a : Nat), iv .i64 0]) ⟨?_, ?_⟩ | refine RetQ.yn 2 (xs := [.a [iv .u8 (v : Nat), iv .u8 (k : Nat), sv (bs p)], iv .i64 (c.a : Nat), iv .i64 0]) ⟨?_, ?_⟩); (all_goals exact fx)); done) | exact xg
    · have hz := hz he
      simp only [Prod.mk.injEq] at hz
      obtain ⟨rfl, rfl, rfl⟩ := hz
      rw [if_pos he]
      focus (have kk1 := uN [] hnew; have kk2 := uN [0, 1, 3] ht; have kk3 := uN [3] herr; (repeat' (first | (refine ADr.nil ?_; try clear hgv) | refine GOF ?_ | refine AW.ret ?_ | (refine GC ?_ ?_ <;> intro h <;> (try simp only [hsB] at h) <;> try exact xf) | (refine GD ?_ ?_ <;> intro h <;> (try intro hgv) <;> (try simp only [hsN] at h) <;> (try simp only [h]) <;> (try simp only [hsB] at h) <;> try exact xf) | (refine GL ?_ ?_ <;> intro h <;> (try simp only [hsN] at h) <;> (try simp only [h]) <;> (try simp only [hsB] at h) <;> try exact xf) | fail)); all_goals clear kk1 kk2 kk3)
      all_goals first | (((all_goals first | refine RetQ.yr 2 (xs := [.a [iv .u8 0, iv .u8 0, sv (bs [])], iv .i64 0, iv .i64 c.e]) ⟨?_, ?_⟩ | refine RetQ.yn 2 (xs := [.a [iv .u8 0, iv .u8 0, sv (bs [])], iv .i64 0, iv .i64 c.e]) ⟨?_, ?_⟩); (all_goals exact fx)); done) | exact xg
  · have ht := frame_Take_SM1 ⟨s, 0, 0⟩ hok
    generalize Cu.frame ⟨s, 0, 0⟩ = z at *
    obtain ⟨⟨v, k, p⟩, c⟩ := z
    simp only at ht hz ⊢
    have herr := cursor_Err c.s c.a c.e
    have hat := cursor_At c.s c.a c.e
    by_cases he : c.e = 0
    · rw [if_neg (by simpa using he)]
      clear hz
      focus (have kk1 := uN [] hnew; have kk2 := uN [0, 1, 3] ht; have kk3 := uN [3] herr; have kk4 := uN [3] hat; (repeat' (first | (refine ADr.nil ?_; try clear hgv) | refine GWF ?_ | refine AW.ret ?_ | (refine GC ?_ ?_ <;> intro h <;> (try simp only [hsB] at h) <;> try exact xf) | (refine GD ?_ ?_ <;> intro h <;> (try intro hgv) <;> (try simp only [hsN] at h) <;> (try simp only [h]) <;> (try simp only [hsB] at h) <;> try exact xf) | (refine GL ?_ ?_ <;> intro h <;> (try simp only [hsN] at h) <;> (try simp only [h]) <;> (try simp only [hsB] at h) <;> try exact xf) | fail)); all_goals clear kk1 kk2 kk3 kk4)
      all_goals first | (((all_goals first | refine RetQ.yr 2 (xs := [.a [iv .u8 (v : Nat), iv .u8 (k : Nat), sv (bs p)], iv .i64 (c.a : Nat), iv .i64 0]) ⟨?_, ?_⟩ | refine RetQ.yn 2 (xs := [.a [iv .u8 (v : Nat), iv .u8 (k : Nat), sv (bs p)], iv .i64 (c.a : Nat), iv .i64 0]) ⟨?_, ?_⟩); (all_goals exact fx)); done) | exact xg
    · have hz := hz he
      simp only [Prod.mk.injEq] at hz
      obtain ⟨rfl, rfl, rfl⟩ := hz
      rw [if_pos he]
      focus (have kk1 := uN [] hnew; have kk2 := uN [0, 1, 3] ht; have kk3 := uN [3] herr; (repeat' (first | (refine ADr.nil ?_; try clear hgv) | refine GOF ?_ | refine AW.ret ?_ | (refine GC ?_ ?_ <;> intro h <;> (try simp only [hsB] at h) <;> try exact xf) | (refine GD ?_ ?_ <;> intro h <;> (try intro hgv) <;> (try simp only [hsN] at h) <;> (try simp only [h]) <;> (try simp only [hsB] at h) <;> try exact xf) | (refine GL ?_ ?_ <;> intro h <;> (try simp only [hsN] at h) <;> (try simp only [h]) <;> (try simp only [hsB] at h) <;> try exact xf) | fail)); all_goals clear kk1 kk2 kk3)
      all_goals first | (((all_goals first | refine RetQ.yr 2 (xs := [.a [iv .u8 0, iv .u8 0, sv (bs [])], iv .i64 0, iv .i64 c.e]) ⟨?_, ?_⟩ | refine RetQ.yn 2 (xs := [.a [iv .u8 0, iv .u8 0, sv (bs [])], iv .i64 0, iv .i64 c.e]) ⟨?_, ?_⟩); (all_goals exact fx)); done) | exact xg
theorem blob_stuck {c : Cu} (h : c.e ≠ 0) (m : Int) : Cu.blob ⟨c.s, c.a, c.e⟩ m = ([], c) := by
  show Cu.blob c m = _
  have hc : Cu.count c m = (0, c) := count_stuck h m
  unfold Cu.blob
  rw [hc, Cu.bytes_stuck _ h]
theorem num4_stuck {c : Cu} (h : c.e ≠ 0) : Cu.num4 ⟨c.s, c.a, c.e⟩ = (0, c) := by
  show Cu.num4 c = _
  unfold Cu.num4
  rw [Cu.bytes_stuck _ h]; rfl
theorem fmb_stuck {c : Cu} (h : c.e ≠ 0) : (Cu.fmb c).2 = c := by
  have h1 : Cu.byte c = (0, c) := byte_stuck h
  have h2 : Cu.fmv c = (0, c) := by unfold Cu.fmv; rw [h1, gd_stuck h]
  have h3 : Cu.blob c 65536 = ([], c) := blob_stuck h _
  have h4 : Cu.num4 c = (0, c) := num4_stuck h
  unfold Cu.fmb
  rw [h2]; simp only [h1, h3, h4]
  exact gd_stuck h _ _
theorem mgc_stuck {c : Cu} (h : c.e ≠ 0) (w : Nat) : mgc w c = c := by
  have h1 : Cu.byte c = (0, c) := byte_stuck h
  unfold mgc; rw [h1]; exact gd_stuck h _ _
theorem fmb_ver {c : Cu} (h : c.fmv.2.e ≠ 0) : (Cu.fmb c).2 = c.fmv.2 := by
  have h1 : Cu.byte c.fmv.2 = (0, c.fmv.2) := byte_stuck h
  have h3 : Cu.blob c.fmv.2 65536 = ([], c.fmv.2) := blob_stuck h _
  have h4 : Cu.num4 c.fmv.2 = (0, c.fmv.2) := num4_stuck h
  unfold Cu.fmb
  simp only [h1, h3, h4]
  exact gd_stuck h _ _
theorem byte_lt (c : Cu) : c.byte.1 < 256 := by
  unfold Cu.byte
  exact UInt8.toNat_lt _
theorem ref07_Take (c : Cu) (h : c.Ok) : AC Tryz.prog 222 [.p 0 0] [Cu.ro c] fun y σ => y = fmV (Cu.frame c).1 ∧ σ = [Cu.ro (Cu.frame c).2] := by
  refine AC.wk Tryz.func222 ?_
  have stk : ∀ q : Cu, q.Ok → q.e ≠ 0 → (AC Tryz.prog 294 [.p 0 0] [Cu.ro q] fun x σ => x = iv .i64 0 ∧ σ = [Cu.ro q]) ∧ (AC Tryz.prog 213 [.p 0 0, iv .i64 65536] [Cu.ro q] fun x σ => x = sv (bs []) ∧ σ = [Cu.ro q]) ∧ (AC Tryz.prog 302 [.p 0 0, iv .i64 4] [Cu.ro q] fun x σ => x = iv .u64 0 ∧ σ = [Cu.ro q]) ∧ decide (q.e = 0) = false := fun q hq he => by
    have g1 := ref01_Byte q.s q.a q.e hq
    rw [byte_stuck he] at g1
    have g2 := ref06_Take q.s q.a q.e 65536 hq (by decide)
    rw [blob_stuck he] at g2
    have g3 := ref04_Take4 q.s q.a q.e hq
    rw [num4_stuck he] at g3
    exact ⟨g1, g2, g3, decide_eq_false he⟩
  have hb1 := ref01_Byte c.s c.a c.e h
  have k1 := Cu.byte_ok h
  obtain ⟨R, hR⟩ : ∃ R, Cu.frame c = R := ⟨_, rfl⟩
  rw [hR]
  have hfr : R = (if (mgc 78 (mgc 215 c)).fmb.2.e ≠ 0 then (0, 0, []) else (mgc 78 (mgc 215 c)).fmb.1, (mgc 78 (mgc 215 c)).fmb.2) := by rw [← hR]; rfl
  clear hR
  have m1 : mgc 215 c = gd (decide (c.byte.1 = 215)) 9 c.byte.2 := rfl
  rw [byte_eta c] at m1 k1
  generalize Cu.byte ⟨c.s, c.a, c.e⟩ = z at *
  obtain ⟨b1, c1⟩ := z
  simp only at hb1 k1 m1
  have bad : ∀ q : Cu, q.e ≠ 0 → (mgc 78 (mgc 215 c)).fmb.2 = q → R = ((0, 0, []), q) := fun q h1 h2 => by rw [hfr, h2, if_pos h1]
  by_cases hw1 : b1 = 215
  case neg =>
    have hn1 : ¬ ((b1 : Nat) : Int) = 215 := by omega
    rw [decide_eq_false hw1] at m1
    by_cases he : c1.e = 0
    · obtain ⟨q, hq⟩ : ∃ q : Cu, q = ⟨c1.s, c1.a, 9⟩ := ⟨_, rfl⟩
      have mq : mgc 215 c = q := by rw [m1, hq]; show Cu.fail c1 9 = _; unfold Cu.fail; rw [if_pos he]
      have k9 : q.Ok := by rw [hq]; exact k1
      have h9 : q.e ≠ 0 := by rw [hq]; show (9 : Int) ≠ 0; decide
      have hRq := bad q h9 (by rw [mq, mgc_stuck h9, fmb_stuck h9])
      obtain ⟨s1, s2, s3, s4⟩ := stk q k9 h9
      rw [hRq]
      clear stk bad hfr m1 mq hRq
      subst hq
      simp only at s1 s2 s3 s4
      focus (have kxs := hn1; have kk1 := uN [0] hb1; have kk2 := uN [0] s1; have kk3 := uN [0] s2; have kk4 := uN [0] s3; (repeat' (first | refine GF ?_ | refine AW.ret ?_ | (refine GC ?_ ?_ <;> intro h <;> (try simp only [hsB] at h) <;> try exact xf) | (refine GL ?_ ?_ <;> intro h <;> (try simp only [hsN] at h) <;> (try simp only [h]) <;> (try simp only [hsB] at h) <;> try exact xf) | fail)); all_goals clear kxs kk1 kk2 kk3 kk4)
      all_goals first | (((all_goals first | refine RetQ.yr 1 (xs := [.a [iv .u8 0, iv .u8 0, sv (bs [])]]) ⟨?_, ?_⟩ | refine RetQ.yn 1 (xs := [.a [iv .u8 0, iv .u8 0, sv (bs [])]]) ⟨?_, ?_⟩); (all_goals exact fx)); done) | exact xg
    · have mq : mgc 215 c = c1 := by rw [m1]; exact Cu.fail_stuck he _
      have hRq := bad c1 he (by rw [mq, mgc_stuck he, fmb_stuck he])
      obtain ⟨s1, s2, s3, s4⟩ := stk c1 k1 he
      rw [hRq]
      clear stk bad hfr m1 mq hRq
      focus (have kxs := And.intro s4 hn1; have kk1 := uN [0] hb1; have kk2 := uN [0] s1; have kk3 := uN [0] s2; have kk4 := uN [0] s3; (repeat' (first | refine GF ?_ | refine AW.ret ?_ | (refine GC ?_ ?_ <;> intro h <;> (try simp only [hsB] at h) <;> try exact xf) | (refine GL ?_ ?_ <;> intro h <;> (try simp only [hsN] at h) <;> (try simp only [h]) <;> (try simp only [hsB] at h) <;> try exact xf) | fail)); all_goals clear kxs kk1 kk2 kk3 kk4)
      all_goals first | (((all_goals first | refine RetQ.yr 1 (xs := [.a [iv .u8 0, iv .u8 0, sv (bs [])]]) ⟨?_, ?_⟩ | refine RetQ.yn 1 (xs := [.a [iv .u8 0, iv .u8 0, sv (bs [])]]) ⟨?_, ?_⟩); (all_goals exact fx)); done) | exact xg
  rw [decide_eq_true hw1] at m1
  have m1 : mgc 215 c = c1 := m1
  subst hw1
  rw [m1] at bad hfr
  have hb2 := ref01_Byte c1.s c1.a c1.e k1
  have k2 := Cu.byte_ok k1
  have m2 : mgc 78 c1 = gd (decide (c1.byte.1 = 78)) 9 c1.byte.2 := rfl
  rw [byte_eta c1] at m2 k2
  generalize Cu.byte ⟨c1.s, c1.a, c1.e⟩ = z at *
  obtain ⟨b2, c2⟩ := z
  simp only at hb2 k2 m2
  by_cases hw2 : b2 = 78
  case neg =>
    have hn2 : ¬ ((b2 : Nat) : Int) = 78 := by omega
    rw [decide_eq_false hw2] at m2
    by_cases he : c2.e = 0
    · obtain ⟨q, hq⟩ : ∃ q : Cu, q = ⟨c2.s, c2.a, 9⟩ := ⟨_, rfl⟩
      have mq : mgc 78 c1 = q := by rw [m2, hq]; show Cu.fail c2 9 = _; unfold Cu.fail; rw [if_pos he]
      have k9 : q.Ok := by rw [hq]; exact k2
      have h9 : q.e ≠ 0 := by rw [hq]; show (9 : Int) ≠ 0; decide
      have hRq := bad q h9 (by rw [mq, fmb_stuck h9])
      obtain ⟨s1, s2, s3, s4⟩ := stk q k9 h9
      rw [hRq]
      clear stk bad hfr m1 m2 mq hRq
      subst hq
      simp only at s1 s2 s3 s4
      focus (have kxs := hn2; have kk1 := uN [0] hb1; have kk2 := uN [0] hb2; have kk3 := uN [0] s1; have kk4 := uN [0] s2; have kk5 := uN [0] s3; (repeat' (first | refine GF ?_ | refine AW.ret ?_ | (refine GC ?_ ?_ <;> intro h <;> (try simp only [hsB] at h) <;> try exact xf) | (refine GL ?_ ?_ <;> intro h <;> (try simp only [hsN] at h) <;> (try simp only [h]) <;> (try simp only [hsB] at h) <;> try exact xf) | fail)); all_goals clear kxs kk1 kk2 kk3 kk4 kk5)
      all_goals first | (((all_goals first | refine RetQ.yr 1 (xs := [.a [iv .u8 0, iv .u8 0, sv (bs [])]]) ⟨?_, ?_⟩ | refine RetQ.yn 1 (xs := [.a [iv .u8 0, iv .u8 0, sv (bs [])]]) ⟨?_, ?_⟩); (all_goals exact fx)); done) | exact xg
    · have mq : mgc 78 c1 = c2 := by rw [m2]; exact Cu.fail_stuck he _
      have hRq := bad c2 he (by rw [mq, fmb_stuck he])
      obtain ⟨s1, s2, s3, s4⟩ := stk c2 k2 he
      rw [hRq]
      clear stk bad hfr m1 m2 mq hRq
      focus (have kxs := And.intro s4 hn2; have kk1 := uN [0] hb1; have kk2 := uN [0] hb2; have kk3 := uN [0] s1; have kk4 := uN [0] s2; have kk5 := uN [0] s3; (repeat' (first | refine GF ?_ | refine AW.ret ?_ | (refine GC ?_ ?_ <;> intro h <;> (try simp only [hsB] at h) <;> try exact xf) | (refine GL ?_ ?_ <;> intro h <;> (try simp only [hsN] at h) <;> (try simp only [h]) <;> (try simp only [hsB] at h) <;> try exact xf) | fail)); all_goals clear kxs kk1 kk2 kk3 kk4 kk5)
      all_goals first | (((all_goals first | refine RetQ.yr 1 (xs := [.a [iv .u8 0, iv .u8 0, sv (bs [])]]) ⟨?_, ?_⟩ | refine RetQ.yn 1 (xs := [.a [iv .u8 0, iv .u8 0, sv (bs [])]]) ⟨?_, ?_⟩); (all_goals exact fx)); done) | exact xg
  rw [decide_eq_true hw2] at m2
  have m2 : mgc 78 c1 = c2 := m2
  subst hw2
  rw [m2] at bad hfr
  obtain ⟨m, hm⟩ : ∃ m, c2.fmb = m := ⟨_, rfl⟩
  have hb3 := ref01_Byte c2.s c2.a c2.e k2
  have k3 := Cu.byte_ok k2
  have a3 : c2.a ≤ c2.byte.2.a := Cu.byte_a c2
  have l3 : c2.byte.1 < 256 := byte_lt c2
  have hver := @fmb_ver c2
  rw [hm] at hfr bad hver
  unfold Cu.fmb Cu.fmv at hm
  unfold Cu.fmv at hver
  rw [byte_eta c2] at hm k3 a3 l3 hver
  generalize Cu.byte ⟨c2.s, c2.a, c2.e⟩ = z at *
  obtain ⟨v, c3⟩ := z
  simp only at hb3 hm k3 a3 l3 hver
  by_cases hv : v = 1 ∨ v = 2
  case neg =>
    have hn3 : ¬ ((v : Nat) : Int) = 1 := by omega
    have hn4 : ¬ ((v : Nat) : Int) = 2 := by omega
    rw [decide_eq_false hv] at hver
    by_cases he : c3.e = 0
    · obtain ⟨q, hq⟩ : ∃ q : Cu, q = ⟨c3.s, c3.a, 10⟩ := ⟨_, rfl⟩
      have mq : gd false 10 c3 = q := by rw [hq]; show Cu.fail c3 10 = _; unfold Cu.fail; rw [if_pos he]
      have k9 : q.Ok := by rw [hq]; exact k3
      have h9 : q.e ≠ 0 := by rw [hq]; show (10 : Int) ≠ 0; decide
      have hRq := bad q h9 (by rw [hver (by rw [mq]; exact h9), mq])
      obtain ⟨s1, s2, s3, s4⟩ := stk q k9 h9
      rw [hRq]
      clear stk bad hfr m1 m2 mq hRq hver hm
      subst hq
      simp only at s1 s2 s3 s4
      focus (have kxs := And.intro hn3 hn4; have kk1 := uN [0] hb1; have kk2 := uN [0] hb2; have kk3 := uN [0] hb3; have kk4 := uN [0] s1; have kk5 := uN [0] s2; have kk6 := uN [0] s3; (repeat' (first | refine GF ?_ | refine AW.ret ?_ | (refine GC ?_ ?_ <;> intro h <;> (try simp only [hsB] at h) <;> try exact xf) | (refine GL ?_ ?_ <;> intro h <;> (try simp only [hsN] at h) <;> (try simp only [h]) <;> (try simp only [hsB] at h) <;> try exact xf) | fail)); all_goals clear kxs kk1 kk2 kk3 kk4 kk5 kk6)
      all_goals first | (((all_goals first | refine RetQ.yr 1 (xs := [.a [iv .u8 0, iv .u8 0, sv (bs [])]]) ⟨?_, ?_⟩ | refine RetQ.yn 1 (xs := [.a [iv .u8 0, iv .u8 0, sv (bs [])]]) ⟨?_, ?_⟩); (all_goals exact fx)); done) | exact xg
    · have mq : gd false 10 c3 = c3 := Cu.fail_stuck he _
      have hRq := bad c3 he (by rw [hver (by rw [mq]; exact he), mq])
      obtain ⟨s1, s2, s3, s4⟩ := stk c3 k3 he
      rw [hRq]
      clear stk bad hfr m1 m2 mq hRq hver hm
      focus (have kxs := And.intro s4 (And.intro hn3 hn4); have kk1 := uN [0] hb1; have kk2 := uN [0] hb2; have kk3 := uN [0] hb3; have kk4 := uN [0] s1; have kk5 := uN [0] s2; have kk6 := uN [0] s3; (repeat' (first | refine GF ?_ | refine AW.ret ?_ | (refine GC ?_ ?_ <;> intro h <;> (try simp only [hsB] at h) <;> try exact xf) | (refine GL ?_ ?_ <;> intro h <;> (try simp only [hsN] at h) <;> (try simp only [h]) <;> (try simp only [hsB] at h) <;> try exact xf) | fail)); all_goals clear kxs kk1 kk2 kk3 kk4 kk5 kk6)
      all_goals first | (((all_goals first | refine RetQ.yr 1 (xs := [.a [iv .u8 0, iv .u8 0, sv (bs [])]]) ⟨?_, ?_⟩ | refine RetQ.yn 1 (xs := [.a [iv .u8 0, iv .u8 0, sv (bs [])]]) ⟨?_, ?_⟩); (all_goals exact fx)); done) | exact xg
  rw [decide_eq_true hv] at hm
  clear bad stk hver
  rw [show gd true 10 c3 = c3 from rfl] at hm
  have hb4 := ref01_Byte c3.s c3.a c3.e k3
  have k4 := Cu.byte_ok k3
  have a4 : c3.a ≤ c3.byte.2.a := Cu.byte_a c3
  have l4 : c3.byte.1 < 256 := byte_lt c3
  rw [byte_eta c3] at hm k4 a4 l4
  generalize Cu.byte ⟨c3.s, c3.a, c3.e⟩ = z at *
  obtain ⟨k, c4⟩ := z
  simp only at hb4 hm k4 a4 l4
  have hbl := ref06_Take c4.s c4.a c4.e 65536 k4 (by decide)
  have k5 := Cu.blob_ok (max := 65536) k4
  have a5 : c4.a ≤ (Cu.blob c4 65536).2.a := Cu.blob_a c4 65536
  rw [show Cu.blob ⟨c4.s, c4.a, c4.e⟩ 65536 = Cu.blob c4 65536 from rfl] at hbl
  generalize Cu.blob c4 65536 = z at *
  obtain ⟨p, c5⟩ := z
  simp only at hbl hm k5 a5
  have hsl : ((c5.s.drop c2.a).take (c5.a - c2.a)).length ≤ 9223372036854775807 := by rw [List.length_take]; exact Nat.le_trans (Nat.min_le_left _ _) (by have z1 := k5.1; have z2 := k5.2; omega)
  have hsu := ref05_Sum ((c5.s.drop c2.a).take (c5.a - c2.a)) hsl
  have hft := ref04_Take4 c5.s c5.a c5.e k5
  rw [show Cu.num4 ⟨c5.s, c5.a, c5.e⟩ = Cu.num4 c5 from rfl] at hft
  have ss : (Cu.num4 c5).2.s = c5.s := Cu.bytes_s c5 4
  rw [← ss] at hsu hm
  have z1 := k5.1
  have z2 := k5.2
  rw [← ss] at z1 z2
  have a52 : c2.a ≤ c5.a := by omega
  generalize Cu.num4 c5 = z at *
  obtain ⟨n, c6⟩ := z
  simp only at hft hm hsu z1 z2
  have hsm := csum_lt ((c6.s.drop c2.a).take (c5.a - c2.a))
  generalize csum ((c6.s.drop c2.a).take (c5.a - c2.a)) = sm at *
  have hvw : IntKind.wrap .u8 (v : Int) = (v : Int) := by rw [wrapB, Nat.mod_eq_of_lt l3]
  have hkw : IntKind.wrap .u8 (k : Int) = (k : Int) := by rw [wrapB, Nat.mod_eq_of_lt l4]
  have hn1 : ((v : Nat) : Int) = 1 ∨ ((v : Nat) : Int) = 2 := by omega
  have z3 : (c5.a : Int) ≤ (c6.s.length : Int) := by omega
  have z4 : (c2.a : Int) ≤ (c5.a : Int) := by omega
  have hwn : decide (n = sm) = decide (((n : Nat) : Int) = ((sm : Nat) : Int)) := by rw [decide_eq_decide]; omega
  by_cases he6 : c6.e = 0
  case neg =>
    have hR6 : R = ((0, 0, []), c6) := by
      rw [hfr, ← hm, show (gd (decide (n = sm)) 12 c6) = c6 from gd_stuck he6 _ _, if_pos he6]
    rw [hR6]
    clear hfr hm hR6 hwn
    focus (have kxs := he6; have kk1 := uN [0] hb1; have kk2 := uN [0] hb2; have kk3 := uN [0] hb3; have kk4 := uN [0] hb4; have kk5 := uN [0] hbl; have kk6 := uN [0] hft; (repeat' (first | refine GF ?_ | refine AW.ret ?_ | (refine GC ?_ ?_ <;> intro h <;> (try simp only [hsB] at h) <;> try exact xf) | (refine GL ?_ ?_ <;> intro h <;> (try simp only [hsN] at h) <;> (try simp only [h]) <;> (try simp only [hsB] at h) <;> try exact xf) | fail)); all_goals clear kxs kk1 kk2 kk3 kk4 kk5 kk6)
    all_goals first | (((all_goals first | refine RetQ.yr 1 (xs := [.a [iv .u8 0, iv .u8 0, sv (bs [])]]) ⟨?_, ?_⟩ | refine RetQ.yn 1 (xs := [.a [iv .u8 0, iv .u8 0, sv (bs [])]]) ⟨?_, ?_⟩); (all_goals exact fx)); done) | exact xg
  by_cases hns : n = sm
  case neg =>
    have hnm : ¬ ((n : Nat) : Int) = ((sm : Nat) : Int) := by omega
    have hR6 : R = ((0, 0, []), ⟨c6.s, c6.a, 12⟩) := by
      rw [hfr, ← hm, decide_eq_false hns, show (gd false 12 c6) = c6.fail 12 from rfl]
      rw [show Cu.fail c6 12 = ⟨c6.s, c6.a, 12⟩ from by unfold Cu.fail; rw [if_pos he6]]
      rw [if_pos (by show (12 : Int) ≠ 0; decide)]
    rw [hR6]
    clear hfr hm hR6 hwn
    focus (have kxs := hnm; have kk1 := uN [0] hb1; have kk2 := uN [0] hb2; have kk3 := uN [0] hb3; have kk4 := uN [0] hb4; have kk5 := uN [0] hbl; have kk6 := uN [0] hft; have kk7 := uN [] hsu; (repeat' (first | refine GF ?_ | refine AW.ret ?_ | (refine GC ?_ ?_ <;> intro h <;> (try simp only [hsB] at h) <;> try exact xf) | (refine GL ?_ ?_ <;> intro h <;> (try simp only [hsN] at h) <;> (try simp only [h]) <;> (try simp only [hsB] at h) <;> try exact xf) | fail)); all_goals clear kxs kk1 kk2 kk3 kk4 kk5 kk6 kk7)
    all_goals first | (((all_goals first | refine RetQ.yr 1 (xs := [.a [iv .u8 0, iv .u8 0, sv (bs [])]]) ⟨?_, ?_⟩ | refine RetQ.yn 1 (xs := [.a [iv .u8 0, iv .u8 0, sv (bs [])]]) ⟨?_, ?_⟩); (all_goals exact fx)); done) | exact xg
  have hR6 : R = ((v, k, p), c6) := by
    rw [hfr, ← hm, decide_eq_true hns, show (gd true 12 c6) = c6 from rfl, if_neg (by simpa using he6)]
  rw [hR6]
  clear hfr hm hR6 hwn
  subst hns
  focus (have kxs := And.intro hvw hkw; have kk1 := uN [0] hb1; have kk2 := uN [0] hb2; have kk3 := uN [0] hb3; have kk4 := uN [0] hb4; have kk5 := uN [0] hbl; have kk6 := uN [0] hft; have kk7 := uN [] hsu; (repeat' (first | refine GF ?_ | refine AW.ret ?_ | (refine GC ?_ ?_ <;> intro h <;> (try simp only [hsB] at h) <;> try exact xf) | (refine GL ?_ ?_ <;> intro h <;> (try simp only [hsN] at h) <;> (try simp only [h]) <;> (try simp only [hsB] at h) <;> try exact xf) | fail)); all_goals clear kxs kk1 kk2 kk3 kk4 kk5 kk6 kk7)
  all_goals first | (((all_goals first | refine RetQ.yr 1 (xs := [.a [iv .u8 (v : Nat), iv .u8 (k : Nat), sv (bs p)]]) ⟨?_, ?_⟩ | refine RetQ.yn 1 (xs := [.a [iv .u8 (v : Nat), iv .u8 (k : Nat), sv (bs p)]]) ⟨?_, ?_⟩); (all_goals exact fx)); done) | exact xg
end Go.AW
namespace Go.AW
def spl (s : List UInt8) : Nat → Nat → List Fm × (List Nat × (Nat × Int))
  | 0, a => ([], ([], (0, 0)))
  | k + 1, a =>
    if s.length ≤ a then ([], ([], (0, 0))) else
    if (framew (s.drop a)).2.2 = 2 then ([], ([], (s.length - a, 0))) else
    if (framew (s.drop a)).2.2 ≠ 0 then ([], ([], (s.length - a, (framew (s.drop a)).2.2))) else
    ((framew (s.drop a)).1 :: (spl s k (a + (framew (s.drop a)).2.1)).1, (a :: (spl s k (a + (framew (s.drop a)).2.1)).2.1, (spl s k (a + (framew (s.drop a)).2.1)).2.2))
def splf (s : List UInt8) : List Fm × (List Nat × (Nat × Int)) := spl s (s.length + 1) 0
abbrev fmD (x : Fm) : List D := [.s (.int .u8 (x.1 : Nat)), .s (.int .u8 (x.2.1 : Nat)), .s (.string ⟨x.2.2.toArray⟩)]
abbrev fmsD (l : List Fm) : List D := (l.map fmD).flatten
abbrev nsD (l : List Nat) : List D := l.map fun n => .s (.int .i64 (n : Nat))
end Go.AW
namespace Go.AW
open Go Go.Proofs
def nMagic : List UInt8 := [109, 97, 103, 105, 99]
def nVersion : List UInt8 := [118, 101, 114, 115, 105, 111, 110]
def nKind : List UInt8 := [107, 105, 110, 100]
def nLength : List UInt8 := [108, 101, 110, 103, 116, 104]
def nPayload : List UInt8 := [112, 97, 121, 108, 111, 97, 100]
def nSum : List UInt8 := [115, 117, 109]
def frn (s : List UInt8) : Nat := ((mgc 78 (mgc 215 ⟨s, 0, 0⟩)).fmv.2.byte.2.count 65536).1
def sumc (f : Int) (c : Cu) : Cu := if f = 0 then (c.bytes 4).2 else (c.bytes 4).2.fail f
def frp (s : List UInt8) : List Prd := [(nMagic, fun c => mgc 78 (mgc 215 c)), (nVersion, fun c => c.fmv.2), (nKind, fun c => c.byte.2), (nLength, fun c => (c.count 65536).2), (nPayload, fun c => (c.bytes (frn s)).2), (nSum, fun c => sumc (framew s).2.2 c)]
theorem fmv_stk {c : Cu} (h : c.e ≠ 0) : c.fmv.2 = c := by
  have h1 : Cu.byte c = (0, c) := byte_stuck h
  unfold Cu.fmv; rw [h1, gd_stuck h]
theorem byte_stk {c : Cu} (h : c.e ≠ 0) : c.byte.2 = c := by
  have h1 : Cu.byte c = (0, c) := byte_stuck h
  rw [h1]
theorem sumc_stk {c : Cu} (f : Int) (h : c.e ≠ 0) : sumc f c = c := by
  unfold sumc
  rw [Cu.bytes_stuck _ h]
  split
  · rfl
  · exact Cu.fail_stuck h f
theorem sumc_ok {c : Cu} (f : Int) (h : c.Ok) : (sumc f c).Ok := by
  unfold sumc; split
  · exact Cu.bytes_ok h
  · exact Cu.bytes_ok h
theorem frn_zero {s : List UInt8} (h : (mgc 78 (mgc 215 ⟨s, 0, 0⟩)).fmv.2.byte.2.e ≠ 0) : frn s = 0 := by
  have hc : Cu.count (mgc 78 (mgc 215 ⟨s, 0, 0⟩)).fmv.2.byte.2 65536 = (0, _) := count_stuck h 65536
  unfold frn; rw [hc]
theorem frp_stk (s : List UInt8) : Stk (frp s) := by
  intro x hx c h
  simp only [frp, List.mem_cons, List.not_mem_nil, or_false] at hx
  rcases hx with rfl | rfl | rfl | rfl | rfl | rfl
  · show mgc 78 (mgc 215 c) = c
    rw [mgc_stuck h, mgc_stuck h]
  · exact fmv_stk h
  · exact byte_stk h
  · have hc : Cu.count c 65536 = (0, c) := count_stuck h 65536
    show (Cu.count c 65536).2 = c
    rw [hc]
  · show (Cu.bytes c _).2 = c
    rw [Cu.bytes_stuck _ h]
  · exact sumc_stk _ h
theorem framew_e (s : List UInt8) : (framew s).2.2 = (Cu.frame ⟨s, 0, 0⟩).2.e := by
  unfold framew
  by_cases h : (Cu.frame ⟨s, 0, 0⟩).2.e = 0
  · rw [if_neg (by simpa using h), h]
  · rw [if_pos h]
theorem frp_e (s : List UInt8) : (spansr (frp s) ⟨s, 0, 0⟩).2.e = (framew s).2.2 := by
  rw [spansr_end _ _ (frp_stk s)]
  have hb : ((mgc 78 (mgc 215 ⟨s, 0, 0⟩)).fmv.2.byte.2.blob 65536).2 = (((mgc 78 (mgc 215 ⟨s, 0, 0⟩)).fmv.2.byte.2.count 65536).2.bytes (frn s)).2 := by
    unfold Cu.blob frn; rfl
  show (sumc (framew s).2.2 (((mgc 78 (mgc 215 ⟨s, 0, 0⟩)).fmv.2.byte.2.count 65536).2.bytes (frn s)).2).e = _
  rw [← hb]
  have hfe := framew_e s
  have hfr : ∃ b, (Cu.frame ⟨s, 0, 0⟩).2 = gd b 12 (((mgc 78 (mgc 215 ⟨s, 0, 0⟩)).fmv.2.byte.2.blob 65536).2.bytes 4).2 := ⟨_, rfl⟩
  obtain ⟨b, hfr⟩ := hfr
  rw [hfr] at hfe
  unfold sumc
  generalize (((mgc 78 (mgc 215 ⟨s, 0, 0⟩)).fmv.2.byte.2.blob 65536).2.bytes 4).2 = q at *
  generalize (framew s).2.2 = fe at *
  by_cases h0 : fe = 0
  · rw [if_pos h0]
    rw [h0] at hfe ⊢
    have := gd_e (b := b) (f := 12) (c := q) (by decide) hfe.symm
    rw [this.2] at hfe
    exact hfe.symm
  · rw [if_neg h0]
    by_cases hq : q.e = 0
    · unfold Cu.fail; rw [if_pos hq]
    · rw [Cu.fail_stuck hq, hfe, gd_stuck hq]
end Go.AW
namespace Go.AW
def enc4 (n : Nat) : List UInt8 := (enc8 n).drop 4
def fbd (v k : UInt8) (p : List UInt8) : List UInt8 := v :: k :: (vput p.length ++ p)
def encF (v k : UInt8) (p : List UInt8) : List UInt8 × Int :=
  if v.toNat = 1 ∨ v.toNat = 2 then (if 65536 < p.length then ([], 3) else (215 :: 78 :: (fbd v k p ++ enc4 (csum (fbd v k p))), 0)) else ([], 10)
end Go.AW
namespace Go.AW
open Go Go.Proofs
attribute [local irreducible] thenQ blockQ RetQ AL AW AC AOp
theorem ref07_Decode (s : List UInt8) (hs : s.length ≤ 140737488351232) : AC Tryz.prog 120 [sv (bs s)] [] fun y σ => y = .t [fmV (framew s).1, iv .i64 ((framew s).2.1 : Nat), iv .i64 (framew s).2.2] ∧ σ = [] := by
  refine AC.wk Tryz.func120 ?_
  have hok : Cu.Ok ⟨s, 0, 0⟩ := ⟨hs, Nat.zero_le _⟩
  have hz := frame_zero ⟨s, 0, 0⟩
  unfold framew
  have ht := ref07_Take ⟨s, 0, 0⟩ hok
  generalize Cu.frame ⟨s, 0, 0⟩ = z at *
  obtain ⟨⟨v, k, p⟩, c⟩ := z
  simp only at ht hz ⊢
  by_cases he : c.e = 0
  · rw [if_neg (by simpa using he)]
    clear hz
    focus (have kk1 := uN [1] ht; (repeat' (first | (refine ADr.nil ?_; try clear hgv) | refine GWF ?_ | refine AW.ret ?_ | (refine GC ?_ ?_ <;> intro h <;> (try simp only [hsB] at h) <;> try exact xf) | (refine GD ?_ ?_ <;> intro h <;> (try intro hgv) <;> (try simp only [hsN] at h) <;> (try simp only [h]) <;> (try simp only [hsB] at h) <;> try exact xf) | (refine GL ?_ ?_ <;> intro h <;> (try simp only [hsN] at h) <;> (try simp only [h]) <;> (try simp only [hsB] at h) <;> try exact xf) | fail)); all_goals clear kk1)
    all_goals first | (((all_goals first | refine RetQ.yr 0 (xs := [.a [iv .u8 (v : Nat), iv .u8 (k : Nat), sv (bs p)], iv .i64 (c.a : Nat), iv .i64 0]) ⟨?_, ?_⟩ | refine RetQ.yn 0 (xs := [.a [iv .u8 (v : Nat), iv .u8 (k : Nat), sv (bs p)], iv .i64 (c.a : Nat), iv .i64 0]) ⟨?_, ?_⟩); (all_goals exact fx)); done) | exact xg
  · have hz := hz he
    simp only [Prod.mk.injEq] at hz
    obtain ⟨rfl, rfl, rfl⟩ := hz
    rw [if_pos he]
    focus (have kk1 := uN [1] ht; (repeat' (first | (refine ADr.nil ?_; try clear hgv) | refine GWF ?_ | refine AW.ret ?_ | (refine GC ?_ ?_ <;> intro h <;> (try simp only [hsB] at h) <;> try exact xf) | (refine GD ?_ ?_ <;> intro h <;> (try intro hgv) <;> (try simp only [hsN] at h) <;> (try simp only [h]) <;> (try simp only [hsB] at h) <;> try exact xf) | (refine GL ?_ ?_ <;> intro h <;> (try simp only [hsN] at h) <;> (try simp only [h]) <;> (try simp only [hsB] at h) <;> try exact xf) | fail)); all_goals clear kk1)
    all_goals first | (((all_goals first | refine RetQ.yr 0 (xs := [.a [iv .u8 0, iv .u8 0, sv (bs [])], iv .i64 0, iv .i64 c.e]) ⟨?_, ?_⟩ | refine RetQ.yn 0 (xs := [.a [iv .u8 0, iv .u8 0, sv (bs [])], iv .i64 0, iv .i64 c.e]) ⟨?_, ?_⟩); (all_goals exact fx)); done) | exact xg
theorem pt_magic (c0 : Cu) (hok0 : c0.Ok) : AC Tryz.prog 107 [.p 0 0] [Cu.ob c0] fun y σ => y = .t [] ∧ σ = [Cu.ob (mgc 78 (mgc 215 c0))] := by
  refine AC.wk Tryz.func107 ?_
  focus ((repeat' (first | refine G ?_ | refine AW.ret ?_ | (refine GC ?_ ?_ <;> intro h <;> (try simp only [hsB] at h) <;> try exact xf) | (refine GL ?_ ?_ <;> intro h <;> (try simp only [hsN] at h) <;> (try simp only [h]) <;> (try simp only [hsB] at h) <;> try exact xf) | fail)))
  all_goals first | exact xg | skip
  refine AW.rounds [0, 5, 6, 7] (fun x : Nat × Cu => [(0, .p 0 0), (5, .d (.l 2 [.s (.int .u8 215), .s (.int .u8 78)])), (6, iv .i64 2), (7, iv .i64 (x.1 : Nat))]) (fun x => [Cu.ob x.2])
    (fun x => x.2.Ok ∧ ((x.1 = 0 ∧ x.2 = c0) ∨ (x.1 = 1 ∧ x.2 = mgc 215 c0) ∨ (x.1 = 2 ∧ x.2 = mgc 78 (mgc 215 c0)))) (fun x => 2 - x.1) (0, c0) ⟨hok0, .inl ⟨rfl, rfl⟩⟩ rfl rfl (fun _ _ => Nat.le_of_ble_eq_true rfl) (fun _ _ => rfl) (fun _ _ => rfl) ?_
  rintro ⟨i, c⟩ ⟨hok, hi⟩ J hJ
  simp only at hok hi ⊢
  rcases hi with ⟨rfl, rfl⟩ | ⟨rfl, hc⟩ | ⟨rfl, hc⟩
  case inr.inr =>
    rw [← hc]
    clear hJ
    exact Wc1
  ·
    have hby := cursor_Byte c.s c.a c.e hok
    have hb := Cu.byte_ok hok
    have hm : mgc 215 c = gd (decide (c.byte.1 = 215)) 9 c.byte.2 := rfl
    have go : ∀ (q : Cu), q = mgc 215 c → q.Ok → ∀ T' σ', keepT T' [0, 5, 6, 7] = [(0, .p 0 0), (5, .d (.l 2 [.s (.int .u8 215), .s (.int .u8 78)])), (6, iv .i64 2), (7, iv .i64 1)] → σ'.take 1 = [Cu.ob q] → J T' σ' := fun q g0 g3 T' σ' g1 g2 =>
      hJ (1, q) T' σ' (by simp) ⟨g3, .inr (.inl ⟨rfl, g0⟩)⟩ g1 g2
    clear hJ
    rw [hm] at go
    rw [byte_eta c] at go hb
    clear hm
    generalize Cu.byte ⟨c.s, c.a, c.e⟩ = z at *
    obtain ⟨b, c1⟩ := z
    simp only at hby hb go
    have her := @cursor_Err c1.s c1.a c1.e
    by_cases he : c1.e = 0
    · by_cases hw : b = 215
      · have go := go c1 (by rw [decide_eq_true hw]; rfl) hb
        have hw2 : ((b : Nat) : Int) = 215 := by omega
        (have kxs := hw2; have kk1 := uN [0] hby; have kk2 := uN [0] her; exact Wcg)
      · have go := go (c1.fail 9) (by rw [decide_eq_false hw]; rfl) hb
        have hfa := @cursor_Fail c1.s c1.a c1.e 9
        rw [show Cu.fail ⟨c1.s, c1.a, c1.e⟩ 9 = c1.fail 9 from rfl] at hfa
        generalize c1.fail 9 = c2 at *
        have hw2 : ¬ ((b : Nat) : Int) = 215 := by omega
        (have kxs := hw2; have kk1 := uN [0] hby; have kk2 := uN [0] her; have kk3 := uN [0] hfa; exact Wcg)
    · have go := go c1 (gd_stuck he _ _).symm hb
      (have kxs := he; have kk1 := uN [0] hby; have kk2 := uN [0] her; exact Wcg)
  ·
    have hby := cursor_Byte c.s c.a c.e hok
    have hb := Cu.byte_ok hok
    have hm : mgc 78 c = gd (decide (c.byte.1 = 78)) 9 c.byte.2 := rfl
    have go : ∀ (q : Cu), q = mgc 78 c → q.Ok → ∀ T' σ', keepT T' [0, 5, 6, 7] = [(0, .p 0 0), (5, .d (.l 2 [.s (.int .u8 215), .s (.int .u8 78)])), (6, iv .i64 2), (7, iv .i64 2)] → σ'.take 1 = [Cu.ob q] → J T' σ' := fun q g0 g3 T' σ' g1 g2 =>
      hJ (2, q) T' σ' (by simp) ⟨g3, .inr (.inr ⟨rfl, by rw [← hc]; exact g0⟩)⟩ g1 g2
    clear hJ
    rw [hm] at go
    rw [byte_eta c] at go hb
    clear hm
    generalize Cu.byte ⟨c.s, c.a, c.e⟩ = z at *
    obtain ⟨b, c1⟩ := z
    simp only at hby hb go
    have her := @cursor_Err c1.s c1.a c1.e
    by_cases he : c1.e = 0
    · by_cases hw : b = 78
      · have go := go c1 (by rw [decide_eq_true hw]; rfl) hb
        have hw2 : ((b : Nat) : Int) = 78 := by omega
        (have kxs := hw2; have kk1 := uN [0] hby; have kk2 := uN [0] her; exact Wcg)
      · have go := go (c1.fail 9) (by rw [decide_eq_false hw]; rfl) hb
        have hfa := @cursor_Fail c1.s c1.a c1.e 9
        rw [show Cu.fail ⟨c1.s, c1.a, c1.e⟩ 9 = c1.fail 9 from rfl] at hfa
        generalize c1.fail 9 = c2 at *
        have hw2 : ¬ ((b : Nat) : Int) = 78 := by omega
        (have kxs := hw2; have kk1 := uN [0] hby; have kk2 := uN [0] her; have kk3 := uN [0] hfa; exact Wcg)
    · have go := go c1 (gd_stuck he _ _).symm hb
      (have kxs := he; have kk1 := uN [0] hby; have kk2 := uN [0] her; exact Wcg)
theorem pt_ver (c : Cu) (hok : c.Ok) : AC Tryz.prog 111 [.p 0 0] [Cu.ob c] fun y σ => y = .t [] ∧ σ = [Cu.ob c.fmv.2] := by
  refine AC.wk Tryz.func111 ?_
  have hby := cursor_Byte c.s c.a c.e hok
  have hm : c.fmv.2 = gd (decide (c.byte.1 = 1 ∨ c.byte.1 = 2)) 10 c.byte.2 := rfl
  rw [hm, byte_eta c]
  clear hm
  generalize Cu.byte ⟨c.s, c.a, c.e⟩ = z at *
  obtain ⟨b, c1⟩ := z
  simp only at hby ⊢
  have her := @cursor_Err c1.s c1.a c1.e
  by_cases he : c1.e = 0
  · by_cases hw : b = 1 ∨ b = 2
    · rw [decide_eq_true hw]
      show AW _ _ _ _ _ _ _
      rw [show gd true 10 c1 = c1 from rfl]
      rcases hw with rfl | rfl
      · (have kk1 := uN [0] hby; have kk2 := uN [0] her; exact Wc1)
      · (have kk1 := uN [0] hby; have kk2 := uN [0] her; exact Wc1)
    · rw [decide_eq_false hw, show gd false 10 c1 = c1.fail 10 from rfl]
      have hfa := @cursor_Fail c1.s c1.a c1.e 10
      rw [show Cu.fail ⟨c1.s, c1.a, c1.e⟩ 10 = c1.fail 10 from rfl] at hfa
      generalize c1.fail 10 = c2 at *
      have hw1 : ¬ ((b : Nat) : Int) = 1 := by omega
      have hw2 : ¬ ((b : Nat) : Int) = 2 := by omega
      (have kxs := And.intro hw1 hw2; have kk1 := uN [0] hby; have kk2 := uN [0] her; have kk3 := uN [0] hfa; exact Wc1)
  · rw [gd_stuck he]
    (have kxs := he; have kk1 := uN [0] hby; have kk2 := uN [0] her; exact Wc1)
theorem pt_kind (c : Cu) (hok : c.Ok) : AC Tryz.prog 112 [.p 0 0] [Cu.ob c] fun y σ => y = .t [] ∧ σ = [Cu.ob c.byte.2] := by
  refine AC.wk Tryz.func112 ?_
  have hby := cursor_Byte c.s c.a c.e hok
  rw [byte_eta c]
  generalize Cu.byte ⟨c.s, c.a, c.e⟩ = z at *
  obtain ⟨b, c1⟩ := z
  simp only at hby ⊢
  (have kk1 := uN [0] hby; exact Wc1)
theorem pt_len (c : Cu) (hok : c.Ok) (n : Int) : AC Tryz.prog 113 [.p 0 0, .p 1 0] [Cu.ob c, .box 3 [iv .i64 n]] fun y σ => y = .t [] ∧ σ = [Cu.ob (c.count 65536).2, .box 3 [iv .i64 ((c.count 65536).1 : Nat)]] := by
  refine AC.wk Tryz.func113 ?_
  have hby := blob_Count c.s c.a c.e 65536 hok (by decide)
  rw [show Cu.count ⟨c.s, c.a, c.e⟩ 65536 = Cu.count c 65536 from rfl] at hby
  generalize Cu.count c 65536 = z at *
  obtain ⟨b, c1⟩ := z
  simp only at hby ⊢
  (have kk1 := uN [0] hby; exact Wc2)
theorem pt_pay (c : Cu) (hok : c.Ok) (n : Nat) : AC Tryz.prog 115 [.p 0 0, .p 1 0] [Cu.ob c, .box 3 [iv .i64 (n : Nat)]] fun y σ => y = .t [] ∧ σ = [Cu.ob (c.bytes n).2, .box 3 [iv .i64 (n : Nat)]] := by
  refine AC.wk Tryz.func115 ?_
  have hby := cursor_Bytes c.s c.a c.e (n : Int) hok
  rw [show Cu.bytes ⟨c.s, c.a, c.e⟩ (n : Int) = Cu.bytes c n from rfl] at hby
  generalize Cu.bytes c n = z at *
  obtain ⟨b, c1⟩ := z
  simp only at hby ⊢
  (have kk1 := uN [0] hby; exact Wc2)
theorem pt_sum (c : Cu) (hok : c.Ok) (s : List UInt8) (hs : s.length ≤ 140737488351232) : AC Tryz.prog 117 [.p 0 0, .p 1 0] [Cu.ob c, .box 9 [sv (bs s)]] fun y σ => y = .t [] ∧ σ = [Cu.ob (sumc (framew s).2.2 c), .box 9 [sv (bs s)]] := by
  refine AC.wk Tryz.func117 ?_
  have hby := cursor_Bytes c.s c.a c.e 4 hok
  unfold sumc
  rw [show Cu.bytes ⟨c.s, c.a, c.e⟩ 4 = Cu.bytes c 4 from rfl] at hby
  generalize Cu.bytes c 4 = z at *
  obtain ⟨b, c1⟩ := z
  simp only at hby ⊢
  have hde := frame_Decode SM0 (.inl rfl) s hs
  generalize framew s = z at *
  obtain ⟨f, n, e⟩ := z
  simp only at hde ⊢
  by_cases he : e = 0
  · subst he
    rw [if_pos rfl]
    (have kk1 := uN [0] hby; have kk2 := uN [] frame_New; have kk3 := uN [2, 3] hde; exact We2)
  · rw [if_neg he]
    have hfa := @cursor_Fail c1.s c1.a c1.e e
    rw [show Cu.fail ⟨c1.s, c1.a, c1.e⟩ e = c1.fail e from rfl] at hfa
    generalize c1.fail e = c2 at *
    (have kxs := he; have kk1 := uN [0] hby; have kk2 := uN [] frame_New; have kk3 := uN [2, 3] hde; have kk4 := uN [0] hfa; exact We2)
end Go.AW
