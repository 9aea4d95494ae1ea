/-
  pages that are read: the document's.
-/
import Derived.Test.YtdjeilbhdleopaaGreatP09
set_option linter.unusedVariables false
set_option linter.unusedSimpArgs false
set_option maxHeartbeats 4000000
set_option maxRecDepth 10000
namespace Go.AW
open Go Go.Proofs
attribute [local irreducible] thenQ blockQ RetQ AL AW AC AOp
theorem page_leaf {c c1 c2 cf : Cu} {pre : List UInt8} {ts : List It} (h1 : Cu.blob c 31 = (pre, c1)) (h2 : Cu.flag c1 = (true, c2)) (h3 : Cu.itemsg pre c2 = (ts, cf)) : Cu.page c = (if cf.e ≠ 0 then pg0 else ⟨pre, true, [], ts⟩, cf) := by
  obtain ⟨i1, i2⟩ := itemsg_items pre c2
  unfold Cu.page Cu.page1 Cu.page0 rseq
  simp only [h1, h2]
  rw [show Cu.pbody pre true c2 = (([], (Cu.items pre c2).1), (Cu.items pre c2).2) from rfl]
  rw [h3] at i1 i2
  generalize Cu.items pre c2 = y at *
  obtain ⟨l, c3⟩ := y
  simp only at i1 i2 ⊢
  subst i1
  by_cases hce : cf.e = 0
  · obtain ⟨rfl, _⟩ := Prod.mk.inj (i2 hce)
    rfl
  · rw [if_pos hce, if_pos hce]
theorem page_inner {c c1 c2 cf : Cu} {pre : List UInt8} {ts : List Sl} (h1 : Cu.blob c 31 = (pre, c1)) (h2 : Cu.flag c1 = (false, c2)) (h3 : Cu.slotsg c2 = (ts, cf)) : Cu.page c = (if cf.e ≠ 0 then pg0 else ⟨pre, false, ts, []⟩, cf) := by
  obtain ⟨i1, i2⟩ := slotsg_slots c2
  unfold Cu.page Cu.page1 Cu.page0 rseq
  simp only [h1, h2]
  rw [show Cu.pbody pre false c2 = (((Cu.slots c2).1, []), (Cu.slots c2).2) from rfl]
  rw [h3] at i1 i2
  generalize Cu.slots c2 = y at *
  obtain ⟨l, c3⟩ := y
  simp only at i1 i2 ⊢
  subst i1
  by_cases hce : cf.e = 0
  · obtain ⟨rfl, _⟩ := Prod.mk.inj (i2 hce)
    rfl
  · rw [if_pos hce, if_pos hce]
theorem vtake_stk0 {c : Cu} (h : c.e ≠ 0) : Cu.vtake c = (0, c) := by
  unfold Cu.vtake; rw [if_pos h]
theorem count_stk {c : Cu} (h : c.e ≠ 0) (m : Int) : Cu.count c m = (0, c) := by
  unfold Cu.count
  rw [vtake_stk0 h, if_pos h]
theorem count_none {c : Cu} {m : Int} (h : (Cu.count c m).2.e ≠ 0) : (Cu.count c m).1 = 0 := by
  unfold Cu.count at h ⊢
  split
  · rfl
  rename_i h1
  rw [if_neg h1] at h
  split
  · rfl
  rename_i h2
  rw [if_neg h2] at h
  exact absurd h h1
theorem itemsg_stuck {c : Cu} (h : c.e ≠ 0) (pre : List UInt8) : Cu.itemsg pre c = ([], c) := by
  unfold Cu.itemsg; rw [count_stk h]; rfl
theorem slotsg_stuck {c : Cu} (h : c.e ≠ 0) : Cu.slotsg c = ([], c) := by
  unfold Cu.slotsg Cu.count7
  rw [count_stk h]
  show ([], gd (decide ((0:Nat) ≠ 0)) 7 c) = _
  rw [gd_stuck h]
theorem bytes_stk {c : Cu} (h : c.e ≠ 0) (n : Int) : Cu.bytes ⟨c.s, c.a, c.e⟩ n = ([], c) := Cu.bytes_stuck n h
theorem ref20_Take (s : List UInt8) (a : Nat) (e : Int) (h : Cu.Ok ⟨s, a, e⟩) : AC Tryz.prog 217 [.p 0 0] [Cu.ro ⟨s, a, e⟩] fun x σ => x = pgV (Cu.page ⟨s, a, e⟩).1 ∧ σ = [Cu.ro (Cu.page ⟨s, a, e⟩).2] := by
  refine AC.wk Tryz.func217 ?_
  have hbt := ref06_Take s a e 31 h (by decide)
  have hok1 : (Cu.blob ⟨s, a, e⟩ 31).2.Ok := Cu.blob_ok h
  have hpl : (Cu.blob ⟨s, a, e⟩ 31).1.length ≤ 9223372036854775807 := by
    have h1 : (Cu.blob ⟨s, a, e⟩ 31).1.length ≤ (Cu.count ⟨s, a, e⟩ 31).1 := by unfold Cu.blob; exact bytes_le (Cu.count ⟨s, a, e⟩ 31).2 (Cu.count ⟨s, a, e⟩ 31).1
    have h2 := Cu.count_max ⟨s, a, e⟩ 31
    omega
  have hp1 := fun c2 ts cf => @page_leaf ⟨s, a, e⟩ (Cu.blob ⟨s, a, e⟩ 31).2 c2 cf (Cu.blob ⟨s, a, e⟩ 31).1 ts rfl
  have hp2 := fun c2 ts cf => @page_inner ⟨s, a, e⟩ (Cu.blob ⟨s, a, e⟩ 31).2 c2 cf (Cu.blob ⟨s, a, e⟩ 31).1 ts rfl
  generalize Cu.page ⟨s, a, e⟩ = R at *
  generalize Cu.blob ⟨s, a, e⟩ 31 = z at *
  obtain ⟨pre, c1⟩ := z
  simp only at hbt hok1 hpl hp1 hp2
  have hft := ref06_Flag c1.s c1.a c1.e hok1
  have hok2 : (Cu.flag ⟨c1.s, c1.a, c1.e⟩).2.Ok := Cu.flag_ok hok1
  have hfe : Cu.flag c1 = Cu.flag ⟨c1.s, c1.a, c1.e⟩ := rfl
  rw [hfe] at hp1 hp2
  generalize Cu.flag ⟨c1.s, c1.a, c1.e⟩ = z at *
  obtain ⟨leaf, c2⟩ := z
  simp only at hft hok2 hp1 hp2
  by_cases he2 : c2.e = 0
  case neg =>
    have hR : R = (pg0, c2) := by
      cases leaf with
      | true => rw [hp1 c2 [] c2 rfl (itemsg_stuck he2 pre), if_pos he2]
      | false => rw [hp2 c2 [] c2 rfl (slotsg_stuck he2), if_pos he2]
    rw [hR]
    clear hp1 hp2
    (have kk1 := uN [0] hbt; have kk2 := uN [0] hft; exact Wd1)
  cases leaf with
  | true =>
    have hct := ref06_Count c2.s c2.a c2.e 8 hok2 (by decide)
    have hlt : (Cu.count ⟨c2.s, c2.a, c2.e⟩ 8).1 ≤ 8 := Cu.count_max _ 8
    have hok0 : (Cu.count ⟨c2.s, c2.a, c2.e⟩ 8).2.Ok := Cu.count_ok hok2
    have hcn := @count_none ⟨c2.s, c2.a, c2.e⟩ 8
    have hp3 := fun ts cf (h : Cu.itemsg pre c2 = (ts, cf)) => hp1 c2 ts cf rfl h
    unfold Cu.itemsg at hp3
    rw [show Cu.count c2 8 = Cu.count ⟨c2.s, c2.a, c2.e⟩ 8 from rfl] at hp3
    clear hp1 hp2
    generalize Cu.count ⟨c2.s, c2.a, c2.e⟩ 8 = z at *
    obtain ⟨n, c0⟩ := z
    simp only at hct hlt hok0 hcn hp3
    focus (have kk1 := uN [0] hbt; have kk2 := uN [0] hft; have kk3 := uN [0] hct; (repeat' (first | (refine ADr.nil ?_; try clear hgv) | refine GO ?_ | refine AW.ret ?_ | (refine GC ?_ ?_ <;> intro h <;> (try simp only [hsB] at h) <;> try exact xf) | (refine GD ?_ ?_ <;> intro h <;> (try intro hgv) <;> (try simp only [hsN] at h) <;> (try simp only [h]) <;> (try simp only [hsB] at h) <;> try exact xf) | (refine GL ?_ ?_ <;> intro h <;> (try simp only [hsN] at h) <;> (try simp only [h]) <;> (try simp only [hsB] at h) <;> try exact xf) | fail)); all_goals clear kk1 kk2 kk3)
    all_goals first | exact xg | skip
    clear hbt hft hct
    refine AW.birth 149 2 [] [(2, 3)] ?_
    refine AW.rounds [0, 2, 3, 4, 5] (fun x : List It × Cu => [(0, .p 0 0), (2, .p 1 0), (3, .p 2 0), (4, iv .i64 n), (5, iv .i64 x.1.length)])
      (fun x => [Cu.ro x.2, .box 94 [sv (bs []), bv false, .d (.s (.slice none 0 0)), .d (.s (.slice none 0 0))], .box 94 [sv (bs pre), bv true, .d (.s (.slice none 0 0)), .o 3 x.1.length], .row 149 2 x.1.length (itsD x.1)])
      (fun x => x.2.Ok ∧ x.1.length ≤ n ∧ (x.2.e = 0 ∨ n = 0) ∧ (∀ y ∈ x.1, y.1.length ≤ 32) ∧ Cu.manyg (Cu.item pre) (fun _ x => some x.1) n none c0 = (x.1 ++ (Cu.manyg (Cu.item pre) (fun _ x => some x.1) (n - x.1.length) (lastK x.1) x.2).1, (Cu.manyg (Cu.item pre) (fun _ x => some x.1) (n - x.1.length) (lastK x.1) x.2).2)) (fun x => n - x.1.length) ([], c0)
      ⟨hok0, Nat.zero_le _, by by_cases hz : c0.e = 0; exact .inl hz; exact .inr (hcn hz), fun y hy => (List.not_mem_nil hy).elim, rfl⟩ rfl rfl (fun _ _ => by show 1 ≤ 4; decide) (fun _ _ => rfl) (fun _ _ => rfl) ?_
    rintro ⟨out, c⟩ ⟨hok, hol, hz, hky, hR⟩ J hJ
    simp only at hok hol hz hky hR ⊢
    by_cases hlen : out.length < n
    case neg =>
      rw [show n - out.length = 0 by omega] at hR
      rw [show Cu.manyg (Cu.item pre) (fun _ x => some x.1) 0 (lastK out) c = ([], c) from rfl, List.append_nil] at hR
      have hRR := hp3 _ _ hR
      by_cases hce : c.e = 0
      · rw [if_neg (by simpa using hce)] at hRR
        rw [hRR]
        focus ((repeat' (first | (refine ADr.nil ?_; try clear hgv) | refine GO ?_ | refine AW.ret ?_ | (refine GC ?_ ?_ <;> intro h <;> (try simp only [hsB] at h) <;> try exact xf) | (refine GD ?_ ?_ <;> intro h <;> (try intro hgv) <;> (try simp only [hsN] at h) <;> (try simp only [h]) <;> (try simp only [hsB] at h) <;> try exact xf) | (refine GL ?_ ?_ <;> intro h <;> (try simp only [hsN] at h) <;> (try simp only [h]) <;> (try simp only [hsB] at h) <;> try exact xf) | fail)))
        all_goals first | (((all_goals first | refine RetQ.yr 1 (xs := [.a [sv (bs pre), bv true, .d (.s (.slice none 0 0)), .o 3 out.length]]) ⟨?_, ?_⟩ | refine RetQ.yn 1 (xs := [.a [sv (bs pre), bv true, .d (.s (.slice none 0 0)), .o 3 out.length]]) ⟨?_, ?_⟩); (all_goals exact fx)); done) | exact xg
      · rw [if_pos hce] at hRR
        rw [hRR]
        exact Wd1
    have hce : c.e = 0 := by rcases hz with h | h; exact h; omega
    obtain ⟨m, hm⟩ : ∃ m, n - out.length = m + 1 := ⟨n - out.length - 1, by omega⟩
    rw [hm] at hR
    conv at hR => rhs; unfold Cu.manyg
    rw [if_neg (by simpa using hce)] at hR
    have hbk := ref01_Bytes c.s c.a c.e 32 hok
    have hok1 : (Cu.bytes ⟨c.s, c.a, c.e⟩ 32).2.Ok := Cu.bytes_ok hok
    have hkl : (Cu.bytes ⟨c.s, c.a, c.e⟩ 32).1.length ≤ 32 := bytes_le _ 32
    have hit : Cu.item pre (lastK out) c = (((Cu.bytes ⟨c.s, c.a, c.e⟩ 32).1, (Cu.bytes (gd (afterL (lastK out) (Cu.bytes ⟨c.s, c.a, c.e⟩ 32).1) 6 (gd (begins (Cu.bytes ⟨c.s, c.a, c.e⟩ 32).1 pre) 18 (Cu.bytes ⟨c.s, c.a, c.e⟩ 32).2)) 32).1), (Cu.bytes (gd (afterL (lastK out) (Cu.bytes ⟨c.s, c.a, c.e⟩ 32).1) 6 (gd (begins (Cu.bytes ⟨c.s, c.a, c.e⟩ 32).1 pre) 18 (Cu.bytes ⟨c.s, c.a, c.e⟩ 32).2)) 32).2) := rfl
    rw [hit] at hR
    clear hit
    generalize Cu.bytes ⟨c.s, c.a, c.e⟩ 32 = z at *
    obtain ⟨k, c1⟩ := z
    simp only at hbk hok1 hkl hR
    have hpf := ref20_Begins k pre (by omega) hpl
    obtain ⟨q, hq⟩ : ∃ q, q = gd (afterL (lastK out) k) 6 (gd (begins k pre) 18 c1) := ⟨_, rfl⟩
    rw [← hq] at hR
    have hqo : q.Ok := by rw [hq]; exact gd_ok (gd_ok hok1)
    have hbh := ref01_Bytes q.s q.a q.e 32 hqo
    have hok2 : (Cu.bytes ⟨q.s, q.a, q.e⟩ 32).2.Ok := Cu.bytes_ok hqo
    have hqe : Cu.bytes q 32 = Cu.bytes ⟨q.s, q.a, q.e⟩ 32 := rfl
    rw [hqe] at hR
    generalize hzz : Cu.bytes ⟨q.s, q.a, q.e⟩ 32 = z at *
    obtain ⟨hh, c9⟩ := z
    simp only at hbh hok2 hR
    have stop : c9.e ≠ 0 → R = (pg0, c9) := fun h9 => by
      rw [manyg_stuck h9] at hR
      rw [hp3 _ _ hR, if_pos h9]
    have stuck : q.e ≠ 0 → hh = [] ∧ c9 = q := fun h9 => by
      rw [bytes_stk h9] at hzz
      obtain ⟨a1, a2⟩ := Prod.mk.inj hzz
      exact ⟨a1.symm, a2.symm⟩
    have go : c9.e = 0 → ∀ T' σ', keepT T' [0, 2, 3, 4, 5] = [(0, .p 0 0), (2, .p 1 0), (3, .p 2 0), (4, iv .i64 n), (5, iv .i64 ((out.length : Int) + 1))] → σ'.take 4 = [Cu.ro c9, .box 94 [sv (bs []), bv false, .d (.s (.slice none 0 0)), .d (.s (.slice none 0 0))], .box 94 [sv (bs pre), bv true, .d (.s (.slice none 0 0)), .o 3 (out.length + 1)], .row 149 2 (out.length + 1) (itsD out ++ [D.s (.string ⟨k.toArray⟩), .s (.string ⟨hh.toArray⟩)])] → J T' σ' := fun h9 T' σ' g1 g2 => by
      have hl : (out ++ [(k, hh)]).length = out.length + 1 := by simp
      refine hJ (out ++ [(k, hh)], c9) T' σ' (by simp only [hl]; omega) ⟨hok2, by simp only [hl]; omega, .inl h9, ?_, ?_⟩ (by simp only [hl]; exact g1) (by simp only [hl]; rw [← its_snoc]; exact g2)
      · intro y hy
        rcases List.mem_append.1 hy with hy | hy
        · exact hky y hy
        · obtain rfl := List.mem_singleton.1 hy; exact hkl
      simp only [hl, lastK_snoc]
      rw [hR, show n - (out.length + 1) = m by omega]
      simp only [List.append_assoc, List.cons_append, List.nil_append]
    clear hJ hR hp3 hcn hzz hz
    have hlk : (out.length : Int) < n := by omega
    have fl : ∀ f, c1.e = 0 → c1.fail f = ⟨c1.s, c1.a, f⟩ := fun f h => by unfold Cu.fail; rw [if_pos h]
    by_cases e1 : c1.e = 0
    case neg =>
      have hq' : q = c1 := by rw [hq, gd_stuck e1, gd_stuck e1]
      clear hq go fl
      subst hq'
      obtain ⟨rfl, rfl⟩ := stuck e1
      rw [stop e1]
      clear stop stuck
      (have kk1 := uN [0] hbk; have kk2 := uN [0] hbh; exact Wd1)
    cases hb : begins k pre with
    | false =>
      rw [hb] at hpf hq
      have hq' : q = ⟨c1.s, c1.a, 18⟩ := by
        rw [hq]
        show gd _ 6 (c1.fail 18) = _
        rw [gd_stuck (Cu.fail_e (by decide)), fl _ e1]
      clear hq go fl
      subst hq'
      have e18 : (⟨c1.s, c1.a, 18⟩ : Cu).e ≠ 0 := by show (18 : Int) ≠ 0; decide
      obtain ⟨rfl, rfl⟩ := stuck e18
      rw [stop e18]
      clear stop stuck
      (have kk1 := uN [0] hbk; have kk2 := uN [] hpf; have kk3 := uN [0] hbh; exact Wd1)
    | true =>
    rw [hb] at hpf hq
    have hq : q = gd (afterL (lastK out) k) 6 c1 := hq
    by_cases h0 : 0 < out.length
    · obtain ⟨y, hy1, hy2, hy3⟩ := its_last h0
      rw [hy1] at hq
      have hq : q = gd (lessB y.1 k) 6 c1 := hq
      have hi1 : ((out.length : Int) - 1).toNat = out.length - 1 := by omega
      have hyl := hky y hy3
      have hbl := ref06_Below y.1 k (by omega) (by omega)
      cases ha : lessB y.1 k with
      | false =>
        rw [show Op.bytesLess y.1 k = false from ha] at hbl
        have hq' : q = ⟨c1.s, c1.a, 6⟩ := by
          rw [hq, ha]
          show c1.fail 6 = _
          rw [fl _ e1]
        clear hq go fl
        subst hq'
        have e6 : (⟨c1.s, c1.a, 6⟩ : Cu).e ≠ 0 := by show (6 : Int) ≠ 0; decide
        obtain ⟨rfl, rfl⟩ := stuck e6
        rw [stop e6]
        clear stop stuck
        (have kxs := And.intro hi1 hy2; have kk1 := uN [0] hbk; have kk2 := uN [] hpf; have kk3 := uN [] hbl; have kk4 := uN [0] hbh; exact Wd1)
      | true =>
        rw [show Op.bytesLess y.1 k = true from ha] at hbl
        have hq' : q = c1 := by rw [hq, ha]; rfl
        clear hq fl
        subst hq'
        by_cases h9 : c9.e = 0
        · have go := go h9
          clear stop stuck
          (have kxs := And.intro hi1 hy2; have kk1 := uN [0] hbk; have kk2 := uN [] hpf; have kk3 := uN [] hbl; have kk4 := uN [0] hbh; exact Wdg)
        · rw [stop h9]
          clear stop stuck go
          (have kxs := And.intro hi1 hy2; have kk1 := uN [0] hbk; have kk2 := uN [] hpf; have kk3 := uN [] hbl; have kk4 := uN [0] hbh; exact Wd1)
    · rw [lastK_nil h0] at hq
      have hq' : q = c1 := hq
      clear hq fl
      subst hq'
      by_cases h9 : c9.e = 0
      · have go := go h9
        clear stop stuck
        (have kk1 := uN [0] hbk; have kk2 := uN [] hpf; have kk3 := uN [0] hbh; exact Wdg)
      · rw [stop h9]
        clear stop stuck go
        (have kk1 := uN [0] hbk; have kk2 := uN [] hpf; have kk3 := uN [0] hbh; exact Wd1)
  | false =>
    have hct := ref06_Count c2.s c2.a c2.e 256 hok2 (by decide)
    have hlt : (Cu.count ⟨c2.s, c2.a, c2.e⟩ 256).1 ≤ 256 := Cu.count_max _ 256
    have hok0 : (Cu.count ⟨c2.s, c2.a, c2.e⟩ 256).2.Ok := Cu.count_ok hok2
    have hcn := @count_none ⟨c2.s, c2.a, c2.e⟩ 256
    have hp3 := fun ts cf (h : Cu.slotsg c2 = (ts, cf)) => hp2 c2 ts cf rfl h
    unfold Cu.slotsg Cu.count7 at hp3
    rw [show Cu.count c2 256 = Cu.count ⟨c2.s, c2.a, c2.e⟩ 256 from rfl] at hp3
    clear hp1 hp2
    generalize Cu.count ⟨c2.s, c2.a, c2.e⟩ 256 = z at *
    obtain ⟨n, c8⟩ := z
    simp only at hct hlt hok0 hcn hp3
    obtain ⟨c0, hc0⟩ : ∃ c0, c0 = gd (decide (n ≠ 0)) 7 c8 := ⟨_, rfl⟩
    rw [← hc0] at hp3
    have hok0 : c0.Ok := by rw [hc0]; exact gd_ok hok0
    have hcn : c0.e ≠ 0 → n = 0 := fun h => by
      by_cases h8 : c8.e = 0
      · by_cases hn : n = 0
        · exact hn
        · rw [hc0, decide_eq_true hn] at h; exact absurd h8 h
      · exact hcn h8
    by_cases h70 : c8.e = 0 ∧ n = 0
    · have hc0' : c0 = ⟨c8.s, c8.a, 7⟩ := by
        rw [hc0, decide_eq_false (by simpa using h70.2)]
        show c8.fail 7 = _
        unfold Cu.fail; rw [if_pos h70.1]
      clear hc0
      subst hc0'
      obtain ⟨h71, h72⟩ := h70
      focus (have kk1 := uN [0] hbt; have kk2 := uN [0] hft; have kk3 := uN [0] hct; (repeat' (first | (refine ADr.nil ?_; try clear hgv) | refine GO ?_ | refine AW.ret ?_ | (refine GC ?_ ?_ <;> intro h <;> (try simp only [hsB] at h) <;> try exact xf) | (refine GD ?_ ?_ <;> intro h <;> (try intro hgv) <;> (try simp only [hsN] at h) <;> (try simp only [h]) <;> (try simp only [hsB] at h) <;> try exact xf) | (refine GL ?_ ?_ <;> intro h <;> (try simp only [hsN] at h) <;> (try simp only [h]) <;> (try simp only [hsB] at h) <;> try exact xf) | fail)); all_goals clear kk1 kk2 kk3)
      all_goals first | exact xg | skip
      clear hbt hft hct
      refine AW.birth 311 2 [] [(2, 2)] ?_
      refine AW.rounds [0, 2, 3, 7, 8] (fun x : List Sl × Cu => [(0, .p 0 0), (2, .p 1 0), (3, .p 2 0), (7, iv .i64 n), (8, iv .i64 x.1.length)])
        (fun x => [Cu.ro x.2, .box 94 [sv (bs []), bv false, .d (.s (.slice none 0 0)), .d (.s (.slice none 0 0))], .box 94 [sv (bs pre), bv false, .o 3 x.1.length, .d (.s (.slice none 0 0))], .row 311 2 x.1.length (slsD x.1)])
        (fun x => x.2.Ok ∧ x.1.length ≤ n ∧ (x.2.e = 0 ∨ n = 0) ∧ Cu.manyg Cu.slot (fun _ x => some x.1) n none ⟨c8.s, c8.a, 7⟩ = (x.1 ++ (Cu.manyg Cu.slot (fun _ x => some x.1) (n - x.1.length) (lastS x.1) x.2).1, (Cu.manyg Cu.slot (fun _ x => some x.1) (n - x.1.length) (lastS x.1) x.2).2)) (fun x => n - x.1.length) ([], ⟨c8.s, c8.a, 7⟩)
        ⟨hok0, Nat.zero_le _, ?hstart, rfl⟩ rfl rfl (fun _ _ => by show 1 ≤ 4; decide) (fun _ _ => rfl) (fun _ _ => rfl) ?_
      case hstart =>
        by_cases hz : (⟨c8.s, c8.a, 7⟩ : Cu).e = 0
        · exact .inl hz
        · exact .inr (hcn hz)
      rintro ⟨out, c⟩ ⟨hok, hol, hz, hR⟩ J hJ
      simp only at hok hol hz hR ⊢
      by_cases hlen : out.length < n
      case neg =>
        rw [show n - out.length = 0 by omega] at hR
        rw [show Cu.manyg Cu.slot (fun _ x => some x.1) 0 (lastS out) c = ([], c) from rfl, List.append_nil] at hR
        have hRR := hp3 _ _ hR
        by_cases hce : c.e = 0
        · rw [if_neg (by simpa using hce)] at hRR
          rw [hRR]
          focus ((repeat' (first | (refine ADr.nil ?_; try clear hgv) | refine GO ?_ | refine AW.ret ?_ | (refine GC ?_ ?_ <;> intro h <;> (try simp only [hsB] at h) <;> try exact xf) | (refine GD ?_ ?_ <;> intro h <;> (try intro hgv) <;> (try simp only [hsN] at h) <;> (try simp only [h]) <;> (try simp only [hsB] at h) <;> try exact xf) | (refine GL ?_ ?_ <;> intro h <;> (try simp only [hsN] at h) <;> (try simp only [h]) <;> (try simp only [hsB] at h) <;> try exact xf) | fail)))
          all_goals first | (((all_goals first | refine RetQ.yr 1 (xs := [.a [sv (bs pre), bv false, .o 3 out.length, .d (.s (.slice none 0 0))]]) ⟨?_, ?_⟩ | refine RetQ.yn 1 (xs := [.a [sv (bs pre), bv false, .o 3 out.length, .d (.s (.slice none 0 0))]]) ⟨?_, ?_⟩); (all_goals exact fx)); done) | exact xg
        · rw [if_pos hce] at hRR
          rw [hRR]
          exact Wd1
      have hce : c.e = 0 := by rcases hz with h | h; exact h; omega
      obtain ⟨m, hm⟩ : ∃ m, n - out.length = m + 1 := ⟨n - out.length - 1, by omega⟩
      rw [hm] at hR
      conv at hR => rhs; unfold Cu.manyg
      rw [if_neg (by simpa using hce)] at hR
      have hbk := ref01_Byte c.s c.a c.e hok
      have hok1 : (Cu.byte ⟨c.s, c.a, c.e⟩).2.Ok := Cu.byte_ok hok
      have hkl : (Cu.byte ⟨c.s, c.a, c.e⟩).1 < 256 := by unfold Cu.byte; exact (UInt8.toNat_lt _)
      have hit : Cu.slot (lastS out) c = (((Cu.byte ⟨c.s, c.a, c.e⟩).1, (Cu.bytes (gd (after (lastS out) (Cu.byte ⟨c.s, c.a, c.e⟩).1) 6 (Cu.byte ⟨c.s, c.a, c.e⟩).2) 32).1), (Cu.bytes (gd (after (lastS out) (Cu.byte ⟨c.s, c.a, c.e⟩).1) 6 (Cu.byte ⟨c.s, c.a, c.e⟩).2) 32).2) := rfl
      rw [hit] at hR
      clear hit
      generalize Cu.byte ⟨c.s, c.a, c.e⟩ = z at *
      obtain ⟨k, c1⟩ := z
      simp only at hbk hok1 hkl hR
      have hwr : IntKind.wrap .u8 (k : Int) = (k : Int) := by rw [IntKind.wrap_u8]; omega
      obtain ⟨q, hq⟩ : ∃ q, q = gd (after (lastS out) k) 6 c1 := ⟨_, rfl⟩
      rw [← hq] at hR
      have hqo : q.Ok := by rw [hq]; exact gd_ok hok1
      have hbh := ref01_Bytes q.s q.a q.e 32 hqo
      have hok2 : (Cu.bytes ⟨q.s, q.a, q.e⟩ 32).2.Ok := Cu.bytes_ok hqo
      have hqe : Cu.bytes q 32 = Cu.bytes ⟨q.s, q.a, q.e⟩ 32 := rfl
      rw [hqe] at hR
      generalize hzz : Cu.bytes ⟨q.s, q.a, q.e⟩ 32 = z at *
      obtain ⟨hh, c9⟩ := z
      simp only at hbh hok2 hR
      have stop : c9.e ≠ 0 → R = (pg0, c9) := fun h9 => by
        rw [manyg_stuck h9] at hR
        rw [hp3 _ _ hR, if_pos h9]
      have stuck : q.e ≠ 0 → hh = [] ∧ c9 = q := fun h9 => by
        rw [bytes_stk h9] at hzz
        obtain ⟨a1, a2⟩ := Prod.mk.inj hzz
        exact ⟨a1.symm, a2.symm⟩
      have go : c9.e = 0 → ∀ T' σ', keepT T' [0, 2, 3, 7, 8] = [(0, .p 0 0), (2, .p 1 0), (3, .p 2 0), (7, iv .i64 n), (8, iv .i64 ((out.length : Int) + 1))] → σ'.take 4 = [Cu.ro c9, .box 94 [sv (bs []), bv false, .d (.s (.slice none 0 0)), .d (.s (.slice none 0 0))], .box 94 [sv (bs pre), bv false, .o 3 (out.length + 1), .d (.s (.slice none 0 0))], .row 311 2 (out.length + 1) (slsD out ++ [D.s (.int .u8 (k : Nat)), .s (.string ⟨hh.toArray⟩)])] → J T' σ' := fun h9 T' σ' g1 g2 => by
        have hl : (out ++ [(k, hh)]).length = out.length + 1 := by simp
        refine hJ (out ++ [(k, hh)], c9) T' σ' (by simp only [hl]; omega) ⟨hok2, by simp only [hl]; omega, .inl h9, ?_⟩ (by simp only [hl]; exact g1) (by simp only [hl]; rw [← sls_snoc]; exact g2)
        simp only [hl, lastS_snoc]
        rw [hR, show n - (out.length + 1) = m by omega]
        simp only [List.append_assoc, List.cons_append, List.nil_append]
      clear hJ hR hp3 hcn hzz hz
      have hlk : (out.length : Int) < n := by omega
      have fl : ∀ f, c1.e = 0 → c1.fail f = ⟨c1.s, c1.a, f⟩ := fun f h => by unfold Cu.fail; rw [if_pos h]
      by_cases e1 : c1.e = 0
      case neg =>
        have hq' : q = c1 := by rw [hq, gd_stuck e1]
        clear hq go fl
        subst hq'
        obtain ⟨rfl, rfl⟩ := stuck e1
        rw [stop e1]
        clear stop stuck
        (have kxs := hwr; have kk1 := uN [0] hbk; have kk2 := uN [0] hbh; exact Wd1)
      by_cases h0 : 0 < out.length
      · obtain ⟨y, hy1, hy2, hy3⟩ := sls_last h0
        rw [hy1] at hq
        have hq : q = gd (decide (y.1 < k)) 6 c1 := hq
        have hi1 : ((out.length : Int) - 1).toNat = out.length - 1 := by omega
        by_cases ha : y.1 < k
        case neg =>
          have hq' : q = ⟨c1.s, c1.a, 6⟩ := by
            rw [hq, decide_eq_false ha]
            show c1.fail 6 = _
            rw [fl _ e1]
          clear hq go fl
          subst hq'
          have e6 : (⟨c1.s, c1.a, 6⟩ : Cu).e ≠ 0 := by show (6 : Int) ≠ 0; decide
          obtain ⟨rfl, rfl⟩ := stuck e6
          rw [stop e6]
          clear stop stuck
          (have kxs := And.intro hi1 (And.intro hy2 hwr); have kk1 := uN [0] hbk; have kk2 := uN [0] hbh; exact Wd1)
        case pos =>
          have hq' : q = c1 := by rw [hq, decide_eq_true ha]; rfl
          clear hq fl
          subst hq'
          by_cases h9 : c9.e = 0
          · have go := go h9
            clear stop stuck
            (have kxs := And.intro hi1 (And.intro hy2 hwr); have kk1 := uN [0] hbk; have kk2 := uN [0] hbh; exact Wdg)
          · rw [stop h9]
            clear stop stuck go
            (have kxs := And.intro hi1 (And.intro hy2 hwr); have kk1 := uN [0] hbk; have kk2 := uN [0] hbh; exact Wd1)
      · rw [lastS_nil h0] at hq
        have hq' : q = c1 := hq
        clear hq fl
        subst hq'
        by_cases h9 : c9.e = 0
        · have go := go h9
          clear stop stuck
          (have kxs := hwr; have kk1 := uN [0] hbk; have kk2 := uN [0] hbh; exact Wdg)
        · rw [stop h9]
          clear stop stuck go
          (have kxs := hwr; have kk1 := uN [0] hbk; have kk2 := uN [0] hbh; exact Wd1)
    · have hc0' : c0 = c8 := by
        rw [hc0]
        by_cases h8 : c8.e = 0
        · rw [decide_eq_true (show n ≠ 0 from fun h => h70 ⟨h8, h⟩)]; rfl
        · exact gd_stuck h8 _ _
      clear hc0
      subst hc0'
      focus (have kk1 := uN [0] hbt; have kk2 := uN [0] hft; have kk3 := uN [0] hct; (repeat' (first | (refine ADr.nil ?_; try clear hgv) | refine GO ?_ | refine AW.ret ?_ | (refine GC ?_ ?_ <;> intro h <;> (try simp only [hsB] at h) <;> try exact xf) | (refine GD ?_ ?_ <;> intro h <;> (try intro hgv) <;> (try simp only [hsN] at h) <;> (try simp only [h]) <;> (try simp only [hsB] at h) <;> try exact xf) | (refine GL ?_ ?_ <;> intro h <;> (try simp only [hsN] at h) <;> (try simp only [h]) <;> (try simp only [hsB] at h) <;> try exact xf) | fail)); all_goals clear kk1 kk2 kk3)
      all_goals first | exact xg | skip
      all_goals
        clear hbt hft hct
        refine AW.birth 311 2 [] [(2, 2)] ?_
        refine AW.rounds [0, 2, 3, 7, 8] (fun x : List Sl × Cu => [(0, .p 0 0), (2, .p 1 0), (3, .p 2 0), (7, iv .i64 n), (8, iv .i64 x.1.length)])
          (fun x => [Cu.ro x.2, .box 94 [sv (bs []), bv false, .d (.s (.slice none 0 0)), .d (.s (.slice none 0 0))], .box 94 [sv (bs pre), bv false, .o 3 x.1.length, .d (.s (.slice none 0 0))], .row 311 2 x.1.length (slsD x.1)])
          (fun x => x.2.Ok ∧ x.1.length ≤ n ∧ (x.2.e = 0 ∨ n = 0) ∧ Cu.manyg Cu.slot (fun _ x => some x.1) n none c0 = (x.1 ++ (Cu.manyg Cu.slot (fun _ x => some x.1) (n - x.1.length) (lastS x.1) x.2).1, (Cu.manyg Cu.slot (fun _ x => some x.1) (n - x.1.length) (lastS x.1) x.2).2)) (fun x => n - x.1.length) ([], c0)
          ⟨hok0, Nat.zero_le _, ?hstart, rfl⟩ rfl rfl (fun _ _ => by show 1 ≤ 4; decide) (fun _ _ => rfl) (fun _ _ => rfl) ?_
        case hstart =>
          by_cases hz : (c0 : Cu).e = 0
          · exact .inl hz
          · exact .inr (hcn hz)
        rintro ⟨out, c⟩ ⟨hok, hol, hz, hR⟩ J hJ
        simp only at hok hol hz hR ⊢
        by_cases hlen : out.length < n
        case neg =>
          rw [show n - out.length = 0 by omega] at hR
          rw [show Cu.manyg Cu.slot (fun _ x => some x.1) 0 (lastS out) c = ([], c) from rfl, List.append_nil] at hR
          have hRR := hp3 _ _ hR
          by_cases hce : c.e = 0
          · rw [if_neg (by simpa using hce)] at hRR
            rw [hRR]
            focus ((repeat' (first | (refine ADr.nil ?_; try clear hgv) | refine GO ?_ | refine AW.ret ?_ | (refine GC ?_ ?_ <;> intro h <;> (try simp only [hsB] at h) <;> try exact xf) | (refine GD ?_ ?_ <;> intro h <;> (try intro hgv) <;> (try simp only [hsN] at h) <;> (try simp only [h]) <;> (try simp only [hsB] at h) <;> try exact xf) | (refine GL ?_ ?_ <;> intro h <;> (try simp only [hsN] at h) <;> (try simp only [h]) <;> (try simp only [hsB] at h) <;> try exact xf) | fail)))
            all_goals first | (((all_goals first | refine RetQ.yr 1 (xs := [.a [sv (bs pre), bv false, .o 3 out.length, .d (.s (.slice none 0 0))]]) ⟨?_, ?_⟩ | refine RetQ.yn 1 (xs := [.a [sv (bs pre), bv false, .o 3 out.length, .d (.s (.slice none 0 0))]]) ⟨?_, ?_⟩); (all_goals exact fx)); done) | exact xg
          · rw [if_pos hce] at hRR
            rw [hRR]
            exact Wd1
        have hce : c.e = 0 := by rcases hz with h | h; exact h; omega
        obtain ⟨m, hm⟩ : ∃ m, n - out.length = m + 1 := ⟨n - out.length - 1, by omega⟩
        rw [hm] at hR
        conv at hR => rhs; unfold Cu.manyg
        rw [if_neg (by simpa using hce)] at hR
        have hbk := ref01_Byte c.s c.a c.e hok
        have hok1 : (Cu.byte ⟨c.s, c.a, c.e⟩).2.Ok := Cu.byte_ok hok
        have hkl : (Cu.byte ⟨c.s, c.a, c.e⟩).1 < 256 := by unfold Cu.byte; exact (UInt8.toNat_lt _)
        have hit : Cu.slot (lastS out) c = (((Cu.byte ⟨c.s, c.a, c.e⟩).1, (Cu.bytes (gd (after (lastS out) (Cu.byte ⟨c.s, c.a, c.e⟩).1) 6 (Cu.byte ⟨c.s, c.a, c.e⟩).2) 32).1), (Cu.bytes (gd (after (lastS out) (Cu.byte ⟨c.s, c.a, c.e⟩).1) 6 (Cu.byte ⟨c.s, c.a, c.e⟩).2) 32).2) := rfl
        rw [hit] at hR
        clear hit
        generalize Cu.byte ⟨c.s, c.a, c.e⟩ = z at *
        obtain ⟨k, c1⟩ := z
        simp only at hbk hok1 hkl hR
        have hwr : IntKind.wrap .u8 (k : Int) = (k : Int) := by rw [IntKind.wrap_u8]; omega
        obtain ⟨q, hq⟩ : ∃ q, q = gd (after (lastS out) k) 6 c1 := ⟨_, rfl⟩
        rw [← hq] at hR
        have hqo : q.Ok := by rw [hq]; exact gd_ok hok1
        have hbh := ref01_Bytes q.s q.a q.e 32 hqo
        have hok2 : (Cu.bytes ⟨q.s, q.a, q.e⟩ 32).2.Ok := Cu.bytes_ok hqo
        have hqe : Cu.bytes q 32 = Cu.bytes ⟨q.s, q.a, q.e⟩ 32 := rfl
        rw [hqe] at hR
        generalize hzz : Cu.bytes ⟨q.s, q.a, q.e⟩ 32 = z at *
        obtain ⟨hh, c9⟩ := z
        simp only at hbh hok2 hR
        have stop : c9.e ≠ 0 → R = (pg0, c9) := fun h9 => by
          rw [manyg_stuck h9] at hR
          rw [hp3 _ _ hR, if_pos h9]
        have stuck : q.e ≠ 0 → hh = [] ∧ c9 = q := fun h9 => by
          rw [bytes_stk h9] at hzz
          obtain ⟨a1, a2⟩ := Prod.mk.inj hzz
          exact ⟨a1.symm, a2.symm⟩
        have go : c9.e = 0 → ∀ T' σ', keepT T' [0, 2, 3, 7, 8] = [(0, .p 0 0), (2, .p 1 0), (3, .p 2 0), (7, iv .i64 n), (8, iv .i64 ((out.length : Int) + 1))] → σ'.take 4 = [Cu.ro c9, .box 94 [sv (bs []), bv false, .d (.s (.slice none 0 0)), .d (.s (.slice none 0 0))], .box 94 [sv (bs pre), bv false, .o 3 (out.length + 1), .d (.s (.slice none 0 0))], .row 311 2 (out.length + 1) (slsD out ++ [D.s (.int .u8 (k : Nat)), .s (.string ⟨hh.toArray⟩)])] → J T' σ' := fun h9 T' σ' g1 g2 => by
          have hl : (out ++ [(k, hh)]).length = out.length + 1 := by simp
          refine hJ (out ++ [(k, hh)], c9) T' σ' (by simp only [hl]; omega) ⟨hok2, by simp only [hl]; omega, .inl h9, ?_⟩ (by simp only [hl]; exact g1) (by simp only [hl]; rw [← sls_snoc]; exact g2)
          simp only [hl, lastS_snoc]
          rw [hR, show n - (out.length + 1) = m by omega]
          simp only [List.append_assoc, List.cons_append, List.nil_append]
        clear hJ hR hp3 hcn hzz hz
        have hlk : (out.length : Int) < n := by omega
        have fl : ∀ f, c1.e = 0 → c1.fail f = ⟨c1.s, c1.a, f⟩ := fun f h => by unfold Cu.fail; rw [if_pos h]
        by_cases e1 : c1.e = 0
        case neg =>
          have hq' : q = c1 := by rw [hq, gd_stuck e1]
          clear hq go fl
          subst hq'
          obtain ⟨rfl, rfl⟩ := stuck e1
          rw [stop e1]
          clear stop stuck
          (have kxs := hwr; have kk1 := uN [0] hbk; have kk2 := uN [0] hbh; exact Wd1)
        by_cases h0 : 0 < out.length
        · obtain ⟨y, hy1, hy2, hy3⟩ := sls_last h0
          rw [hy1] at hq
          have hq : q = gd (decide (y.1 < k)) 6 c1 := hq
          have hi1 : ((out.length : Int) - 1).toNat = out.length - 1 := by omega
          by_cases ha : y.1 < k
          case neg =>
            have hq' : q = ⟨c1.s, c1.a, 6⟩ := by
              rw [hq, decide_eq_false ha]
              show c1.fail 6 = _
              rw [fl _ e1]
            clear hq go fl
            subst hq'
            have e6 : (⟨c1.s, c1.a, 6⟩ : Cu).e ≠ 0 := by show (6 : Int) ≠ 0; decide
            obtain ⟨rfl, rfl⟩ := stuck e6
            rw [stop e6]
            clear stop stuck
            (have kxs := And.intro hi1 (And.intro hy2 hwr); have kk1 := uN [0] hbk; have kk2 := uN [0] hbh; exact Wd1)
          case pos =>
            have hq' : q = c1 := by rw [hq, decide_eq_true ha]; rfl
            clear hq fl
            subst hq'
            by_cases h9 : c9.e = 0
            · have go := go h9
              clear stop stuck
              (have kxs := And.intro hi1 (And.intro hy2 hwr); have kk1 := uN [0] hbk; have kk2 := uN [0] hbh; exact Wdg)
            · rw [stop h9]
              clear stop stuck go
              (have kxs := And.intro hi1 (And.intro hy2 hwr); have kk1 := uN [0] hbk; have kk2 := uN [0] hbh; exact Wd1)
        · rw [lastS_nil h0] at hq
          have hq' : q = c1 := hq
          clear hq fl
          subst hq'
          by_cases h9 : c9.e = 0
          · have go := go h9
            clear stop stuck
            (have kxs := hwr; have kk1 := uN [0] hbk; have kk2 := uN [0] hbh; exact Wdg)
          · rw [stop h9]
            clear stop stuck go
            (have kxs := hwr; have kk1 := uN [0] hbk; have kk2 := uN [0] hbh; exact Wd1)
theorem val8_snoc (l : List UInt8) (b : UInt8) : val8 (l ++ [b]) = val8 l * 256 + b.toNat := by simp [val8, List.foldl_append]
theorem val8_go : ∀ (l : List UInt8) (n : Nat), l.foldl (fun n b => n * 256 + b.toNat) n < (n + 1) * 256 ^ l.length
  | [], n => by simp
  | b :: l, n => by
    have ih := val8_go l (n * 256 + b.toNat)
    have hb := b.toNat_lt
    have h2 : (n * 256 + b.toNat + 1) * 256 ^ l.length ≤ ((n + 1) * 256) * 256 ^ l.length := Nat.mul_le_mul_right _ (by omega)
    rw [List.length_cons, Nat.pow_succ, List.foldl_cons]
    rw [show (n + 1) * (256 ^ l.length * 256) = ((n + 1) * 256) * 256 ^ l.length by rw [Nat.mul_comm (256 ^ l.length) 256, Nat.mul_assoc]]
    omega
theorem val8_lt (l : List UInt8) : val8 l < 256 ^ l.length := by
  have := val8_go l 0
  simpa [val8] using this
theorem lts_map (m : Nat) : ∀ l : List D, lts m (l.map V.d) = true
  | [] => rfl
  | x :: l => by
    show (true && lts m (l.map V.d)) = true
    rw [lts_map m l]; rfl
theorem or_byte {n x : Nat} (hn : n < 72057594037927936) (hx : x < 256) : bitI .or .u64 ((n : Int) * 256) (x : Int) = ((n * 256 + x : Nat) : Int) := by
  have h := or_u64 (x := n * 256) (y := x) (by omega) (by omega)
  rw [show ((n * 256 : Nat) : Int) = (n : Int) * 256 by push_cast; rfl] at h
  rw [h, Nat.or_comm, show n * 256 = n * 2 ^ 8 from rfl, or_high (by omega), Nat.add_comm]
theorem pow256 {i : Nat} (hi : i < 8) : 256 ^ i ≤ 72057594037927936 := by
  have : 256 ^ i ≤ 256 ^ 7 := Nat.pow_le_pow_right (by decide) (by omega)
  have e : 256 ^ 7 = 72057594037927936 := by decide
  omega
section
variable (s : List UInt8) (a : Nat) (e : Int)
theorem fixed_right : AC Tryz.prog 317 [iv .i64 8] [] fun x σ => x = bv true ∧ σ = [] := by
  refine AC.wk Tryz.func317 ?_
  exact Wc0
theorem ref04_Width : AC Tryz.prog 232 [iv .i64 8] [] fun x σ => x = bv true ∧ σ = [] := by
  refine AC.wk Tryz.func232 ?_
  exact Wc0
theorem fixed_Take (h : Cu.Ok ⟨s, a, e⟩) : AC Tryz.prog 301 [.p 0 0, iv .i64 8] [Cu.ob ⟨s, a, e⟩] fun x σ => x = iv .u64 (Cu.num8 ⟨s, a, e⟩).1 ∧ σ = [Cu.ob (Cu.num8 ⟨s, a, e⟩).2] := by
  refine AC.wk Tryz.func301 ?_
  have hb := cursor_Bytes s a e 8 h
  have hl : (Cu.bytes ⟨s, a, e⟩ 8).1 = [] ∨ (Cu.bytes ⟨s, a, e⟩ 8).1.length = 8 := by
    unfold Cu.bytes
    split
    · exact .inl rfl
    split
    · exact .inl rfl
    split
    · exact .inl rfl
    · right
      rw [List.length_take, List.length_drop]
      simp only at *
      omega
  unfold Cu.num8
  generalize Cu.bytes ⟨s, a, e⟩ 8 = z at *
  obtain ⟨l, c⟩ := z
  simp only at hl hb ⊢
  obtain ⟨w, hw8, hwv, hws⟩ : ∃ w : List UInt8, w.length = 8 ∧ val8 w = val8 l ∧ setAt [V.d (D.s (.int .u8 0)), V.d (D.s (.int .u8 0)), V.d (D.s (.int .u8 0)), V.d (D.s (.int .u8 0)), V.d (D.s (.int .u8 0)), V.d (D.s (.int .u8 0)), V.d (D.s (.int .u8 0)), V.d (D.s (.int .u8 0))] 0 ((bsD l).map V.d) = (bsD w).map V.d := by
    rcases hl with rfl | hl
    · exact ⟨List.replicate 8 0, rfl, rfl, rfl⟩
    · refine ⟨l, hl, rfl, ?_⟩
      match l, hl with
      | [b0, b1, b2, b3, b4, b5, b6, b7], _ => rfl
  have hll : l.length ≤ 8 := by rcases hl with rfl | hl <;> simp_all
  have hln : ((bsD w).map V.d).length = 8 := by rw [List.length_map, bsD, List.length_map, hw8]
  have htk : List.take 8 ((bsD w).map V.d) = (bsD w).map V.d := List.take_of_length_le (by rw [hln]; exact Nat.le_refl _)
  focus (have kxs := And.intro hws (And.intro hln htk); have kk1 := uN [] fixed_right; have kk2 := uN [0] hb; (repeat' (first | (refine ADr.nil ?_; try clear hgv) | refine GW ?_ | refine AW.ret ?_ | (refine GC ?_ ?_ <;> intro h <;> (try simp only [hsB] at h) <;> try exact xf) | (refine GD ?_ ?_ <;> intro h <;> (try intro hgv) <;> (try simp only [hsN] at h) <;> (try simp only [h]) <;> (try simp only [hsB] at h) <;> try exact xf) | (refine GL ?_ ?_ <;> intro h <;> (try simp only [hsN] at h) <;> (try simp only [h]) <;> (try simp only [hsB] at h) <;> try exact xf) | fail)); all_goals clear kxs kk1 kk2)
  all_goals first | (exfalso; simp_all; done) | skip
  rw [← hwv]
  refine AW.rounds [4, 6, 21, 22] (fun i : Nat => [(4, iv .u64 0), (6, iv .u64 (val8 (w.take i))), (21, .a ((bsD w).map V.d)), (22, iv .i64 i)]) (fun i => [Cu.ob c])
    (fun i => i ≤ 8) (fun i => 8 - i) 0 (Nat.zero_le _) rfl rfl (fun _ _ => Nat.le_of_ble_eq_true rfl) (fun _ _ => rfl) (fun _ _ => by simp [tLt, V.lt, lts_map]) ?_
  intro i hi J hJ
  have hlt := val8_lt (w.take i)
  rw [List.length_take, Nat.min_eq_left (by omega)] at hlt
  by_cases hil : i < 8
  · obtain ⟨b, r, hd⟩ := next_at (l := w) (i := i) (by omega)
    have hp := pow256 (i := i) hil
    have hbl := b.toNat_lt
    have hn := or_byte (n := val8 (w.take i)) (x := b.toNat) (by omega) hbl
    rw [← val8_snoc, ← next_take hd] at hn
    have hg : ((bsD w).map V.d)[i]? = some (.d (.s (.int .u8 b.toNat))) := by
      have := congrArg (fun y => y.head?) hd
      simp only [List.head?_drop, List.head?_cons] at this
      rw [List.getElem?_map, bsD, List.getElem?_map, this]; rfl
    have hbd : ((val8 (w.take i) : Nat) : Int) * 256 ≤ 18446744073709551615 := by omega
    have hsh : IntKind.wrap .u64 (((val8 (w.take i) : Nat) : Int) * 2 ^ (min 8 64)) = ((val8 (w.take i) : Nat) : Int) * 256 := by
      rw [show ((2 : Int) ^ (min 8 64)) = 256 from rfl]
      exact wrap_u64 (by omega) hbd
    focus (have kxs := And.intro hsh (And.intro hn hg); (repeat' (first | (refine ADr.nil ?_; try clear hgv) | refine GO ?_ | refine AW.ret ?_ | (refine GC ?_ ?_ <;> intro h <;> (try simp only [hsB] at h) <;> try exact xf) | (refine GD ?_ ?_ <;> intro h <;> (try intro hgv) <;> (try simp only [hsN] at h) <;> (try simp only [h]) <;> (try simp only [hsB] at h) <;> try exact xf) | (refine GL ?_ ?_ <;> intro h <;> (try simp only [hsN] at h) <;> (try simp only [h]) <;> (try simp only [hsB] at h) <;> try exact xf) | fail)); all_goals clear kxs)
    all_goals first | (refine hJ (i + 1) _ _ (by omega) hil rfl rfl) | (exfalso; simp_all; done)
  · have hi2 : i = 8 := by omega
    rw [hi2, List.take_of_length_le (by omega)]
    exact Wd1
theorem ref04_Take (h : Cu.Ok ⟨s, a, e⟩) : AC Tryz.prog 302 [.p 0 0, iv .i64 8] [Cu.ro ⟨s, a, e⟩] fun x σ => x = iv .u64 (Cu.num8 ⟨s, a, e⟩).1 ∧ σ = [Cu.ro (Cu.num8 ⟨s, a, e⟩).2] := by
  refine AC.wk Tryz.func302 ?_
  by_cases he : e = 0
  case neg =>
    have hn : Cu.num8 ⟨s, a, e⟩ = (0, ⟨s, a, e⟩) := by unfold Cu.num8; rw [Cu.bytes_stuck (c := ⟨s, a, e⟩) 8 he]; rfl
    rw [hn]
    (have kk1 := uN [] ref04_Width; exact Wc1)
  have hb := ref01_Bytes s a e 8 h
  have hl : (Cu.bytes ⟨s, a, e⟩ 8).1.length ≤ 8 := by
    unfold Cu.bytes
    split
    · exact Nat.zero_le _
    split
    · exact Nat.zero_le _
    split
    · exact Nat.zero_le _
    · rw [List.length_take]; exact Nat.min_le_left _ _
  unfold Cu.num8
  generalize Cu.bytes ⟨s, a, e⟩ 8 = z at *
  obtain ⟨l, c⟩ := z
  simp only at hl hb ⊢
  focus (have kk1 := uN [] ref04_Width; have kk2 := uN [0] hb; (repeat' (first | refine G ?_ | refine AW.ret ?_ | (refine GC ?_ ?_ <;> intro h <;> (try simp only [hsB] at h) <;> try exact xf) | (refine GL ?_ ?_ <;> intro h <;> (try simp only [hsN] at h) <;> (try simp only [h]) <;> (try simp only [hsB] at h) <;> try exact xf) | fail)); all_goals clear kk1 kk2)
  all_goals first | (exfalso; simp_all; done) | skip
  refine AW.rounds [4, 5, 6, 7] (fun i : Nat => [(4, iv .u64 0), (5, sv (bs l)), (6, iv .u64 (val8 (l.take i))), (7, iv .i64 i)]) (fun i => [Cu.ro c])
    (fun i => i ≤ l.length) (fun i => l.length - i) 0 (Nat.zero_le _) rfl rfl (fun _ _ => Nat.le_of_ble_eq_true rfl) (fun _ _ => rfl) (fun _ _ => rfl) ?_
  intro i hi J hJ
  have hlt := val8_lt (l.take i)
  rw [List.length_take, Nat.min_eq_left hi] at hlt
  by_cases hil : i < l.length
  · obtain ⟨b, r, hd⟩ := next_at hil
    have hp := pow256 (i := i) (by omega)
    have hbl := b.toNat_lt
    have hn : ((val8 (l.take i) : Nat) : Int) * 256 + ((b.toNat : Nat) : Int) = ((val8 (l.take (i + 1)) : Nat) : Int) := by
      rw [next_take hd, val8_snoc]; push_cast; rfl
    have hg : l.getD i 0 = b := by
      have := congrArg (fun y => y.getD 0 0) hd
      simpa [List.getD_eq_getElem?_getD] using this
    focus (have kxs := And.intro hn hg; (repeat' (first | refine G ?_ | refine AW.ret ?_ | (refine GC ?_ ?_ <;> intro h <;> (try simp only [hsB] at h) <;> try exact xf) | (refine GL ?_ ?_ <;> intro h <;> (try simp only [hsN] at h) <;> (try simp only [h]) <;> (try simp only [hsB] at h) <;> try exact xf) | fail)); all_goals clear kxs)
    all_goals first | (refine hJ (i + 1) _ _ (by omega) hil rfl rfl) | (exfalso; simp_all; done)
  · have hi2 : i = l.length := by omega
    rw [hi2, List.take_length] at *
    exact Wc1
end
abbrev toksD (l : List Nat) : List D := l.map fun t => D.s (.int .u64 (t : Nat))
theorem toks_drop {l r : List Nat} {t i : Nat} (h : l.drop i = t :: r) : (toksD l).drop i = .s (.int .u64 (t : Nat)) :: toksD r := by
  rw [toksD, ← List.map_drop, h]; rfl
theorem ring_rising (l : List Nat) (hl : l.length ≤ 9223372036854775807) : AC Tryz.prog 375 [.d (.l l.length (toksD l))] [] fun x σ => x = bv (rises none l) ∧ σ = [] := by
  refine AC.wk Tryz.func375 ?_
  generalize hR : rises none l = R
  focus ((repeat' (first | (refine ADr.nil ?_; try clear hgv) | refine GO ?_ | refine AW.ret ?_ | (refine GC ?_ ?_ <;> intro h <;> (try simp only [hsB] at h) <;> try exact xf) | (refine GD ?_ ?_ <;> intro h <;> (try intro hgv) <;> (try simp only [hsN] at h) <;> (try simp only [h]) <;> (try simp only [hsB] at h) <;> try exact xf) | (refine GL ?_ ?_ <;> intro h <;> (try simp only [hsN] at h) <;> (try simp only [h]) <;> (try simp only [hsB] at h) <;> try exact xf) | fail)))
  refine AW.rounds [0, 2, 3] (fun i : Nat => [(0, .d (.l l.length (toksD l))), (2, bv false), (3, iv .i64 i)]) (fun _ => [])
    (fun i => 1 ≤ i ∧ (i ≤ l.length ∨ l = []) ∧ (l ≠ [] → ∃ q, l.drop (i - 1) = q :: l.drop i ∧ rises (some q) (l.drop i) = R)) (fun i => l.length - i) 1
    ⟨Nat.le_refl _, by cases l <;> simp, fun h => by
      cases l with
      | nil => exact absurd rfl h
      | cons t r => exact ⟨t, rfl, hR⟩⟩ rfl rfl (fun _ _ => Nat.zero_le _) (fun _ _ => rfl) (fun _ _ => rfl) ?_
  rintro i ⟨h1, h2, h3⟩ J hJ
  by_cases hil : i < l.length
  · have hne : l ≠ [] := by rintro rfl; simp at hil
    obtain ⟨q, hq, hr⟩ := h3 hne
    obtain ⟨t, r, hd⟩ := next_at hil
    have hcd := toks_drop hd
    have hcq := toks_drop hq
    have hi1 : ((i : Int) - 1).toNat = i - 1 := by omega
    rw [hd] at hr
    have hr2 : (decide (q < t) && rises (some t) r) = R := hr
    have hnd := next_drop hd
    focus (have kxs := And.intro hcd (And.intro hcq (And.intro hi1 @Nat.mul_one)); (repeat' (first | (refine ADr.nil ?_; try clear hgv) | refine GO ?_ | refine AW.ret ?_ | (refine GC ?_ ?_ <;> intro h <;> (try simp only [hsB] at h) <;> try exact xf) | (refine GD ?_ ?_ <;> intro h <;> (try intro hgv) <;> (try simp only [hsN] at h) <;> (try simp only [h]) <;> (try simp only [hsB] at h) <;> try exact xf) | (refine GL ?_ ?_ <;> intro h <;> (try simp only [hsN] at h) <;> (try simp only [h]) <;> (try simp only [hsB] at h) <;> try exact xf) | fail)); all_goals clear kxs)
    all_goals first
      | (rw [show R = false from by rw [← hr2, decide_eq_false (by omega)]; rfl]; (all_goals first | exact RetQ.fr 0 | exact RetQ.fn 0 | fail); done)
      | (refine hJ (i + 1) _ _ (by omega) ⟨by omega, .inl hil, fun _ => ⟨t, ?_, ?_⟩⟩ rfl rfl
         · rw [hnd]; exact hd
         · rw [hnd, ← hr2, decide_eq_true (show q < t by omega)]; rfl)
      | (exfalso; clear hJ hr hr2 hR h3; simp_all; done)
  · have hR0 : R = true := by
      rcases h2 with h2 | rfl
      · by_cases hne : l = []
        · subst hne; exact hR.symm
        · obtain ⟨q, hq, hr⟩ := h3 hne
          rw [List.drop_eq_nil_of_le (by omega)] at hr
          exact hr.symm
      · exact hR.symm
    rw [hR0]
    exact Wd0
def mbD (x : Mb) : List D := [.s (.string ⟨x.name.toArray⟩), .s (.int .u64 (x.ep : Nat)), .s (.int .u8 (x.st : Nat)), .l x.toks.length (toksD x.toks)]
abbrev mbV (x : Mb) : V := .a [sv (bs x.name), iv .u64 (x.ep : Nat), iv .u8 (x.st : Nat), .d (.l x.toks.length (toksD x.toks))]
abbrev ringD (l : Ring) : List D := (l.map mbD).flatten
theorem ring_drop {l r : Ring} {x : Mb} {i : Nat} (h : l.drop i = x :: r) : (ringD l).drop (i * 4) = .s (.string ⟨x.name.toArray⟩) :: .s (.int .u64 (x.ep : Nat)) :: .s (.int .u8 (x.st : Nat)) :: .l x.toks.length (toksD x.toks) :: ringD r := by
  rw [ringD, flat_drop (f := mbD) (sz := 4) (fun _ => rfl), h]; rfl
def Ring.fits (l : Ring) : Prop := l.length ≤ 9223372036854775807 ∧ ∀ x ∈ l, x.fits ∧ x.name.length ≤ 9223372036854775807 ∧ x.toks.length ≤ 9223372036854775807
def Ring.ahead (l : Ring) (i : Nat) (p : List UInt8) : Prop := (i = 0 ∧ p = []) ∨ (0 < i ∧ p.length ≤ 32 ∧ ∃ y r, l.drop (i - 1) = y :: r ∧ y.name = p)
end Go.AW
