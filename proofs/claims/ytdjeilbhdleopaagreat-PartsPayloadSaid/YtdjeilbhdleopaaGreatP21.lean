/-
  numbers of four bytes that are read.
-/
import Derived.Test.YtdjeilbhdleopaaGreatP20
set_option linter.unusedVariables false
set_option linter.unusedSimpArgs false
set_option maxHeartbeats 4000000
set_option maxRecDepth 10000
namespace Go.AW
open Go Go.Proofs
attribute [local irreducible] thenQ blockQ RetQ AL AW AC AOp
theorem fixed_right4 : AC Tryz.prog 317 [iv .i64 4] [] fun x σ => x = bv true ∧ σ = [] := by
  refine AC.wk Tryz.func317 ?_
  exact Wa0
theorem ref04_Width4 : AC Tryz.prog 232 [iv .i64 4] [] fun x σ => x = bv true ∧ σ = [] := by
  refine AC.wk Tryz.func232 ?_
  exact Wa0
theorem fixed_Take4 (s : List UInt8) (a : Nat) (e : Int) (h : Cu.Ok ⟨s, a, e⟩) : AC Tryz.prog 301 [.p 0 0, iv .i64 4] [Cu.ob ⟨s, a, e⟩] fun x σ => x = iv .u64 (Cu.num4 ⟨s, a, e⟩).1 ∧ σ = [Cu.ob (Cu.num4 ⟨s, a, e⟩).2] := by
  refine AC.wk Tryz.func301 ?_
  have hb := cursor_Bytes s a e 4 h
  have hl : (Cu.bytes ⟨s, a, e⟩ 4).1 = [] ∨ (Cu.bytes ⟨s, a, e⟩ 4).1.length = 4 := by
    unfold Cu.bytes
    split
    · exact .inl rfl
    split
    · exact .inl rfl
    split
    · exact .inl rfl
    · right
      rw [List.length_take, List.length_drop]
      simp only at *
      omega
  unfold Cu.num4
  generalize Cu.bytes ⟨s, a, e⟩ 4 = z at *
  obtain ⟨l, c⟩ := z
  simp only at hl hb ⊢
  obtain ⟨w, hw8, hwv, hws⟩ : ∃ w : List UInt8, w.length = 8 ∧ val8 w = val8 l ∧ setAt [V.d (D.s (.int .u8 0)), V.d (D.s (.int .u8 0)), V.d (D.s (.int .u8 0)), V.d (D.s (.int .u8 0)), V.d (D.s (.int .u8 0)), V.d (D.s (.int .u8 0)), V.d (D.s (.int .u8 0)), V.d (D.s (.int .u8 0))] 4 ((bsD l).map V.d) = (bsD w).map V.d := by
    rcases hl with rfl | hl
    · exact ⟨List.replicate 8 0, rfl, rfl, rfl⟩
    · match l, hl with
      | [b0, b1, b2, b3], _ => exact ⟨[0, 0, 0, 0, b0, b1, b2, b3], rfl, by simp [val8], rfl⟩
  have hll : l.length ≤ 4 := by rcases hl with rfl | hl <;> simp_all
  have hln : ((bsD w).map V.d).length = 8 := by rw [List.length_map, bsD, List.length_map, hw8]
  have htk : List.take 8 ((bsD w).map V.d) = (bsD w).map V.d := List.take_of_length_le (by rw [hln]; exact Nat.le_refl _)
  focus (have kxs := And.intro hws (And.intro hln htk); have kk1 := uN [] fixed_right4; have kk2 := uN [0] hb; (repeat' (first | (refine ADr.nil ?_; try clear hgv) | refine GWF ?_ | refine AW.ret ?_ | (refine GC ?_ ?_ <;> intro h <;> (try simp only [hsB] at h) <;> try exact xf) | (refine GD ?_ ?_ <;> intro h <;> (try intro hgv) <;> (try simp only [hsN] at h) <;> (try simp only [h]) <;> (try simp only [hsB] at h) <;> try exact xf) | (refine GL ?_ ?_ <;> intro h <;> (try simp only [hsN] at h) <;> (try simp only [h]) <;> (try simp only [hsB] at h) <;> try exact xf) | fail)); all_goals clear kxs kk1 kk2)
  all_goals first | (exfalso; simp_all; done) | skip
  rw [← hwv]
  refine AW.rounds [4, 6, 21, 22] (fun i : Nat => [(4, iv .u64 0), (6, iv .u64 (val8 (w.take i))), (21, .a ((bsD w).map V.d)), (22, iv .i64 i)]) (fun i => [Cu.ob c])
    (fun i => i ≤ 8) (fun i => 8 - i) 0 (Nat.zero_le _) rfl rfl (fun _ _ => Nat.le_of_ble_eq_true rfl) (fun _ _ => rfl) (fun _ _ => by simp [tLt, V.lt, lts_map]) ?_
  intro i hi J hJ
  have hlt := val8_lt (w.take i)
  rw [List.length_take, Nat.min_eq_left (by omega)] at hlt
  by_cases hil : i < 8
  · obtain ⟨b, r, hd⟩ := next_at (l := w) (i := i) (by omega)
    have hp := pow256 (i := i) hil
    have hbl := b.toNat_lt
    have hn := or_byte (n := val8 (w.take i)) (x := b.toNat) (by omega) hbl
    rw [← val8_snoc, ← next_take hd] at hn
    have hg : ((bsD w).map V.d)[i]? = some (.d (.s (.int .u8 b.toNat))) := by
      have := congrArg (fun y => y.head?) hd
      simp only [List.head?_drop, List.head?_cons] at this
      rw [List.getElem?_map, bsD, List.getElem?_map, this]; rfl
    have hbd : ((val8 (w.take i) : Nat) : Int) * 256 ≤ 18446744073709551615 := by omega
    have hsh : IntKind.wrap .u64 (((val8 (w.take i) : Nat) : Int) * 2 ^ (min 8 64)) = ((val8 (w.take i) : Nat) : Int) * 256 := by
      rw [show ((2 : Int) ^ (min 8 64)) = 256 from rfl]
      exact wrap_u64 (by omega) hbd
    focus (have kxs := And.intro hsh (And.intro hn hg); (repeat' (first | (refine ADr.nil ?_; try clear hgv) | refine GOF ?_ | refine AW.ret ?_ | (refine GC ?_ ?_ <;> intro h <;> (try simp only [hsB] at h) <;> try exact xf) | (refine GD ?_ ?_ <;> intro h <;> (try intro hgv) <;> (try simp only [hsN] at h) <;> (try simp only [h]) <;> (try simp only [hsB] at h) <;> try exact xf) | (refine GL ?_ ?_ <;> intro h <;> (try simp only [hsN] at h) <;> (try simp only [h]) <;> (try simp only [hsB] at h) <;> try exact xf) | fail)); all_goals clear kxs)
    all_goals first | (refine hJ (i + 1) _ _ (by omega) hil rfl rfl) | (exfalso; simp_all; done)
  · have hi2 : i = 8 := by omega
    rw [hi2, List.take_of_length_le (by omega)]
    exact Wb1
theorem ref04_Take4 (s : List UInt8) (a : Nat) (e : Int) (h : Cu.Ok ⟨s, a, e⟩) : AC Tryz.prog 302 [.p 0 0, iv .i64 4] [Cu.ro ⟨s, a, e⟩] fun x σ => x = iv .u64 (Cu.num4 ⟨s, a, e⟩).1 ∧ σ = [Cu.ro (Cu.num4 ⟨s, a, e⟩).2] := by
  refine AC.wk Tryz.func302 ?_
  by_cases he : e = 0
  case neg =>
    have hn : Cu.num4 ⟨s, a, e⟩ = (0, ⟨s, a, e⟩) := by unfold Cu.num4; rw [Cu.bytes_stuck (c := ⟨s, a, e⟩) 4 he]; rfl
    rw [hn]
    (have kk1 := uN [] ref04_Width4; exact Wa1)
  have hb := ref01_Bytes s a e 4 h
  have hl : (Cu.bytes ⟨s, a, e⟩ 4).1.length ≤ 4 := by
    unfold Cu.bytes
    split
    · exact Nat.zero_le _
    split
    · exact Nat.zero_le _
    split
    · exact Nat.zero_le _
    · rw [List.length_take]; exact Nat.min_le_left _ _
  unfold Cu.num4
  generalize Cu.bytes ⟨s, a, e⟩ 4 = z at *
  obtain ⟨l, c⟩ := z
  simp only at hl hb ⊢
  focus (have kk1 := uN [] ref04_Width4; have kk2 := uN [0] hb; (repeat' (first | refine GF ?_ | refine AW.ret ?_ | (refine GC ?_ ?_ <;> intro h <;> (try simp only [hsB] at h) <;> try exact xf) | (refine GL ?_ ?_ <;> intro h <;> (try simp only [hsN] at h) <;> (try simp only [h]) <;> (try simp only [hsB] at h) <;> try exact xf) | fail)); all_goals clear kk1 kk2)
  all_goals first | (exfalso; simp_all; done) | skip
  refine AW.rounds [4, 5, 6, 7] (fun i : Nat => [(4, iv .u64 0), (5, sv (bs l)), (6, iv .u64 (val8 (l.take i))), (7, iv .i64 i)]) (fun i => [Cu.ro c])
    (fun i => i ≤ l.length) (fun i => l.length - i) 0 (Nat.zero_le _) rfl rfl (fun _ _ => Nat.le_of_ble_eq_true rfl) (fun _ _ => rfl) (fun _ _ => rfl) ?_
  intro i hi J hJ
  have hlt := val8_lt (l.take i)
  rw [List.length_take, Nat.min_eq_left hi] at hlt
  by_cases hil : i < l.length
  · obtain ⟨b, r, hd⟩ := next_at hil
    have hp := pow256 (i := i) (by omega)
    have hbl := b.toNat_lt
    have hn : ((val8 (l.take i) : Nat) : Int) * 256 + ((b.toNat : Nat) : Int) = ((val8 (l.take (i + 1)) : Nat) : Int) := by
      rw [next_take hd, val8_snoc]; push_cast; rfl
    have hg : l.getD i 0 = b := by
      have := congrArg (fun y => y.getD 0 0) hd
      simpa [List.getD_eq_getElem?_getD] using this
    focus (have kxs := And.intro hn hg; (repeat' (first | refine GF ?_ | refine AW.ret ?_ | (refine GC ?_ ?_ <;> intro h <;> (try simp only [hsB] at h) <;> try exact xf) | (refine GL ?_ ?_ <;> intro h <;> (try simp only [hsN] at h) <;> (try simp only [h]) <;> (try simp only [hsB] at h) <;> try exact xf) | fail)); all_goals clear kxs)
    all_goals first | (refine hJ (i + 1) _ _ (by omega) hil rfl rfl) | (exfalso; simp_all; done)
  · have hi2 : i = l.length := by omega
    rw [hi2, List.take_length] at *
    exact Wa1
theorem cursor_Since (c : Cu) (h : c.Ok) (n : Nat) (hn : n ≤ c.a) : AC Tryz.prog 300 [.p 0 0, iv .i64 (n : Nat)] [Cu.ob c] fun y σ => y = sv (bs ((c.s.drop n).take (c.a - n))) ∧ σ = [Cu.ob c] := by
  refine AC.wk Tryz.func300 ?_
  have hat := cursor_At c.s c.a c.e
  obtain ⟨h1, h2⟩ := h
  (have kk1 := uN [0] hat; exact Wb1)
theorem frame_version (v : Nat) : AC Tryz.prog 298 [iv .u8 (v : Nat)] [] fun y σ => y = bv (decide (v = 1 ∨ v = 2)) ∧ σ = [] := by
  refine AC.wk Tryz.func298 ?_
  by_cases h1 : v = 1
  · subst h1
    exact Wa0
  · have e1 : decide ((v : Int) = 1) = false := decide_eq_false (by omega)
    by_cases h2 : v = 2
    · subst h2
      exact Wa0
    · have e2 : decide ((v : Int) = 2) = false := decide_eq_false (by omega)
      have e3 : decide (v = 1 ∨ v = 2) = false := decide_eq_false (by omega)
      rw [e3]
      (have kxs := And.intro e1 e2; exact Wa0)
abbrev cdr (S : List V) : List Ob := [.box 399 S, .box 305 [.p 0 0]]
theorem frame_sum (S : List V) (hS : S = SM0 ∨ S = SM1) (l : List UInt8) (hl : l.length ≤ 9223372036854775807) : AC Tryz.prog 299 [.p 1 0, sv (bs l)] (cdr S) fun y σ => y = iv .u64 (csum l : Nat) ∧ σ = cdr SM1 := by
  refine AC.wk Tryz.func299 ?_
  have hlt := csum_lt l
  have hw : IntKind.wrap .u64 ((csum l : Nat) : Int) = ((csum l : Nat) : Int) := wrap_u64 (by omega) (by omega)
  rcases hS with rfl | rfl
  · have hm := crc_Sum SM0 (.inl rfl) l hl
    generalize csum l = q at *
    focus (have kxs := hw; have kk1 := uN [0] hm; (repeat' (first | refine GF ?_ | refine AW.ret ?_ | (refine GC ?_ ?_ <;> intro h <;> (try simp only [hsB] at h) <;> try exact xf) | (refine GL ?_ ?_ <;> intro h <;> (try simp only [hsN] at h) <;> (try simp only [h]) <;> (try simp only [hsB] at h) <;> try exact xf) | fail)); all_goals clear kxs kk1)
    all_goals first | exact RetQ.fr 2 (h3 := by show (lts 2 SM1 && _) = true; rw [SM1_lts]; rfl) | (exfalso; omega) | skip
  · have hm := crc_Sum SM1 (.inr rfl) l hl
    generalize csum l = q at *
    focus (have kxs := hw; have kk1 := uN [0] hm; (repeat' (first | refine GF ?_ | refine AW.ret ?_ | (refine GC ?_ ?_ <;> intro h <;> (try simp only [hsB] at h) <;> try exact xf) | (refine GL ?_ ?_ <;> intro h <;> (try simp only [hsN] at h) <;> (try simp only [h]) <;> (try simp only [hsB] at h) <;> try exact xf) | fail)); all_goals clear kxs kk1)
    all_goals first | exact RetQ.fr 2 (h3 := by show (lts 2 SM1 && _) = true; rw [SM1_lts]; rfl) | (exfalso; omega) | skip
abbrev fmV (x : Fm) : V := .a [iv .u8 (x.1 : Nat), iv .u8 (x.2.1 : Nat), sv (bs x.2.2)]
theorem byte_eta (c : Cu) : Cu.byte c = Cu.byte ⟨c.s, c.a, c.e⟩ := rfl
theorem frame_Take_SM0 (c : Cu) (h : c.Ok) : AC Tryz.prog 221 [.p 1 0, .p 2 0] (cdr SM0 ++ [Cu.ob c]) fun y σ => y = fmV (Cu.frame c).1 ∧ σ = cdr SM1 ++ [Cu.ob (Cu.frame c).2] := by
  refine AC.wk Tryz.func221 ?_
  obtain ⟨c2, hc2⟩ : ∃ c2, mgc 78 (mgc 215 c) = c2 := ⟨_, rfl⟩
  have hfr : Cu.frame c = (if c2.fmb.2.e ≠ 0 then (0, 0, []) else c2.fmb.1, c2.fmb.2) := by rw [← hc2]; rfl
  rw [hfr]
  have hok2 : c2.Ok := by rw [← hc2]; exact mgc_ok (mgc_ok h)
  focus ((repeat' (first | refine GF ?_ | refine AW.ret ?_ | (refine GC ?_ ?_ <;> intro h <;> (try simp only [hsB] at h) <;> try exact xf) | (refine GL ?_ ?_ <;> intro h <;> (try simp only [hsN] at h) <;> (try simp only [h]) <;> (try simp only [hsB] at h) <;> try exact xf) | fail)))
  refine AW.rounds [0, 1, 4, 10] (fun x : Nat × Cu => [(0, .p 1 0), (1, .p 2 0), (4, .p 3 0), (10, iv .i64 (x.1 : Nat))]) (fun x => [.box 399 SM0, .box 305 [.p 0 0], Cu.ob x.2, .box 106 [iv .u8 0, iv .u8 0, sv (bs [])]])
    (fun x => (x.1 = 0 ∧ x.2 = c) ∨ (x.1 = 1 ∧ x.2 = mgc 215 c) ∨ (x.1 = 2 ∧ x.2 = c2)) (fun x => 2 - x.1) (0, c) (.inl ⟨rfl, rfl⟩) rfl rfl (fun _ _ => Nat.le_of_ble_eq_true rfl) (fun _ _ => rfl) (fun _ _ => rfl) ?_
  rintro ⟨i, q⟩ hx J hJ
  simp only at hx ⊢
  rcases hx with ⟨rfl, rfl⟩ | ⟨rfl, rfl⟩ | ⟨rfl, rfl⟩
  · have hqk := h
    have go : ∀ d, mgc 215 q = d → ∀ T' σ', keepT T' [0, 1, 4, 10] = [(0, .p 1 0), (1, .p 2 0), (4, .p 3 0), (10, iv .i64 1)] → σ'.take 4 = [.box 399 SM0, .box 305 [.p 0 0], Cu.ob d, .box 106 [iv .u8 0, iv .u8 0, sv (bs [])]] → J T' σ' := fun d hd T' σ' g1 g2 =>
      hJ (1, d) T' σ' (by simp) (.inr (.inl ⟨rfl, hd.symm⟩)) g1 g2
    have hby := cursor_Byte q.s q.a q.e hqk
    unfold mgc at go
    rw [byte_eta] at go
    clear hJ
    generalize Cu.byte ⟨q.s, q.a, q.e⟩ = z at *
    obtain ⟨b, c1⟩ := z
    simp only at hby go
    have herr := cursor_Err c1.s c1.a c1.e
    have hfl := cursor_Fail c1.s c1.a c1.e 9
    by_cases hb : b = 215
    · have go2 := go c1 (by rw [decide_eq_true hb]; rfl)
      clear go
      have go := go2
      clear go2
      subst hb
      (have kk1 := uN [2] hby; have kk2 := uN [2] herr; exact Wag)
    · have hb2 : ¬ ((b : Nat) : Int) = 215 := by omega
      by_cases he : c1.e = 0
      · have go := go (c1.fail 9) (by rw [decide_eq_false hb]; rfl)
        (have kxs := hb2; have kk1 := uN [2] hby; have kk2 := uN [2] herr; have kk3 := uN [2] hfl; exact Wag)
      · have go := go c1 (by rw [decide_eq_false hb]; exact Cu.fail_stuck he _)
        (have kk1 := uN [2] hby; have kk2 := uN [2] herr; exact Wag)
  · have hqk := mgc_ok (w := 215) h
    obtain ⟨q, hq⟩ : ∃ q, mgc 215 c = q := ⟨_, rfl⟩
    rw [hq] at hc2 hqk ⊢
    have go : ∀ d, mgc 78 q = d → ∀ T' σ', keepT T' [0, 1, 4, 10] = [(0, .p 1 0), (1, .p 2 0), (4, .p 3 0), (10, iv .i64 2)] → σ'.take 4 = [.box 399 SM0, .box 305 [.p 0 0], Cu.ob d, .box 106 [iv .u8 0, iv .u8 0, sv (bs [])]] → J T' σ' := fun d hd T' σ' g1 g2 =>
      hJ (2, d) T' σ' (by simp) (.inr (.inr ⟨rfl, by rw [← hd, hc2]⟩)) g1 g2
    have hby := cursor_Byte q.s q.a q.e hqk
    unfold mgc at go
    rw [byte_eta] at go
    clear hJ
    generalize Cu.byte ⟨q.s, q.a, q.e⟩ = z at *
    obtain ⟨b, c1⟩ := z
    simp only at hby go
    have herr := cursor_Err c1.s c1.a c1.e
    have hfl := cursor_Fail c1.s c1.a c1.e 9
    by_cases hb : b = 78
    · have go2 := go c1 (by rw [decide_eq_true hb]; rfl)
      clear go
      have go := go2
      clear go2
      subst hb
      (have kk1 := uN [2] hby; have kk2 := uN [2] herr; exact Wag)
    · have hb2 : ¬ ((b : Nat) : Int) = 78 := by omega
      by_cases he : c1.e = 0
      · have go := go (c1.fail 9) (by rw [decide_eq_false hb]; rfl)
        (have kxs := hb2; have kk1 := uN [2] hby; have kk2 := uN [2] herr; have kk3 := uN [2] hfl; exact Wag)
      · have go := go c1 (by rw [decide_eq_false hb]; exact Cu.fail_stuck he _)
        (have kk1 := uN [2] hby; have kk2 := uN [2] herr; exact Wag)
  · clear hJ hfr
    have hat := cursor_At q.s q.a q.e
    have hby := cursor_Byte q.s q.a q.e hok2
    obtain ⟨R, hR⟩ : ∃ R, q.fmb = R := ⟨_, rfl⟩
    have hRk := Cu.fmb_ok hok2
    rw [hR] at hRk ⊢
    unfold Cu.fmb Cu.fmv at hR
    have k1 := Cu.byte_ok hok2
    have a1 : q.a ≤ q.byte.2.a := Cu.byte_a q
    rw [byte_eta q] at hR k1 a1
    generalize Cu.byte ⟨q.s, q.a, q.e⟩ = z at *
    obtain ⟨v, c3⟩ := z
    simp only at hby hR k1 a1
    have herr := cursor_Err c3.s c3.a c3.e
    have hve := frame_version v
    have hf10 := cursor_Fail c3.s c3.a c3.e 10
    obtain ⟨c4, hc4⟩ : ∃ c4, gd (decide (v = 1 ∨ v = 2)) 10 c3 = c4 := ⟨_, rfl⟩
    have k4 : c4.Ok := by rw [← hc4]; exact gd_ok k1
    have a4 : q.a ≤ c4.a := by rw [← hc4, gd_a]; exact a1
    rw [hc4] at hR
    have hby2 := cursor_Byte c4.s c4.a c4.e k4
    have k5 := Cu.byte_ok k4
    have a5 : c4.a ≤ c4.byte.2.a := Cu.byte_a c4
    rw [byte_eta c4] at hR k5 a5
    generalize Cu.byte ⟨c4.s, c4.a, c4.e⟩ = z at *
    obtain ⟨k, c5⟩ := z
    simp only at hby2 hR k5 a5
    have hbl := blob_Take c5.s c5.a c5.e 65536 k5 (by decide)
    have k6 := Cu.blob_ok (max := 65536) k5
    have a6 : c5.a ≤ (Cu.blob c5 65536).2.a := Cu.blob_a c5 65536
    rw [show Cu.blob ⟨c5.s, c5.a, c5.e⟩ 65536 = Cu.blob c5 65536 from rfl] at hbl
    generalize Cu.blob c5 65536 = z at *
    obtain ⟨p, c6⟩ := z
    simp only at hbl hR k6 a6
    have hsi := cursor_Since c6 k6 q.a (by omega)
    have hsl : ((c6.s.drop q.a).take (c6.a - q.a)).length ≤ 9223372036854775807 := by rw [List.length_take]; exact Nat.le_trans (Nat.min_le_left _ _) (by have z1 := k6.1; have z2 := k6.2; omega)
    have hsu := frame_sum SM0 (.inl rfl) ((c6.s.drop q.a).take (c6.a - q.a)) hsl
    have hft := fixed_Take4 c6.s c6.a c6.e k6
    rw [show Cu.num4 ⟨c6.s, c6.a, c6.e⟩ = Cu.num4 c6 from rfl] at hft
    generalize (c6.s.drop q.a).take (c6.a - q.a) = body at *
    generalize csum body = sm at *
    generalize Cu.num4 c6 = z at *
    obtain ⟨n, c7⟩ := z
    simp only at hft hR
    have herr7 := cursor_Err c7.s c7.a c7.e
    have hf12 := cursor_Fail c7.s c7.a c7.e 12
    have hend : ∀ c8 : Cu, gd (decide (n = sm)) 12 c7 = c8 → R = ((v, k, p), c8) := fun c8 h8 => by rw [← hR, ← h8]
    have hnm : ∀ h : ¬ n = sm, ¬ ((n : Nat) : Int) = ((sm : Nat) : Int) := fun h => by omega
    clear hR
    by_cases hv : v = 1 ∨ v = 2
    · rw [decide_eq_true hv] at hve hc4
      have e4 : c3 = c4 := hc4
      subst e4
      clear hc4 hf10
      by_cases hn : n = sm
      · have h8 := hend c7 (by rw [decide_eq_true hn]; rfl)
        rw [h8]
        clear hend hf12
        subst hn
        by_cases h7 : c7.e = 0
        · rw [if_neg (by simpa using h7)]
          focus (have kk1 := uN [2] hat; have kk2 := uN [2] hby; have kk3 := uN [2] herr; have kk4 := uN [] hve; have kk5 := uN [2] hby2; have kk6 := uN [2] hbl; have kk7 := uN [2] hsi; have kk8 := uN [0, 1] hsu; have kk9 := uN [2] hft; have kk10 := uN [2] herr7; (repeat' (first | refine GF ?_ | refine AW.ret ?_ | (refine GC ?_ ?_ <;> intro h <;> (try simp only [hsB] at h) <;> try exact xf) | (refine GL ?_ ?_ <;> intro h <;> (try simp only [hsN] at h) <;> (try simp only [h]) <;> (try simp only [hsB] at h) <;> try exact xf) | fail)); all_goals clear kk1 kk2 kk3 kk4 kk5 kk6 kk7 kk8 kk9 kk10)
          all_goals first | (((all_goals first | refine RetQ.yr 3 (xs := [.a [iv .u8 (v : Nat), iv .u8 (k : Nat), sv (bs p)]]) ⟨?_, ?_⟩ | refine RetQ.yn 3 (xs := [.a [iv .u8 (v : Nat), iv .u8 (k : Nat), sv (bs p)]]) ⟨?_, ?_⟩); (all_goals exact fx)); done) | exact xg
        · rw [if_pos h7]
          focus (have kk1 := uN [2] hat; have kk2 := uN [2] hby; have kk3 := uN [2] herr; have kk4 := uN [] hve; have kk5 := uN [2] hby2; have kk6 := uN [2] hbl; have kk7 := uN [2] hsi; have kk8 := uN [0, 1] hsu; have kk9 := uN [2] hft; have kk10 := uN [2] herr7; (repeat' (first | refine GF ?_ | refine AW.ret ?_ | (refine GC ?_ ?_ <;> intro h <;> (try simp only [hsB] at h) <;> try exact xf) | (refine GL ?_ ?_ <;> intro h <;> (try simp only [hsN] at h) <;> (try simp only [h]) <;> (try simp only [hsB] at h) <;> try exact xf) | fail)); all_goals clear kk1 kk2 kk3 kk4 kk5 kk6 kk7 kk8 kk9 kk10)
          all_goals first | (((all_goals first | refine RetQ.yr 3 (xs := [.a [iv .u8 0, iv .u8 0, sv (bs [])]]) ⟨?_, ?_⟩ | refine RetQ.yn 3 (xs := [.a [iv .u8 0, iv .u8 0, sv (bs [])]]) ⟨?_, ?_⟩); (all_goals exact fx)); done) | exact xg
      · have hnm2 := hnm hn
        have h8 := hend (c7.fail 12) (by rw [decide_eq_false hn]; rfl)
        have h9 : (c7.fail 12).e ≠ 0 := Cu.fail_e (by decide)
        rw [show Cu.fail ⟨c7.s, c7.a, c7.e⟩ 12 = c7.fail 12 from rfl] at hf12
        rw [h8]
        clear hend herr7
        generalize c7.fail 12 = c8 at *
        have herr8 := cursor_Err c8.s c8.a c8.e
        rw [if_pos h9]
        focus (have kxs := hnm2; have kk1 := uN [2] hat; have kk2 := uN [2] hby; have kk3 := uN [2] herr; have kk4 := uN [] hve; have kk5 := uN [2] hby2; have kk6 := uN [2] hbl; have kk7 := uN [2] hsi; have kk8 := uN [0, 1] hsu; have kk9 := uN [2] hft; have kk10 := uN [2] hf12; have kk11 := uN [2] herr8; (repeat' (first | refine GF ?_ | refine AW.ret ?_ | (refine GC ?_ ?_ <;> intro h <;> (try simp only [hsB] at h) <;> try exact xf) | (refine GL ?_ ?_ <;> intro h <;> (try simp only [hsN] at h) <;> (try simp only [h]) <;> (try simp only [hsB] at h) <;> try exact xf) | fail)); all_goals clear kxs kk1 kk2 kk3 kk4 kk5 kk6 kk7 kk8 kk9 kk10 kk11)
        all_goals first | (((all_goals first | refine RetQ.yr 3 (xs := [.a [iv .u8 0, iv .u8 0, sv (bs [])]]) ⟨?_, ?_⟩ | refine RetQ.yn 3 (xs := [.a [iv .u8 0, iv .u8 0, sv (bs [])]]) ⟨?_, ?_⟩); (all_goals exact fx)); done) | exact xg
    · rw [decide_eq_false hv] at hve hc4
      by_cases he3 : c3.e = 0
      · rw [show Cu.fail ⟨c3.s, c3.a, c3.e⟩ 10 = c4 from hc4] at hf10
        clear hc4
        by_cases hn : n = sm
        · have h8 := hend c7 (by rw [decide_eq_true hn]; rfl)
          rw [h8]
          clear hend hf12
          subst hn
          by_cases h7 : c7.e = 0
          · rw [if_neg (by simpa using h7)]
            focus (have kk1 := uN [2] hat; have kk2 := uN [2] hby; have kk3 := uN [2] herr; have kk4 := uN [] hve; have kk5 := uN [2] hby2; have kk6 := uN [2] hbl; have kk7 := uN [2] hsi; have kk8 := uN [0, 1] hsu; have kk9 := uN [2] hft; have kk10 := uN [2] hf10; have kk11 := uN [2] herr7; (repeat' (first | refine GF ?_ | refine AW.ret ?_ | (refine GC ?_ ?_ <;> intro h <;> (try simp only [hsB] at h) <;> try exact xf) | (refine GL ?_ ?_ <;> intro h <;> (try simp only [hsN] at h) <;> (try simp only [h]) <;> (try simp only [hsB] at h) <;> try exact xf) | fail)); all_goals clear kk1 kk2 kk3 kk4 kk5 kk6 kk7 kk8 kk9 kk10 kk11)
            all_goals first | (((all_goals first | refine RetQ.yr 3 (xs := [.a [iv .u8 (v : Nat), iv .u8 (k : Nat), sv (bs p)]]) ⟨?_, ?_⟩ | refine RetQ.yn 3 (xs := [.a [iv .u8 (v : Nat), iv .u8 (k : Nat), sv (bs p)]]) ⟨?_, ?_⟩); (all_goals exact fx)); done) | exact xg
          · rw [if_pos h7]
            focus (have kk1 := uN [2] hat; have kk2 := uN [2] hby; have kk3 := uN [2] herr; have kk4 := uN [] hve; have kk5 := uN [2] hby2; have kk6 := uN [2] hbl; have kk7 := uN [2] hsi; have kk8 := uN [0, 1] hsu; have kk9 := uN [2] hft; have kk10 := uN [2] hf10; have kk11 := uN [2] herr7; (repeat' (first | refine GF ?_ | refine AW.ret ?_ | (refine GC ?_ ?_ <;> intro h <;> (try simp only [hsB] at h) <;> try exact xf) | (refine GL ?_ ?_ <;> intro h <;> (try simp only [hsN] at h) <;> (try simp only [h]) <;> (try simp only [hsB] at h) <;> try exact xf) | fail)); all_goals clear kk1 kk2 kk3 kk4 kk5 kk6 kk7 kk8 kk9 kk10 kk11)
            all_goals first | (((all_goals first | refine RetQ.yr 3 (xs := [.a [iv .u8 0, iv .u8 0, sv (bs [])]]) ⟨?_, ?_⟩ | refine RetQ.yn 3 (xs := [.a [iv .u8 0, iv .u8 0, sv (bs [])]]) ⟨?_, ?_⟩); (all_goals exact fx)); done) | exact xg
        · have hnm2 := hnm hn
          have h8 := hend (c7.fail 12) (by rw [decide_eq_false hn]; rfl)
          have h9 : (c7.fail 12).e ≠ 0 := Cu.fail_e (by decide)
          rw [show Cu.fail ⟨c7.s, c7.a, c7.e⟩ 12 = c7.fail 12 from rfl] at hf12
          rw [h8]
          clear hend herr7
          generalize c7.fail 12 = c8 at *
          have herr8 := cursor_Err c8.s c8.a c8.e
          rw [if_pos h9]
          focus (have kxs := hnm2; have kk1 := uN [2] hat; have kk2 := uN [2] hby; have kk3 := uN [2] herr; have kk4 := uN [] hve; have kk5 := uN [2] hby2; have kk6 := uN [2] hbl; have kk7 := uN [2] hsi; have kk8 := uN [0, 1] hsu; have kk9 := uN [2] hft; have kk10 := uN [2] hf10; have kk11 := uN [2] hf12; have kk12 := uN [2] herr8; (repeat' (first | refine GF ?_ | refine AW.ret ?_ | (refine GC ?_ ?_ <;> intro h <;> (try simp only [hsB] at h) <;> try exact xf) | (refine GL ?_ ?_ <;> intro h <;> (try simp only [hsN] at h) <;> (try simp only [h]) <;> (try simp only [hsB] at h) <;> try exact xf) | fail)); all_goals clear kxs kk1 kk2 kk3 kk4 kk5 kk6 kk7 kk8 kk9 kk10 kk11 kk12)
          all_goals first | (((all_goals first | refine RetQ.yr 3 (xs := [.a [iv .u8 0, iv .u8 0, sv (bs [])]]) ⟨?_, ?_⟩ | refine RetQ.yn 3 (xs := [.a [iv .u8 0, iv .u8 0, sv (bs [])]]) ⟨?_, ?_⟩); (all_goals exact fx)); done) | exact xg
      · have e4 : c3 = c4 := by rw [← hc4]; exact (Cu.fail_stuck he3 _).symm
        subst e4
        clear hc4 hf10
        by_cases hn : n = sm
        · have h8 := hend c7 (by rw [decide_eq_true hn]; rfl)
          rw [h8]
          clear hend hf12
          subst hn
          by_cases h7 : c7.e = 0
          · rw [if_neg (by simpa using h7)]
            focus (have kk1 := uN [2] hat; have kk2 := uN [2] hby; have kk3 := uN [2] herr; have kk4 := uN [] hve; have kk5 := uN [2] hby2; have kk6 := uN [2] hbl; have kk7 := uN [2] hsi; have kk8 := uN [0, 1] hsu; have kk9 := uN [2] hft; have kk10 := uN [2] herr7; (repeat' (first | refine GF ?_ | refine AW.ret ?_ | (refine GC ?_ ?_ <;> intro h <;> (try simp only [hsB] at h) <;> try exact xf) | (refine GL ?_ ?_ <;> intro h <;> (try simp only [hsN] at h) <;> (try simp only [h]) <;> (try simp only [hsB] at h) <;> try exact xf) | fail)); all_goals clear kk1 kk2 kk3 kk4 kk5 kk6 kk7 kk8 kk9 kk10)
            all_goals first | (((all_goals first | refine RetQ.yr 3 (xs := [.a [iv .u8 (v : Nat), iv .u8 (k : Nat), sv (bs p)]]) ⟨?_, ?_⟩ | refine RetQ.yn 3 (xs := [.a [iv .u8 (v : Nat), iv .u8 (k : Nat), sv (bs p)]]) ⟨?_, ?_⟩); (all_goals exact fx)); done) | exact xg
          · rw [if_pos h7]
            focus (have kk1 := uN [2] hat; have kk2 := uN [2] hby; have kk3 := uN [2] herr; have kk4 := uN [] hve; have kk5 := uN [2] hby2; have kk6 := uN [2] hbl; have kk7 := uN [2] hsi; have kk8 := uN [0, 1] hsu; have kk9 := uN [2] hft; have kk10 := uN [2] herr7; (repeat' (first | refine GF ?_ | refine AW.ret ?_ | (refine GC ?_ ?_ <;> intro h <;> (try simp only [hsB] at h) <;> try exact xf) | (refine GL ?_ ?_ <;> intro h <;> (try simp only [hsN] at h) <;> (try simp only [h]) <;> (try simp only [hsB] at h) <;> try exact xf) | fail)); all_goals clear kk1 kk2 kk3 kk4 kk5 kk6 kk7 kk8 kk9 kk10)
            all_goals first | (((all_goals first | refine RetQ.yr 3 (xs := [.a [iv .u8 0, iv .u8 0, sv (bs [])]]) ⟨?_, ?_⟩ | refine RetQ.yn 3 (xs := [.a [iv .u8 0, iv .u8 0, sv (bs [])]]) ⟨?_, ?_⟩); (all_goals exact fx)); done) | exact xg
        · have hnm2 := hnm hn
          have h8 := hend (c7.fail 12) (by rw [decide_eq_false hn]; rfl)
          have h9 : (c7.fail 12).e ≠ 0 := Cu.fail_e (by decide)
          rw [show Cu.fail ⟨c7.s, c7.a, c7.e⟩ 12 = c7.fail 12 from rfl] at hf12
          rw [h8]
          clear hend herr7
          generalize c7.fail 12 = c8 at *
          have herr8 := cursor_Err c8.s c8.a c8.e
          rw [if_pos h9]
          focus (have kxs := hnm2; have kk1 := uN [2] hat; have kk2 := uN [2] hby; have kk3 := uN [2] herr; have kk4 := uN [] hve; have kk5 := uN [2] hby2; have kk6 := uN [2] hbl; have kk7 := uN [2] hsi; have kk8 := uN [0, 1] hsu; have kk9 := uN [2] hft; have kk10 := uN [2] hf12; have kk11 := uN [2] herr8; (repeat' (first | refine GF ?_ | refine AW.ret ?_ | (refine GC ?_ ?_ <;> intro h <;> (try simp only [hsB] at h) <;> try exact xf) | (refine GL ?_ ?_ <;> intro h <;> (try simp only [hsN] at h) <;> (try simp only [h]) <;> (try simp only [hsB] at h) <;> try exact xf) | fail)); all_goals clear kxs kk1 kk2 kk3 kk4 kk5 kk6 kk7 kk8 kk9 kk10 kk11)
          all_goals first | (((all_goals first | refine RetQ.yr 3 (xs := [.a [iv .u8 0, iv .u8 0, sv (bs [])]]) ⟨?_, ?_⟩ | refine RetQ.yn 3 (xs := [.a [iv .u8 0, iv .u8 0, sv (bs [])]]) ⟨?_, ?_⟩); (all_goals exact fx)); done) | exact xg
theorem frame_Take_SM1 (c : Cu) (h : c.Ok) : AC Tryz.prog 221 [.p 1 0, .p 2 0] (cdr SM1 ++ [Cu.ob c]) fun y σ => y = fmV (Cu.frame c).1 ∧ σ = cdr SM1 ++ [Cu.ob (Cu.frame c).2] := by
  refine AC.wk Tryz.func221 ?_
  obtain ⟨c2, hc2⟩ : ∃ c2, mgc 78 (mgc 215 c) = c2 := ⟨_, rfl⟩
  have hfr : Cu.frame c = (if c2.fmb.2.e ≠ 0 then (0, 0, []) else c2.fmb.1, c2.fmb.2) := by rw [← hc2]; rfl
  rw [hfr]
  have hok2 : c2.Ok := by rw [← hc2]; exact mgc_ok (mgc_ok h)
  focus ((repeat' (first | refine GF ?_ | refine AW.ret ?_ | (refine GC ?_ ?_ <;> intro h <;> (try simp only [hsB] at h) <;> try exact xf) | (refine GL ?_ ?_ <;> intro h <;> (try simp only [hsN] at h) <;> (try simp only [h]) <;> (try simp only [hsB] at h) <;> try exact xf) | fail)))
  refine AW.rounds [0, 1, 4, 10] (fun x : Nat × Cu => [(0, .p 1 0), (1, .p 2 0), (4, .p 3 0), (10, iv .i64 (x.1 : Nat))]) (fun x => [.box 399 SM1, .box 305 [.p 0 0], Cu.ob x.2, .box 106 [iv .u8 0, iv .u8 0, sv (bs [])]])
    (fun x => (x.1 = 0 ∧ x.2 = c) ∨ (x.1 = 1 ∧ x.2 = mgc 215 c) ∨ (x.1 = 2 ∧ x.2 = c2)) (fun x => 2 - x.1) (0, c) (.inl ⟨rfl, rfl⟩) rfl rfl (fun _ _ => Nat.le_of_ble_eq_true rfl) (fun _ _ => rfl) (fun _ _ => rfl) ?_
  rintro ⟨i, q⟩ hx J hJ
  simp only at hx ⊢
  rcases hx with ⟨rfl, rfl⟩ | ⟨rfl, rfl⟩ | ⟨rfl, rfl⟩
  · have hqk := h
    have go : ∀ d, mgc 215 q = d → ∀ T' σ', keepT T' [0, 1, 4, 10] = [(0, .p 1 0), (1, .p 2 0), (4, .p 3 0), (10, iv .i64 1)] → σ'.take 4 = [.box 399 SM1, .box 305 [.p 0 0], Cu.ob d, .box 106 [iv .u8 0, iv .u8 0, sv (bs [])]] → J T' σ' := fun d hd T' σ' g1 g2 =>
      hJ (1, d) T' σ' (by simp) (.inr (.inl ⟨rfl, hd.symm⟩)) g1 g2
    have hby := cursor_Byte q.s q.a q.e hqk
    unfold mgc at go
    rw [byte_eta] at go
    clear hJ
    generalize Cu.byte ⟨q.s, q.a, q.e⟩ = z at *
    obtain ⟨b, c1⟩ := z
    simp only at hby go
    have herr := cursor_Err c1.s c1.a c1.e
    have hfl := cursor_Fail c1.s c1.a c1.e 9
    by_cases hb : b = 215
    · have go2 := go c1 (by rw [decide_eq_true hb]; rfl)
      clear go
      have go := go2
      clear go2
      subst hb
      (have kk1 := uN [2] hby; have kk2 := uN [2] herr; exact Wag)
    · have hb2 : ¬ ((b : Nat) : Int) = 215 := by omega
      by_cases he : c1.e = 0
      · have go := go (c1.fail 9) (by rw [decide_eq_false hb]; rfl)
        (have kxs := hb2; have kk1 := uN [2] hby; have kk2 := uN [2] herr; have kk3 := uN [2] hfl; exact Wag)
      · have go := go c1 (by rw [decide_eq_false hb]; exact Cu.fail_stuck he _)
        (have kk1 := uN [2] hby; have kk2 := uN [2] herr; exact Wag)
  · have hqk := mgc_ok (w := 215) h
    obtain ⟨q, hq⟩ : ∃ q, mgc 215 c = q := ⟨_, rfl⟩
    rw [hq] at hc2 hqk ⊢
    have go : ∀ d, mgc 78 q = d → ∀ T' σ', keepT T' [0, 1, 4, 10] = [(0, .p 1 0), (1, .p 2 0), (4, .p 3 0), (10, iv .i64 2)] → σ'.take 4 = [.box 399 SM1, .box 305 [.p 0 0], Cu.ob d, .box 106 [iv .u8 0, iv .u8 0, sv (bs [])]] → J T' σ' := fun d hd T' σ' g1 g2 =>
      hJ (2, d) T' σ' (by simp) (.inr (.inr ⟨rfl, by rw [← hd, hc2]⟩)) g1 g2
    have hby := cursor_Byte q.s q.a q.e hqk
    unfold mgc at go
    rw [byte_eta] at go
    clear hJ
    generalize Cu.byte ⟨q.s, q.a, q.e⟩ = z at *
    obtain ⟨b, c1⟩ := z
    simp only at hby go
    have herr := cursor_Err c1.s c1.a c1.e
    have hfl := cursor_Fail c1.s c1.a c1.e 9
    by_cases hb : b = 78
    · have go2 := go c1 (by rw [decide_eq_true hb]; rfl)
      clear go
      have go := go2
      clear go2
      subst hb
      (have kk1 := uN [2] hby; have kk2 := uN [2] herr; exact Wag)
    · have hb2 : ¬ ((b : Nat) : Int) = 78 := by omega
      by_cases he : c1.e = 0
      · have go := go (c1.fail 9) (by rw [decide_eq_false hb]; rfl)
        (have kxs := hb2; have kk1 := uN [2] hby; have kk2 := uN [2] herr; have kk3 := uN [2] hfl; exact Wag)
      · have go := go c1 (by rw [decide_eq_false hb]; exact Cu.fail_stuck he _)
        (have kk1 := uN [2] hby; have kk2 := uN [2] herr; exact Wag)
  · clear hJ hfr
    have hat := cursor_At q.s q.a q.e
    have hby := cursor_Byte q.s q.a q.e hok2
    obtain ⟨R, hR⟩ : ∃ R, q.fmb = R := ⟨_, rfl⟩
    have hRk := Cu.fmb_ok hok2
    rw [hR] at hRk ⊢
    unfold Cu.fmb Cu.fmv at hR
    have k1 := Cu.byte_ok hok2
    have a1 : q.a ≤ q.byte.2.a := Cu.byte_a q
    rw [byte_eta q] at hR k1 a1
    generalize Cu.byte ⟨q.s, q.a, q.e⟩ = z at *
    obtain ⟨v, c3⟩ := z
    simp only at hby hR k1 a1
    have herr := cursor_Err c3.s c3.a c3.e
    have hve := frame_version v
    have hf10 := cursor_Fail c3.s c3.a c3.e 10
    obtain ⟨c4, hc4⟩ : ∃ c4, gd (decide (v = 1 ∨ v = 2)) 10 c3 = c4 := ⟨_, rfl⟩
    have k4 : c4.Ok := by rw [← hc4]; exact gd_ok k1
    have a4 : q.a ≤ c4.a := by rw [← hc4, gd_a]; exact a1
    rw [hc4] at hR
    have hby2 := cursor_Byte c4.s c4.a c4.e k4
    have k5 := Cu.byte_ok k4
    have a5 : c4.a ≤ c4.byte.2.a := Cu.byte_a c4
    rw [byte_eta c4] at hR k5 a5
    generalize Cu.byte ⟨c4.s, c4.a, c4.e⟩ = z at *
    obtain ⟨k, c5⟩ := z
    simp only at hby2 hR k5 a5
    have hbl := blob_Take c5.s c5.a c5.e 65536 k5 (by decide)
    have k6 := Cu.blob_ok (max := 65536) k5
    have a6 : c5.a ≤ (Cu.blob c5 65536).2.a := Cu.blob_a c5 65536
    rw [show Cu.blob ⟨c5.s, c5.a, c5.e⟩ 65536 = Cu.blob c5 65536 from rfl] at hbl
    generalize Cu.blob c5 65536 = z at *
    obtain ⟨p, c6⟩ := z
    simp only at hbl hR k6 a6
    have hsi := cursor_Since c6 k6 q.a (by omega)
    have hsl : ((c6.s.drop q.a).take (c6.a - q.a)).length ≤ 9223372036854775807 := by rw [List.length_take]; exact Nat.le_trans (Nat.min_le_left _ _) (by have z1 := k6.1; have z2 := k6.2; omega)
    have hsu := frame_sum SM1 (.inr rfl) ((c6.s.drop q.a).take (c6.a - q.a)) hsl
    have hft := fixed_Take4 c6.s c6.a c6.e k6
    rw [show Cu.num4 ⟨c6.s, c6.a, c6.e⟩ = Cu.num4 c6 from rfl] at hft
    generalize (c6.s.drop q.a).take (c6.a - q.a) = body at *
    generalize csum body = sm at *
    generalize Cu.num4 c6 = z at *
    obtain ⟨n, c7⟩ := z
    simp only at hft hR
    have herr7 := cursor_Err c7.s c7.a c7.e
    have hf12 := cursor_Fail c7.s c7.a c7.e 12
    have hend : ∀ c8 : Cu, gd (decide (n = sm)) 12 c7 = c8 → R = ((v, k, p), c8) := fun c8 h8 => by rw [← hR, ← h8]
    have hnm : ∀ h : ¬ n = sm, ¬ ((n : Nat) : Int) = ((sm : Nat) : Int) := fun h => by omega
    clear hR
    by_cases hv : v = 1 ∨ v = 2
    · rw [decide_eq_true hv] at hve hc4
      have e4 : c3 = c4 := hc4
      subst e4
      clear hc4 hf10
      by_cases hn : n = sm
      · have h8 := hend c7 (by rw [decide_eq_true hn]; rfl)
        rw [h8]
        clear hend hf12
        subst hn
        by_cases h7 : c7.e = 0
        · rw [if_neg (by simpa using h7)]
          focus (have kk1 := uN [2] hat; have kk2 := uN [2] hby; have kk3 := uN [2] herr; have kk4 := uN [] hve; have kk5 := uN [2] hby2; have kk6 := uN [2] hbl; have kk7 := uN [2] hsi; have kk8 := uN [0, 1] hsu; have kk9 := uN [2] hft; have kk10 := uN [2] herr7; (repeat' (first | refine GF ?_ | refine AW.ret ?_ | (refine GC ?_ ?_ <;> intro h <;> (try simp only [hsB] at h) <;> try exact xf) | (refine GL ?_ ?_ <;> intro h <;> (try simp only [hsN] at h) <;> (try simp only [h]) <;> (try simp only [hsB] at h) <;> try exact xf) | fail)); all_goals clear kk1 kk2 kk3 kk4 kk5 kk6 kk7 kk8 kk9 kk10)
          all_goals first | (((all_goals first | refine RetQ.yr 3 (xs := [.a [iv .u8 (v : Nat), iv .u8 (k : Nat), sv (bs p)]]) ⟨?_, ?_⟩ | refine RetQ.yn 3 (xs := [.a [iv .u8 (v : Nat), iv .u8 (k : Nat), sv (bs p)]]) ⟨?_, ?_⟩); (all_goals exact fx)); done) | exact xg
        · rw [if_pos h7]
          focus (have kk1 := uN [2] hat; have kk2 := uN [2] hby; have kk3 := uN [2] herr; have kk4 := uN [] hve; have kk5 := uN [2] hby2; have kk6 := uN [2] hbl; have kk7 := uN [2] hsi; have kk8 := uN [0, 1] hsu; have kk9 := uN [2] hft; have kk10 := uN [2] herr7; (repeat' (first | refine GF ?_ | refine AW.ret ?_ | (refine GC ?_ ?_ <;> intro h <;> (try simp only [hsB] at h) <;> try exact xf) | (refine GL ?_ ?_ <;> intro h <;> (try simp only [hsN] at h) <;> (try simp only [h]) <;> (try simp only [hsB] at h) <;> try exact xf) | fail)); all_goals clear kk1 kk2 kk3 kk4 kk5 kk6 kk7 kk8 kk9 kk10)
          all_goals first | (((all_goals first | refine RetQ.yr 3 (xs := [.a [iv .u8 0, iv .u8 0, sv (bs [])]]) ⟨?_, ?_⟩ | refine RetQ.yn 3 (xs := [.a [iv .u8 0, iv .u8 0, sv (bs [])]]) ⟨?_, ?_⟩); (all_goals exact fx)); done) | exact xg
      · have hnm2 := hnm hn
        have h8 := hend (c7.fail 12) (by rw [decide_eq_false hn]; rfl)
        have h9 : (c7.fail 12).e ≠ 0 := Cu.fail_e (by decide)
        rw [show Cu.fail ⟨c7.s, c7.a, c7.e⟩ 12 = c7.fail 12 from rfl] at hf12
        rw [h8]
        clear hend herr7
        generalize c7.fail 12 = c8 at *
        have herr8 := cursor_Err c8.s c8.a c8.e
        rw [if_pos h9]
        focus (have kxs := hnm2; have kk1 := uN [2] hat; have kk2 := uN [2] hby; have kk3 := uN [2] herr; have kk4 := uN [] hve; have kk5 := uN [2] hby2; have kk6 := uN [2] hbl; have kk7 := uN [2] hsi; have kk8 := uN [0, 1] hsu; have kk9 := uN [2] hft; have kk10 := uN [2] hf12; have kk11 := uN [2] herr8; (repeat' (first | refine GF ?_ | refine AW.ret ?_ | (refine GC ?_ ?_ <;> intro h <;> (try simp only [hsB] at h) <;> try exact xf) | (refine GL ?_ ?_ <;> intro h <;> (try simp only [hsN] at h) <;> (try simp only [h]) <;> (try simp only [hsB] at h) <;> try exact xf) | fail)); all_goals clear kxs kk1 kk2 kk3 kk4 kk5 kk6 kk7 kk8 kk9 kk10 kk11)
        all_goals first | (((all_goals first | refine RetQ.yr 3 (xs := [.a [iv .u8 0, iv .u8 0, sv (bs [])]]) ⟨?_, ?_⟩ | refine RetQ.yn 3 (xs := [.a [iv .u8 0, iv .u8 0, sv (bs [])]]) ⟨?_, ?_⟩); (all_goals exact fx)); done) | exact xg
    · rw [decide_eq_false hv] at hve hc4
      by_cases he3 : c3.e = 0
      · rw [show Cu.fail ⟨c3.s, c3.a, c3.e⟩ 10 = c4 from hc4] at hf10
        clear hc4
        by_cases hn : n = sm
        · have h8 := hend c7 (by rw [decide_eq_true hn]; rfl)
          rw [h8]
          clear hend hf12
          subst hn
          by_cases h7 : c7.e = 0
          · rw [if_neg (by simpa using h7)]
            focus (have kk1 := uN [2] hat; have kk2 := uN [2] hby; have kk3 := uN [2] herr; have kk4 := uN [] hve; have kk5 := uN [2] hby2; have kk6 := uN [2] hbl; have kk7 := uN [2] hsi; have kk8 := uN [0, 1] hsu; have kk9 := uN [2] hft; have kk10 := uN [2] hf10; have kk11 := uN [2] herr7; (repeat' (first | refine GF ?_ | refine AW.ret ?_ | (refine GC ?_ ?_ <;> intro h <;> (try simp only [hsB] at h) <;> try exact xf) | (refine GL ?_ ?_ <;> intro h <;> (try simp only [hsN] at h) <;> (try simp only [h]) <;> (try simp only [hsB] at h) <;> try exact xf) | fail)); all_goals clear kk1 kk2 kk3 kk4 kk5 kk6 kk7 kk8 kk9 kk10 kk11)
            all_goals first | (((all_goals first | refine RetQ.yr 3 (xs := [.a [iv .u8 (v : Nat), iv .u8 (k : Nat), sv (bs p)]]) ⟨?_, ?_⟩ | refine RetQ.yn 3 (xs := [.a [iv .u8 (v : Nat), iv .u8 (k : Nat), sv (bs p)]]) ⟨?_, ?_⟩); (all_goals exact fx)); done) | exact xg
          · rw [if_pos h7]
            focus (have kk1 := uN [2] hat; have kk2 := uN [2] hby; have kk3 := uN [2] herr; have kk4 := uN [] hve; have kk5 := uN [2] hby2; have kk6 := uN [2] hbl; have kk7 := uN [2] hsi; have kk8 := uN [0, 1] hsu; have kk9 := uN [2] hft; have kk10 := uN [2] hf10; have kk11 := uN [2] herr7; (repeat' (first | refine GF ?_ | refine AW.ret ?_ | (refine GC ?_ ?_ <;> intro h <;> (try simp only [hsB] at h) <;> try exact xf) | (refine GL ?_ ?_ <;> intro h <;> (try simp only [hsN] at h) <;> (try simp only [h]) <;> (try simp only [hsB] at h) <;> try exact xf) | fail)); all_goals clear kk1 kk2 kk3 kk4 kk5 kk6 kk7 kk8 kk9 kk10 kk11)
            all_goals first | (((all_goals first | refine RetQ.yr 3 (xs := [.a [iv .u8 0, iv .u8 0, sv (bs [])]]) ⟨?_, ?_⟩ | refine RetQ.yn 3 (xs := [.a [iv .u8 0, iv .u8 0, sv (bs [])]]) ⟨?_, ?_⟩); (all_goals exact fx)); done) | exact xg
        · have hnm2 := hnm hn
          have h8 := hend (c7.fail 12) (by rw [decide_eq_false hn]; rfl)
          have h9 : (c7.fail 12).e ≠ 0 := Cu.fail_e (by decide)
          rw [show Cu.fail ⟨c7.s, c7.a, c7.e⟩ 12 = c7.fail 12 from rfl] at hf12
          rw [h8]
          clear hend herr7
          generalize c7.fail 12 = c8 at *
          have herr8 := cursor_Err c8.s c8.a c8.e
          rw [if_pos h9]
          focus (have kxs := hnm2; have kk1 := uN [2] hat; have kk2 := uN [2] hby; have kk3 := uN [2] herr; have kk4 := uN [] hve; have kk5 := uN [2] hby2; have kk6 := uN [2] hbl; have kk7 := uN [2] hsi; have kk8 := uN [0, 1] hsu; have kk9 := uN [2] hft; have kk10 := uN [2] hf10; have kk11 := uN [2] hf12; have kk12 := uN [2] herr8; (repeat' (first | refine GF ?_ | refine AW.ret ?_ | (refine GC ?_ ?_ <;> intro h <;> (try simp only [hsB] at h) <;> try exact xf) | (refine GL ?_ ?_ <;> intro h <;> (try simp only [hsN] at h) <;> (try simp only [h]) <;> (try simp only [hsB] at h) <;> try exact xf) | fail)); all_goals clear kxs kk1 kk2 kk3 kk4 kk5 kk6 kk7 kk8 kk9 kk10 kk11 kk12)
          all_goals first | (((all_goals first | refine RetQ.yr 3 (xs := [.a [iv .u8 0, iv .u8 0, sv (bs [])]]) ⟨?_, ?_⟩ | refine RetQ.yn 3 (xs := [.a [iv .u8 0, iv .u8 0, sv (bs [])]]) ⟨?_, ?_⟩); (all_goals exact fx)); done) | exact xg
      · have e4 : c3 = c4 := by rw [← hc4]; exact (Cu.fail_stuck he3 _).symm
        subst e4
        clear hc4 hf10
        by_cases hn : n = sm
        · have h8 := hend c7 (by rw [decide_eq_true hn]; rfl)
          rw [h8]
          clear hend hf12
          subst hn
          by_cases h7 : c7.e = 0
          · rw [if_neg (by simpa using h7)]
            focus (have kk1 := uN [2] hat; have kk2 := uN [2] hby; have kk3 := uN [2] herr; have kk4 := uN [] hve; have kk5 := uN [2] hby2; have kk6 := uN [2] hbl; have kk7 := uN [2] hsi; have kk8 := uN [0, 1] hsu; have kk9 := uN [2] hft; have kk10 := uN [2] herr7; (repeat' (first | refine GF ?_ | refine AW.ret ?_ | (refine GC ?_ ?_ <;> intro h <;> (try simp only [hsB] at h) <;> try exact xf) | (refine GL ?_ ?_ <;> intro h <;> (try simp only [hsN] at h) <;> (try simp only [h]) <;> (try simp only [hsB] at h) <;> try exact xf) | fail)); all_goals clear kk1 kk2 kk3 kk4 kk5 kk6 kk7 kk8 kk9 kk10)
            all_goals first | (((all_goals first | refine RetQ.yr 3 (xs := [.a [iv .u8 (v : Nat), iv .u8 (k : Nat), sv (bs p)]]) ⟨?_, ?_⟩ | refine RetQ.yn 3 (xs := [.a [iv .u8 (v : Nat), iv .u8 (k : Nat), sv (bs p)]]) ⟨?_, ?_⟩); (all_goals exact fx)); done) | exact xg
          · rw [if_pos h7]
            focus (have kk1 := uN [2] hat; have kk2 := uN [2] hby; have kk3 := uN [2] herr; have kk4 := uN [] hve; have kk5 := uN [2] hby2; have kk6 := uN [2] hbl; have kk7 := uN [2] hsi; have kk8 := uN [0, 1] hsu; have kk9 := uN [2] hft; have kk10 := uN [2] herr7; (repeat' (first | refine GF ?_ | refine AW.ret ?_ | (refine GC ?_ ?_ <;> intro h <;> (try simp only [hsB] at h) <;> try exact xf) | (refine GL ?_ ?_ <;> intro h <;> (try simp only [hsN] at h) <;> (try simp only [h]) <;> (try simp only [hsB] at h) <;> try exact xf) | fail)); all_goals clear kk1 kk2 kk3 kk4 kk5 kk6 kk7 kk8 kk9 kk10)
            all_goals first | (((all_goals first | refine RetQ.yr 3 (xs := [.a [iv .u8 0, iv .u8 0, sv (bs [])]]) ⟨?_, ?_⟩ | refine RetQ.yn 3 (xs := [.a [iv .u8 0, iv .u8 0, sv (bs [])]]) ⟨?_, ?_⟩); (all_goals exact fx)); done) | exact xg
        · have hnm2 := hnm hn
          have h8 := hend (c7.fail 12) (by rw [decide_eq_false hn]; rfl)
          have h9 : (c7.fail 12).e ≠ 0 := Cu.fail_e (by decide)
          rw [show Cu.fail ⟨c7.s, c7.a, c7.e⟩ 12 = c7.fail 12 from rfl] at hf12
          rw [h8]
          clear hend herr7
          generalize c7.fail 12 = c8 at *
          have herr8 := cursor_Err c8.s c8.a c8.e
          rw [if_pos h9]
          focus (have kxs := hnm2; have kk1 := uN [2] hat; have kk2 := uN [2] hby; have kk3 := uN [2] herr; have kk4 := uN [] hve; have kk5 := uN [2] hby2; have kk6 := uN [2] hbl; have kk7 := uN [2] hsi; have kk8 := uN [0, 1] hsu; have kk9 := uN [2] hft; have kk10 := uN [2] hf12; have kk11 := uN [2] herr8; (repeat' (first | refine GF ?_ | refine AW.ret ?_ | (refine GC ?_ ?_ <;> intro h <;> (try simp only [hsB] at h) <;> try exact xf) | (refine GL ?_ ?_ <;> intro h <;> (try simp only [hsN] at h) <;> (try simp only [h]) <;> (try simp only [hsB] at h) <;> try exact xf) | fail)); all_goals clear kxs kk1 kk2 kk3 kk4 kk5 kk6 kk7 kk8 kk9 kk10 kk11)
          all_goals first | (((all_goals first | refine RetQ.yr 3 (xs := [.a [iv .u8 0, iv .u8 0, sv (bs [])]]) ⟨?_, ?_⟩ | refine RetQ.yn 3 (xs := [.a [iv .u8 0, iv .u8 0, sv (bs [])]]) ⟨?_, ?_⟩); (all_goals exact fx)); done) | exact xg
end Go.AW
