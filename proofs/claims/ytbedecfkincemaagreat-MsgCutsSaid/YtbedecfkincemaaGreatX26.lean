/-
  Row 23: the laws about payloads.
-/
import Derived.Test.YtbedecfkincemaaGreatX25
import Derived.Test.YtbedecfkincemaaGreatX08
import Derived.Test.YtbedecfkincemaaGreatX01
import Derived.Test.YtbedecfkincemaaGreatX09
import Derived.Test.YtbedecfkincemaaGreatX10
import Derived.Test.YtbedecfkincemaaGreatX11
import Derived.Test.YtbedecfkincemaaGreatX13
import Derived.Test.YtbedecfkincemaaGreatX14
import Derived.Test.YtbedecfkincemaaGreatChecked
import Derived.Test.YtbedecfkincemaaGreatRows
import Derived.JoinedOf
import Derived.Below
import Derived.ProofKit
namespace Go.AW
open Go Go.Proofs
set_option maxHeartbeats 4000000
set_option maxRecDepth 10000
set_option linter.unusedSimpArgs false
set_option linter.unusedVariables false
attribute [local irreducible] thenQ blockQ RetQ AL AW AC AOp

theorem msg_Decode (v k : Nat) (s : List UInt8) (hv : v < 256) (hk : k < 256) (hs : s.length ≤ 140737488351232) : AC Tryz.prog 16 [iv .u8 (v : Nat), iv .u8 (k : Nat), sv (bs s)] [] fun y σ => y = .t [mgV (msgw v k s).1, iv .i64 (msgw v k s).2] ∧ σ = [] := by
  cases hh : has v k with
  | false => exact decode_none v k s hv hk hh
  | true =>
    rcases has_cases hh with ⟨rfl, rfl | rfl | rfl⟩ | ⟨rfl, rfl | rfl | rfl | rfl | rfl | rfl | rfl | rfl | rfl⟩
    · exact decode_11 s hs
    · exact decode_12 s hs
    · exact decode_18 s hs
    · exact decode_21 s hs
    · exact decode_22 s hs
    · exact decode_23 s hs
    · exact decode_24 s hs
    · exact decode_25 s hs
    · exact decode_26 s hs
    · exact decode_27 s hs
    · exact decode_28 s hs
    · exact decode_29 s hs
theorem ref23_Encode (v : Nat) (m : Mg) (hv : v < 256) (hf : m.fits) : AC Tryz.prog 22 [iv .u8 (v : Nat), mgV m] [] fun y σ => y = .t [sv (bs (msge v m).1), iv .i64 (msge v m).2] ∧ σ = [] := by
  cases hh : has v m.kind with
  | false => exact rencode_none v m hv hf.1 hh
  | true =>
    rcases has_cases hh with ⟨rfl, h | h | h⟩ | ⟨rfl, h | h | h | h | h | h | h | h | h⟩
    · exact rencode_11 m hf h
    · exact rencode_12 m hf h
    · exact rencode_18 m hf h
    · exact rencode_21 m hf h
    · exact rencode_22 m hf h
    · exact rencode_23 m hf h
    · exact rencode_24 m hf h
    · exact rencode_25 m hf h
    · exact rencode_26 m hf h
    · exact rencode_27 m hf h
    · exact rencode_28 m hf h
    · exact rencode_29 m hf h
theorem Vec.fits_of {v : Vec} (h1 : v.check = 0) (h2 : ∀ x ∈ v, x.2 < 18446744073709551616) : v.fits := by
  have hv := Vec.check_len h1
  exact ⟨by omega, fun x hx => Nat.le_trans (hv.2 x hx) (by decide), h2⟩
theorem Prs.fits_of {v : Prs} (h1 : v.check = 0) : v.fits := by
  have hp := Prs.check_len h1
  exact ⟨by omega, fun x hx => Nat.le_trans (hp.2 x hx).1 (by decide), fun x hx => Nat.le_trans (hp.2 x hx).2 (by decide)⟩
theorem od0_fits : od0.fits := ⟨by decide, by decide, fun x hx => (List.not_mem_nil hx).elim⟩
theorem vec0_fits : Vec.fits [] := ⟨by decide, fun x hx => (List.not_mem_nil hx).elim, fun x hx => (List.not_mem_nil hx).elim⟩
theorem prs0_fits : Prs.fits [] := ⟨by decide, fun x hx => (List.not_mem_nil hx).elim, fun x hx => (List.not_mem_nil hx).elim⟩
theorem pg0_fits : pg0.fits := ⟨by decide, ⟨by decide, fun x hx => (List.not_mem_nil hx).elim⟩, by decide, fun x hx => (List.not_mem_nil hx).elim⟩
theorem Pg.fits_of {g : Pg} (h : g.check = 0) (h2 : ∀ x ∈ g.slots, x.1 < 256) : g.fits := by
  obtain ⟨p1, p2⟩ := Pg.check_parts h
  split at p2
  · obtain ⟨r1, r2, r3⟩ := p2
    refine ⟨by omega, ⟨by rw [r1]; decide, fun x hx => by rw [r1] at hx; exact (List.not_mem_nil hx).elim⟩, by omega, fun x hx => ?_⟩
    obtain ⟨e1, e2⟩ := itcheck_len _ _ _ r3 x hx
    exact ⟨by omega, by omega⟩
  · obtain ⟨r1, r2, r3, r4⟩ := p2
    refine ⟨by omega, ⟨by omega, fun x hx => ⟨h2 x hx, ?_⟩⟩, by rw [r1]; decide, fun x hx => by rw [r1] at hx; exact (List.not_mem_nil hx).elim⟩
    have := slcheck_len _ _ r4 x hx
    omega
theorem Mg.fits_of {v : Nat} {m : Mg} (hh : has v m.kind = true) (hp : m.pl v = m) (hc : m.chk v = 0) (hn : m.nums) (hi : m.id < 18446744073709551616) : m.fits := by
  obtain ⟨n1, n2, n3, n4, n5⟩ := hn
  rw [← hp]
  obtain ⟨knd, id, key, fnd, obj, old, ctx, mt, dd, vl, px, pg, rg, cd, tx⟩ := m
  simp only at hh hi n1 n2 n3 n4 n5
  clear hp
  rcases has_cases hh with ⟨rfl, rfl | rfl | rfl⟩ | ⟨rfl, rfl | rfl | rfl | rfl | rfl | rfl | rfl | rfl | rfl⟩
  · have h := keychk_zero.1 (show keychk key = 0 from hc)
    exact ⟨by show 1 < 256; decide, hi, by show key.length ≤ _; omega, oj0_fits, od0_fits, vec0_fits, prs0_fits, Nat.zero_le _, Nat.zero_le _, pg0_fits, Ring.fits_nil, (show (-9223372036854775808 : Int) ≤ 0 ∧ (0 : Int) ≤ 9223372036854775807 by decide), Nat.zero_le _⟩
  · have ho : Od.fits (if fnd = true ∧ 1 = 1 then old else od0) := by
      split
      · rename_i hc2; have h : (if fnd = true then old.check else 0) = 0 := hc; rw [if_pos hc2.1] at h; exact Od.fits_of ⟨h, n3⟩
      · exact od0_fits
    have hj : Oj.fits (if fnd = true ∧ 1 = 2 then obj else oj0) := by rw [if_neg (fun h => absurd h.2 (by decide))]; exact oj0_fits
    exact ⟨by show 2 < 256; decide, hi, Nat.zero_le _, hj, ho, vec0_fits, prs0_fits, Nat.zero_le _, Nat.zero_le _, pg0_fits, Ring.fits_nil, (show (-9223372036854775808 : Int) ≤ 0 ∧ (0 : Int) ≤ 9223372036854775807 by decide), Nat.zero_le _⟩
  · obtain ⟨a1, a2⟩ := fst0_zero.1 (show fst0 (codechk cd) (longchk tx 64) = 0 from hc)
    have a1 := codechk_zero.1 a1
    have a2 := longchk_zero.1 a2
    exact ⟨by show 8 < 256; decide, hi, Nat.zero_le _, oj0_fits, od0_fits, vec0_fits, prs0_fits, Nat.zero_le _, Nat.zero_le _, pg0_fits, Ring.fits_nil, ⟨by show -9223372036854775808 ≤ cd; omega, by show cd ≤ _; omega⟩, by show tx.length ≤ _; omega⟩
  · have h := keychk_zero.1 (show keychk key = 0 from hc)
    exact ⟨by show 1 < 256; decide, hi, by show key.length ≤ _; omega, oj0_fits, od0_fits, vec0_fits, prs0_fits, Nat.zero_le _, Nat.zero_le _, pg0_fits, Ring.fits_nil, (show (-9223372036854775808 : Int) ≤ 0 ∧ (0 : Int) ≤ 9223372036854775807 by decide), Nat.zero_le _⟩
  · have ho : Od.fits (if fnd = true ∧ 2 = 1 then old else od0) := by rw [if_neg (fun h => absurd h.2 (by decide))]; exact od0_fits
    have hj : Oj.fits (if fnd = true ∧ 2 = 2 then obj else oj0) := by
      split
      · rename_i hc2; have h : (if fnd = true then obj.check else 0) = 0 := hc; rw [if_pos hc2.1] at h; exact Oj.fits_of ⟨h, n2⟩
      · exact oj0_fits
    exact ⟨by show 2 < 256; decide, hi, Nat.zero_le _, hj, ho, vec0_fits, prs0_fits, Nat.zero_le _, Nat.zero_le _, pg0_fits, Ring.fits_nil, (show (-9223372036854775808 : Int) ≤ 0 ∧ (0 : Int) ≤ 9223372036854775807 by decide), Nat.zero_le _⟩
  · obtain ⟨a1, a2⟩ := fst0_zero.1 (show fst0 (keychk key) (fst0 (Vec.check ctx) (fst0 (Prs.check mt) (longchk vl 32768))) = 0 from hc)
    obtain ⟨a2, a3⟩ := fst0_zero.1 a2
    obtain ⟨a3, a4⟩ := fst0_zero.1 a3
    have a1 := keychk_zero.1 a1
    have a4 := longchk_zero.1 a4
    exact ⟨by show 3 < 256; decide, hi, by show key.length ≤ _; omega, oj0_fits, od0_fits, Vec.fits_of a2 n1, Prs.fits_of a3, by show vl.length ≤ _; omega, Nat.zero_le _, pg0_fits, Ring.fits_nil, (show (-9223372036854775808 : Int) ≤ 0 ∧ (0 : Int) ≤ 9223372036854775807 by decide), Nat.zero_le _⟩
  · exact ⟨by show 4 < 256; decide, hi, Nat.zero_le _, oj0_fits, od0_fits, Vec.fits_of hc n1, prs0_fits, Nat.zero_le _, Nat.zero_le _, pg0_fits, Ring.fits_nil, (show (-9223372036854775808 : Int) ≤ 0 ∧ (0 : Int) ≤ 9223372036854775807 by decide), Nat.zero_le _⟩
  · have h := longchk_zero.1 (show longchk px 31 = 0 from hc)
    exact ⟨by show 5 < 256; decide, hi, Nat.zero_le _, oj0_fits, od0_fits, vec0_fits, prs0_fits, Nat.zero_le _, by show px.length ≤ _; omega, pg0_fits, Ring.fits_nil, (show (-9223372036854775808 : Int) ≤ 0 ∧ (0 : Int) ≤ 9223372036854775807 by decide), Nat.zero_le _⟩
  · exact ⟨by show 6 < 256; decide, hi, Nat.zero_le _, oj0_fits, od0_fits, vec0_fits, prs0_fits, Nat.zero_le _, Nat.zero_le _, Pg.fits_of hc n5, Ring.fits_nil, (show (-9223372036854775808 : Int) ≤ 0 ∧ (0 : Int) ≤ 9223372036854775807 by decide), Nat.zero_le _⟩
  · exact ⟨by show 7 < 256; decide, hi, Nat.zero_le _, oj0_fits, od0_fits, vec0_fits, prs0_fits, Nat.zero_le _, Nat.zero_le _, pg0_fits, Ring.fits_of ⟨hc, n4⟩, (show (-9223372036854775808 : Int) ≤ 0 ∧ (0 : Int) ≤ 9223372036854775807 by decide), Nat.zero_le _⟩
  · obtain ⟨a1, a2⟩ := fst0_zero.1 (show fst0 (codechk cd) (longchk tx 64) = 0 from hc)
    have a1 := codechk_zero.1 a1
    have a2 := longchk_zero.1 a2
    exact ⟨by show 8 < 256; decide, hi, Nat.zero_le _, oj0_fits, od0_fits, vec0_fits, prs0_fits, Nat.zero_le _, Nat.zero_le _, pg0_fits, Ring.fits_nil, ⟨by show -9223372036854775808 ≤ cd; omega, by show cd ≤ _; omega⟩, by show tx.length ≤ _; omega⟩
  · exact ⟨by show 9 < 256; decide, hi, Nat.zero_le _, Oj.fits_of ⟨hc, n2⟩, od0_fits, vec0_fits, prs0_fits, Nat.zero_le _, Nat.zero_le _, pg0_fits, Ring.fits_nil, (show (-9223372036854775808 : Int) ≤ 0 ∧ (0 : Int) ≤ 9223372036854775807 by decide), Nat.zero_le _⟩
theorem Mg.nums_of {m : Mg} (h : m.fits) : m.nums := by
  obtain ⟨_, _, _, f1, f2, f3, _, _, _, f5, f6, _, _⟩ := h
  exact ⟨f3.2.2, fun x hx => ⟨(f1.2.2 x hx).1.1.2.2, (f1.2.2 x hx).1.2.2⟩, fun x hx => (f2.2.2 x hx).1.2.2, fun x hx => (f6.2 x hx).1, fun x hx => (f5.2.1.2 x hx).1⟩

def mgk : Mg := { mg0 with kind := 1, id := 5, key := [107] }
theorem mgk_fits : mgk.fits := ⟨by decide, by decide, by decide, oj0_fits, od0_fits, vec0_fits, prs0_fits, by decide, by decide, pg0_fits, Ring.fits_nil, ⟨by decide, by decide⟩, by decide⟩
theorem mgk_e : msge 2 mgk = ([5, 1, 107], 0) := by
  have h1 : vput 5 = [5] := by rw [vput_small (by decide)]; rfl
  have h2 : vput 1 = [1] := by rw [vput_small (by decide)]; rfl
  have he : encm 2 mgk = [5, 1, 107] := by
    show vput 5 ++ (vput 1 ++ [107]) = _
    rw [h1, h2]; rfl
  have h := msge_fit (v := 2) (m := mgk) rfl rfl ⟨mg0_lens.1, mg0_lens.2⟩ (by rw [he]; decide)
  rw [h, he]
theorem awake23 : AC Tryz.prog 15 [] [] fun x σ => x = bv true ∧ σ = [] := by
  have hen := encode_21 mgk mgk_fits rfl
  rw [mgk_e] at hen
  refine AC.walk Tryz.func15 rfl (by decide) (of_decide_eq_true rfl) ?_
  focus (have kxs := kx0; have kk1 := uN [] (hen); (repeat' (first | refine G ?_ | refine AW.ret ?_ | (refine GC ?_ ?_ <;> intro h <;> (try simp only [hsB] at h) <;> try exact xf) | (refine GL ?_ ?_ <;> intro h <;> (try simp only [hsN] at h) <;> (try simp only [h]) <;> (try simp only [hsB] at h) <;> try exact xf) | fail)); all_goals clear kxs kk1)
  all_goals first | exact RetQ.fr 0 | exact RetQ.fn 0 | (exfalso; simp_all; done)

theorem msgCuts (v : Nat) (hv : v < 256) (m : Mg) (hf : m.fits) (r : List UInt8) (hr : r.length ≤ 9223372036854775807) : AC Tryz.prog 4 [iv .u8 (v : Nat), mgV m, sv (bs r)] [] fun x σ => x = bv true ∧ σ = [] := by
  refine AC.walk Tryz.func4 rfl (by decide) (of_decide_eq_true rfl) ?_
  have hgr' := ref23_Great m hf
  have hen := ref23_Encode v m hv hf
  by_cases hgr : Mg.great m = true
  · rw [hgr] at hgr'
    focus (have kxs := kx0; have kk1 := uN [] (awake23); have kk2 := uN [] (hgr'); (repeat' (first | (refine ADr.nil ?_; try clear hgv) | refine GO ?_ | refine AW.ret ?_ | (refine GC ?_ ?_ <;> intro h <;> (try simp only [hsB] at h) <;> try exact xf) | (refine GD ?_ ?_ <;> intro h <;> (try intro hgv) <;> (try simp only [hsN] at h) <;> (try simp only [h]) <;> (try simp only [hsB] at h) <;> try exact xf) | (refine GL ?_ ?_ <;> intro h <;> (try simp only [hsN] at h) <;> (try simp only [h]) <;> (try simp only [hsB] at h) <;> try exact xf) | fail)); all_goals clear kxs kk1 kk2)
    all_goals first | exact RetQ.fr 0 | exact RetQ.fn 0 | (exfalso; simp_all; done)
  have hgr : Mg.great m = false := by simpa using hgr
  rw [hgr] at hgr'
  by_cases hg0 : 0 < r.length ∧ r.length ≤ 100
  case neg =>
    focus (have kxs := kx0; have kk1 := uN [] (awake23); have kk2 := uN [] (hgr'); (repeat' (first | (refine ADr.nil ?_; try clear hgv) | refine GO ?_ | refine AW.ret ?_ | (refine GC ?_ ?_ <;> intro h <;> (try simp only [hsB] at h) <;> try exact xf) | (refine GD ?_ ?_ <;> intro h <;> (try intro hgv) <;> (try simp only [hsN] at h) <;> (try simp only [h]) <;> (try simp only [hsB] at h) <;> try exact xf) | (refine GL ?_ ?_ <;> intro h <;> (try simp only [hsN] at h) <;> (try simp only [h]) <;> (try simp only [hsB] at h) <;> try exact xf) | fail)); all_goals clear kxs kk1 kk2)
    all_goals first | exact RetQ.fr 0 | exact RetQ.fn 0 | (exfalso; omega)
  obtain ⟨hr0, hr1⟩ := hg0
  by_cases hc : (msge v m).2 = 0
  case neg =>
    generalize msge v m = z at *
    obtain ⟨t, e⟩ := z
    simp only at hen hc
    focus (have kxs := kx0; have kk1 := uN [] (awake23); have kk2 := uN [] (hgr'); have kk3 := uN [] (hen); (repeat' (first | (refine ADr.nil ?_; try clear hgv) | refine GO ?_ | refine AW.ret ?_ | (refine GC ?_ ?_ <;> intro h <;> (try simp only [hsB] at h) <;> try exact xf) | (refine GD ?_ ?_ <;> intro h <;> (try intro hgv) <;> (try simp only [hsN] at h) <;> (try simp only [h]) <;> (try simp only [hsB] at h) <;> try exact xf) | (refine GL ?_ ?_ <;> intro h <;> (try simp only [hsN] at h) <;> (try simp only [h]) <;> (try simp only [hsB] at h) <;> try exact xf) | fail)); all_goals clear kxs kk1 kk2 kk3)
    all_goals first | exact RetQ.fr 0 | exact RetQ.fn 0 | (exfalso; omega) | (exfalso; simp_all; done)
  have htr := msgw_trail hf.2.1 (Mg.nums_of hf) hc (r := r) (List.length_pos_iff.1 hr0)
  have hcut : ∀ i, i < (msge v m).1.length → msgw v m.kind ((msge v m).1.take i) = (mg0, 2) := fun i hi => msgw_cut hf.2.1 (Mg.nums_of hf) hc hi
  generalize msge v m = z at *
  obtain ⟨t, e⟩ := z
  simp only at hen hc htr hcut
  subst hc
  by_cases hl6 : t.length ≤ 6000
  case neg =>
    focus (have kxs := kx0; have kk1 := uN [] (awake23); have kk2 := uN [] (hgr'); have kk3 := uN [] (hen); (repeat' (first | (refine ADr.nil ?_; try clear hgv) | refine GO ?_ | refine AW.ret ?_ | (refine GC ?_ ?_ <;> intro h <;> (try simp only [hsB] at h) <;> try exact xf) | (refine GD ?_ ?_ <;> intro h <;> (try intro hgv) <;> (try simp only [hsN] at h) <;> (try simp only [h]) <;> (try simp only [hsB] at h) <;> try exact xf) | (refine GL ?_ ?_ <;> intro h <;> (try simp only [hsN] at h) <;> (try simp only [h]) <;> (try simp only [hsB] at h) <;> try exact xf) | fail)); all_goals clear kxs kk1 kk2 kk3)
    all_goals first | exact RetQ.fr 0 | exact RetQ.fn 0 | (exfalso; omega) | (exfalso; simp_all; done)
  have hdt := msg_Decode v m.kind (t ++ r) hv hf.1 (by rw [List.length_append]; omega)
  rw [htr] at hdt
  have hk := hf.1
  focus (have kxs := kx0; have kk1 := uN [] (awake23); have kk2 := uN [] (hgr'); have kk3 := uN [] (hen); (repeat' (first | (refine ADr.nil ?_; try clear hgv) | refine GO ?_ | refine AW.ret ?_ | (refine GC ?_ ?_ <;> intro h <;> (try simp only [hsB] at h) <;> try exact xf) | (refine GD ?_ ?_ <;> intro h <;> (try intro hgv) <;> (try simp only [hsN] at h) <;> (try simp only [h]) <;> (try simp only [hsB] at h) <;> try exact xf) | (refine GL ?_ ?_ <;> intro h <;> (try simp only [hsN] at h) <;> (try simp only [h]) <;> (try simp only [hsB] at h) <;> try exact xf) | fail)); all_goals clear kxs kk1 kk2 kk3)
  all_goals first | (exfalso; simp_all; done) | (exfalso; omega) | skip
  refine AW.rounds [0, 2, 4, 6, 7, 9] (fun i : Nat => [(0, iv .u8 (v : Nat)), (2, sv (bs r)), (4, .p 0 0), (6, bv false), (7, sv (bs t)), (9, iv .i64 i)]) (fun _ => [.box 38 (mgC m)]) (fun i => i ≤ t.length) (fun i => t.length - i) 0 (Nat.zero_le _) rfl rfl (fun _ _ => Nat.zero_le _) (fun _ _ => rfl) (fun _ _ => rfl) ?_
  intro i hi J hJ
  by_cases hil : i < t.length
  · have hdc := msg_Decode v m.kind (t.take i) hv hk (by rw [List.length_take]; omega)
    rw [hcut i hil] at hdc
    focus (have kxs := @Nat.sub_zero; have kk1 := uN [] (hdc); (repeat' (first | (refine ADr.nil ?_; try clear hgv) | refine GW ?_ | refine AW.ret ?_ | (refine GC ?_ ?_ <;> intro h <;> (try simp only [hsB] at h) <;> try exact xf) | (refine GD ?_ ?_ <;> intro h <;> (try intro hgv) <;> (try simp only [hsN] at h) <;> (try simp only [h]) <;> (try simp only [hsB] at h) <;> try exact xf) | (refine GL ?_ ?_ <;> intro h <;> (try simp only [hsN] at h) <;> (try simp only [h]) <;> (try simp only [hsB] at h) <;> try exact xf) | fail)); all_goals clear kxs kk1)
    all_goals first | (refine hJ (i + 1) _ _ (by omega) hil rfl rfl) | (exfalso; simp_all; done)
  · focus (have kxs := kx0; have kk1 := uN [] (hdt); (repeat' (first | (refine ADr.nil ?_; try clear hgv) | refine GO ?_ | refine AW.ret ?_ | (refine GC ?_ ?_ <;> intro h <;> (try simp only [hsB] at h) <;> try exact xf) | (refine GD ?_ ?_ <;> intro h <;> (try intro hgv) <;> (try simp only [hsN] at h) <;> (try simp only [h]) <;> (try simp only [hsB] at h) <;> try exact xf) | (refine GL ?_ ?_ <;> intro h <;> (try simp only [hsN] at h) <;> (try simp only [h]) <;> (try simp only [hsB] at h) <;> try exact xf) | fail)); all_goals clear kxs kk1)
    all_goals first | exact RetQ.fr 0 | exact RetQ.fn 0 | (exfalso; simp_all; done)
theorem msgCutsI (v : Int) (hv : 0 ≤ v ∧ v ≤ 255) (m : Mg) (hf : m.fits) (r : List UInt8) (hr : r.length ≤ 9223372036854775807) : AC Tryz.prog 4 [iv .u8 v, mgV m, sv (bs r)] [] fun x σ => x = bv true ∧ σ = [] := by
  obtain ⟨v, rfl⟩ := Int.eq_ofNat_of_zero_le hv.1
  exact msgCuts v (by omega) m hf r hr
end Go.AW
/-
  Vectors and clocks: how the laws' arguments are read.
-/
namespace Go.AW
open Go Go.Proofs Go.RowKit

section
variable {H : Type} {enc : TypeId × Value → H} {w : World}
theorem rd_en : Rd enc Tryz.prog w 165 fun xs => ∃ x : En, xs = enD x ∧ x.1.length ≤ 9223372036854775807 ∧ x.2 < 18446744073709551616 := by
  refine Rd.mono (Rd.struct (Ss := [_, _]) Tryz.underlying165 (by kernel_rfl) ⟨Rd.str Tryz.underlying9, Rd.int Tryz.underlying23, trivial⟩) fun xs h => ?_
  obtain ⟨_, _, ⟨s, rfl, hs⟩, ⟨_, _, ⟨n, rfl, hn⟩, rfl, rfl⟩, rfl⟩ := h
  have h1 := wf_u64 hn
  refine ⟨(s, n.toNat), ?_, hs, by simp only; omega⟩
  have : ((n.toNat : Nat) : Int) = n := by omega
  simp [enD, this]
theorem rd_vec : Rd enc Tryz.prog w 30 fun xs => ∃ v : Vec, xs = [.l v.length (vecD v)] ∧ v.fits := by
  refine Rd.mono (Rd.list (f := enD) Tryz.underlying30 (sz := 2) (by kernel_rfl) (by decide) rd_en) fun xs h => ?_
  obtain ⟨v, rfl, h1, h2⟩ := h
  exact ⟨v, rfl, h2, fun x hx => (h1 x hx).1, fun x hx => (h1 x hx).2⟩
end

end Go.AW
/-
  Clocks: how the laws' arguments are read.
-/
namespace Go.AW
open Go Go.Proofs Go.RowKit

section
variable {H : Type} {enc : TypeId × Value → H} {w : World}
theorem rd_ck : Rd enc Tryz.prog w 167 fun xs => ∃ k : Ck, xs = ckD k ∧ k.fits := by
  refine Rd.mono (Rd.struct (Ss := [_, _, _]) Tryz.underlying167 (by kernel_rfl) ⟨rd_vec, Rd.bool Tryz.underlying4, rd_en, trivial⟩) fun xs h => ?_
  obtain ⟨_, _, ⟨v, rfl, hv⟩, ⟨_, _, ⟨f, rfl⟩, ⟨_, _, ⟨x, rfl, hx⟩, rfl, rfl⟩, rfl⟩, rfl⟩ := h
  exact ⟨⟨v, f, x⟩, rfl, hv, hx.1, hx.2⟩
end

end Go.AW
/-
  Siblings: how the laws' arguments are read.
-/
namespace Go.AW
open Go Go.Proofs Go.RowKit

section
variable {H : Type} {enc : TypeId × Value → H} {w : World}
theorem rd_pr : Rd enc Tryz.prog w 219 fun xs => ∃ x : Pr, xs = prD x ∧ x.1.length ≤ 9223372036854775807 ∧ x.2.length ≤ 9223372036854775807 := by
  refine Rd.mono (Rd.struct (Ss := [_, _]) Tryz.underlying219 (by kernel_rfl) ⟨Rd.str Tryz.underlying9, Rd.str Tryz.underlying9, trivial⟩) fun xs h => ?_
  obtain ⟨_, _, ⟨s, rfl, hs⟩, ⟨_, _, ⟨n, rfl, hn⟩, rfl, rfl⟩, rfl⟩ := h
  exact ⟨(s, n), rfl, hs, hn⟩
theorem rd_prs : Rd enc Tryz.prog w 31 fun xs => ∃ v : Prs, xs = [.l v.length (prsD v)] ∧ v.fits := by
  refine Rd.mono (Rd.list (f := prD) Tryz.underlying31 (sz := 2) (by kernel_rfl) (by decide) rd_pr) fun xs h => ?_
  obtain ⟨v, rfl, h1, h2⟩ := h
  exact ⟨v, rfl, h2, fun x hx => (h1 x hx).1, fun x hx => (h1 x hx).2⟩
theorem rd_sb : Rd enc Tryz.prog w 169 fun xs => ∃ x : Sb, xs = sbD x ∧ x.fits := by
  refine Rd.mono (Rd.struct (Ss := [_, _, _, _]) Tryz.underlying169 (by kernel_rfl) ⟨rd_ck, rd_prs, Rd.bool Tryz.underlying4, Rd.str Tryz.underlying9, trivial⟩) fun xs h => ?_
  obtain ⟨_, _, ⟨k, rfl, hk⟩, ⟨_, _, ⟨m, rfl, hm⟩, ⟨_, _, ⟨f, rfl⟩, ⟨_, _, ⟨t, rfl, ht⟩, rfl, rfl⟩, rfl⟩, rfl⟩, rfl⟩ := h
  exact ⟨⟨k, m, f, t⟩, rfl, hk, hm, ht⟩
theorem rd_sbs : Rd enc Tryz.prog w 24 fun xs => ∃ l : List Sb, xs = [.l l.length (sbsD l)] ∧ l.length ≤ 9223372036854775807 ∧ ∀ k ∈ l, k.fits := by
  refine Rd.mono (Rd.list (f := sbD) Tryz.underlying24 (sz := 7) (by kernel_rfl) (by decide) rd_sb) fun xs h => ?_
  obtain ⟨l, rfl, h1, h2⟩ := h
  exact ⟨l, rfl, h2, h1⟩
end

end Go.AW
/-
  Objects: how the laws' arguments are read.
-/
namespace Go.AW
open Go Go.Proofs Go.RowKit

section
variable {H : Type} {enc : TypeId × Value → H} {w : World}
theorem rd_oj : Rd enc Tryz.prog w 26 fun xs => ∃ o : Oj, xs = [.s (.string ⟨o.key.toArray⟩), .l o.sibs.length (sbsD o.sibs)] ∧ o.fits := by
  refine Rd.mono (Rd.struct (Ss := [_, _]) Tryz.underlying26 (by kernel_rfl) ⟨Rd.str Tryz.underlying9, rd_sbs, trivial⟩) fun xs h => ?_
  obtain ⟨_, _, ⟨t, rfl, ht⟩, ⟨_, _, ⟨l, rfl, h1, h2⟩, rfl, rfl⟩, rfl⟩ := h
  exact ⟨⟨t, l⟩, rfl, ht, h1, h2⟩
end

end Go.AW
/-
  Old objects: how the laws' arguments are read.
-/
namespace Go.AW
open Go Go.Proofs Go.RowKit

section
variable {H : Type} {enc : TypeId × Value → H} {w : World}
theorem rd_os : Rd enc Tryz.prog w 215 fun xs => ∃ x : Os1, xs = osD x ∧ x.fits := by
  refine Rd.mono (Rd.struct (Ss := [_, _, _]) Tryz.underlying215 (by kernel_rfl) ⟨rd_vec, Rd.bool Tryz.underlying4, Rd.str Tryz.underlying9, trivial⟩) fun xs h => ?_
  obtain ⟨_, _, ⟨v, rfl, hv⟩, ⟨_, _, ⟨f, rfl⟩, ⟨_, _, ⟨t, rfl, ht⟩, rfl, rfl⟩, rfl⟩, rfl⟩ := h
  exact ⟨⟨v, f, t⟩, rfl, hv, ht⟩
theorem rd_oss : Rd enc Tryz.prog w 27 fun xs => ∃ l : List Os1, xs = [.l l.length (ossD l)] ∧ l.length ≤ 9223372036854775807 ∧ ∀ k ∈ l, k.fits := by
  refine Rd.mono (Rd.list (f := osD) Tryz.underlying27 (sz := 3) (by kernel_rfl) (by decide) rd_os) fun xs h => ?_
  obtain ⟨l, rfl, h1, h2⟩ := h
  exact ⟨l, rfl, h2, h1⟩
theorem rd_od : Rd enc Tryz.prog w 29 fun xs => ∃ o : Od, xs = [.s (.string ⟨o.key.toArray⟩), .l o.sibs.length (ossD o.sibs)] ∧ o.fits := by
  refine Rd.mono (Rd.struct (Ss := [_, _]) Tryz.underlying29 (by kernel_rfl) ⟨Rd.str Tryz.underlying9, rd_oss, trivial⟩) fun xs h => ?_
  obtain ⟨_, _, ⟨t, rfl, ht⟩, ⟨_, _, ⟨l, rfl, h1, h2⟩, rfl, rfl⟩, rfl⟩ := h
  exact ⟨⟨t, l⟩, rfl, ht, h1, h2⟩
end

end Go.AW
/-
  Rings: how the laws' arguments are read.
-/
namespace Go.AW
open Go Go.Proofs Go.RowKit

section
variable {H : Type} {enc : TypeId × Value → H} {w : World}
theorem toks_flat (l : List Nat) : (l.map fun t => [D.s (.int .u64 (t : Nat))]).flatten = toksD l := by
  induction l with
  | nil => rfl
  | cons s l ih => simp only [List.map_cons, List.flatten_cons, ih]; rfl
theorem rd_toks : Rd enc Tryz.prog w 224 fun xs => ∃ l : List Nat, xs = [.l l.length (toksD l)] ∧ l.length ≤ 9223372036854775807 ∧ ∀ t ∈ l, t < 18446744073709551616 := by
  refine Rd.mono (Rd.list (f := fun t : Nat => [D.s (.int .u64 (t : Nat))]) (ok := fun t => t < 18446744073709551616) Tryz.underlying224 (by kernel_rfl) Nat.one_pos (Rd.mono (Rd.int Tryz.underlying23) fun xs h => ?_)) fun xs h => ?_
  · obtain ⟨n, rfl, hn⟩ := h
    have h1 := wf_u64 hn
    refine ⟨n.toNat, ?_, by omega⟩
    have : ((n.toNat : Nat) : Int) = n := by omega
    rw [this]
  · obtain ⟨l, rfl, h1, h2⟩ := h
    exact ⟨l, by rw [toks_flat], h2, h1⟩
theorem rd_mb : Rd enc Tryz.prog w 226 fun xs => ∃ x : Mb, xs = mbD x ∧ x.fits ∧ x.name.length ≤ 9223372036854775807 ∧ x.toks.length ≤ 9223372036854775807 := by
  refine Rd.mono (Rd.struct (Ss := [_, _, _, _]) Tryz.underlying226 (by kernel_rfl) ⟨Rd.str Tryz.underlying9, Rd.int Tryz.underlying23, Rd.int Tryz.underlying5, rd_toks, trivial⟩) fun xs h => ?_
  obtain ⟨_, _, ⟨s, rfl, hs⟩, ⟨_, _, ⟨n, rfl, hn⟩, ⟨_, _, ⟨b, rfl, hb⟩, ⟨_, _, ⟨l, rfl, h1, h2⟩, rfl, rfl⟩, rfl⟩, rfl⟩, rfl⟩ := h
  have g1 := wf_u64 hn
  have g2 := wf_u8 hb
  refine ⟨⟨s, n.toNat, b.toNat, l⟩, ?_, ⟨by show n.toNat < _; omega, by show b.toNat < _; omega, h2⟩, hs, h1⟩
  have e1 : ((n.toNat : Nat) : Int) = n := by omega
  have e2 : ((b.toNat : Nat) : Int) = b := by omega
  simp [mbD, e1, e2]
theorem rd_ring : Rd enc Tryz.prog w 36 fun xs => ∃ l : Ring, xs = [.l l.length (ringD l)] ∧ l.fits := by
  refine Rd.mono (Rd.list (f := mbD) Tryz.underlying36 (sz := 4) (by kernel_rfl) (by decide) rd_mb) fun xs h => ?_
  obtain ⟨l, rfl, h1, h2⟩ := h
  exact ⟨l, rfl, h2, h1⟩
end
end Go.AW
/-
  Messages: how the laws' arguments are read.
-/
namespace Go.AW
open Go Go.Proofs Go.RowKit

section
variable {H : Type} {enc : TypeId × Value → H} {w : World}
theorem rd_it : Rd enc Tryz.prog w 221 fun xs => ∃ x : It, xs = itD x ∧ x.1.length ≤ 9223372036854775807 ∧ x.2.length ≤ 9223372036854775807 := by
  refine Rd.mono (Rd.struct (Ss := [_, _]) Tryz.underlying221 (by kernel_rfl) ⟨Rd.str Tryz.underlying9, Rd.str Tryz.underlying9, trivial⟩) fun xs h => ?_
  obtain ⟨_, _, ⟨s, rfl, hs⟩, ⟨_, _, ⟨n, rfl, hn⟩, rfl, rfl⟩, rfl⟩ := h
  exact ⟨(s, n), rfl, hs, hn⟩
theorem rd_sl : Rd enc Tryz.prog w 223 fun xs => ∃ x : Sl, xs = slD x ∧ x.1 < 256 ∧ x.2.length ≤ 9223372036854775807 := by
  refine Rd.mono (Rd.struct (Ss := [_, _]) Tryz.underlying223 (by kernel_rfl) ⟨Rd.int Tryz.underlying5, Rd.str Tryz.underlying9, trivial⟩) fun xs h => ?_
  obtain ⟨_, _, ⟨b, rfl, hb⟩, ⟨_, _, ⟨n, rfl, hn⟩, rfl, rfl⟩, rfl⟩ := h
  have g2 := wf_u8 hb
  refine ⟨(b.toNat, n), ?_, by show b.toNat < _; omega, hn⟩
  have e2 : ((b.toNat : Nat) : Int) = b := by omega
  simp [slD, e2]
theorem rd_its : Rd enc Tryz.prog w 33 fun xs => ∃ l : List It, xs = [.l l.length (itsD l)] ∧ l.length ≤ 9223372036854775807 ∧ ∀ x ∈ l, x.1.length ≤ 9223372036854775807 ∧ x.2.length ≤ 9223372036854775807 := by
  refine Rd.mono (Rd.list (f := itD) Tryz.underlying33 (sz := 2) (by kernel_rfl) (by decide) rd_it) fun xs h => ?_
  obtain ⟨l, rfl, h1, h2⟩ := h
  exact ⟨l, rfl, h2, h1⟩
theorem rd_sls : Rd enc Tryz.prog w 32 fun xs => ∃ l : List Sl, xs = [.l l.length (slsD l)] ∧ l.length ≤ 9223372036854775807 ∧ ∀ x ∈ l, x.1 < 256 ∧ x.2.length ≤ 9223372036854775807 := by
  refine Rd.mono (Rd.list (f := slD) Tryz.underlying32 (sz := 2) (by kernel_rfl) (by decide) rd_sl) fun xs h => ?_
  obtain ⟨l, rfl, h1, h2⟩ := h
  exact ⟨l, rfl, h2, h1⟩
theorem rd_pg : Rd enc Tryz.prog w 35 fun xs => ∃ g : Pg, xs = [.s (.string ⟨g.pre.toArray⟩), .s (.bool g.leaf), .l g.slots.length (slsD g.slots), .l g.items.length (itsD g.items)] ∧ g.fits := by
  refine Rd.mono (Rd.struct (Ss := [_, _, _, _]) Tryz.underlying35 (by kernel_rfl) ⟨Rd.str Tryz.underlying9, Rd.bool Tryz.underlying4, rd_sls, rd_its, trivial⟩) fun xs h => ?_
  obtain ⟨_, _, ⟨t, rfl, ht⟩, ⟨_, _, ⟨f, rfl⟩, ⟨_, _, ⟨l, rfl, h1, h2⟩, ⟨_, _, ⟨m, rfl, h3, h4⟩, rfl, rfl⟩, rfl⟩, rfl⟩, rfl⟩ := h
  exact ⟨⟨t, f, l, m⟩, rfl, ht, ⟨h1, h2⟩, h3, h4⟩
theorem rd_mg : Rd enc Tryz.prog w 38 fun xs => ∃ m : Mg, xs = mgD m ∧ m.fits := by
  refine Rd.mono (Rd.struct (Ss := [_, _, _, _, _, _, _, _, _, _, _, _, _, _, _]) Tryz.underlying38 (by kernel_rfl)
    ⟨Rd.int Tryz.underlying5, Rd.int Tryz.underlying23, Rd.str Tryz.underlying9, Rd.bool Tryz.underlying4, rd_oj, rd_od, rd_vec, rd_prs, Rd.bool Tryz.underlying4, Rd.str Tryz.underlying9, Rd.str Tryz.underlying9, rd_pg, rd_ring, Rd.int Tryz.underlying3, Rd.str Tryz.underlying9, trivial⟩) fun xs h => ?_
  obtain ⟨_, _, ⟨k, rfl, hk⟩, ⟨_, _, ⟨i, rfl, hi⟩, ⟨_, _, ⟨ky, rfl, hky⟩, ⟨_, _, ⟨fo, rfl⟩, ⟨_, _, ⟨o, rfl, ho⟩, ⟨_, _, ⟨q, rfl, hq⟩, ⟨_, _, ⟨cx, rfl, hcx⟩, ⟨_, _, ⟨mt, rfl, hmt⟩, ⟨_, _, ⟨dd, rfl⟩, ⟨_, _, ⟨vl, rfl, hvl⟩, ⟨_, _, ⟨px, rfl, hpx⟩, ⟨_, _, ⟨pg, rfl, hpg⟩, ⟨_, _, ⟨rg, rfl, hrg⟩, ⟨_, _, ⟨cd, rfl, hcd⟩, ⟨_, _, ⟨tx, rfl, htx⟩, rfl, rfl⟩, rfl⟩, rfl⟩, rfl⟩, rfl⟩, rfl⟩, rfl⟩, rfl⟩, rfl⟩, rfl⟩, rfl⟩, rfl⟩, rfl⟩, rfl⟩, rfl⟩ := h
  have g1 := wf_u8 hk
  have g2 := wf_u64 hi
  refine ⟨⟨k.toNat, i.toNat, ky, fo, o, q, cx, mt, dd, vl, px, pg, rg, cd, tx⟩, ?_, ⟨by show k.toNat < _; omega, by show i.toNat < _; omega, hky, ho, hq, hcx, hmt, hvl, hpx, hpg, hrg, ⟨(wf_i64 hcd).1, (wf_i64 hcd).2⟩, htx⟩⟩
  have e1 : ((k.toNat : Nat) : Int) = k := by omega
  have e2 : ((i.toNat : Nat) : Int) = i := by omega
  simp [mgD, e1, e2]
end
end Go.AW
/-
  The seat's program: what every row asks of it, once.
-/
namespace Go.AW
open Go Go.Proofs
set_option linter.unusedSimpArgs false

def chs (l : List Nat) : List Char := l.map Char.ofNat
theorem words_app (r : List Char) : ∀ w : List Nat, (w.all fun c => !(Char.ofNat c == Char.ofNat 32)) = true → wordsSigns (chs w ++ Char.ofNat 32 :: r) = chs w :: wordsSigns r
  | [], _ => rfl
  | c :: w, h => by
    simp only [List.all_cons, Bool.and_eq_true] at h
    have ih := words_app r w h.2
    have hc : Char.ofNat c ≠ Char.ofNat 32 := by simpa using h.1
    show wordsSigns (Char.ofNat c :: (chs w ++ Char.ofNat 32 :: r)) = _
    conv => lhs; unfold wordsSigns
    split
    · rename_i heq; cases heq
    · rename_i heq
      obtain ⟨h1, h2⟩ := List.cons.inj heq
      exact absurd h1 hc
    · rename_i heq
      obtain ⟨h1, h2⟩ := List.cons.inj heq
      subst h1 h2
      rw [ih]
      rfl
def headWord : List Nat := [104, 97, 114, 110, 101, 115, 115]
def headSum : List Nat := [97, 101, 102, 54, 50, 97, 56, 50, 98, 98, 52, 50, 51, 100, 52, 57, 99, 54, 99, 100, 57, 97, 99, 51, 98, 54, 57, 102, 102, 102, 51, 53, 102, 101, 49, 52, 50, 53, 50, 57, 48, 99, 48, 102, 100, 48, 52, 100, 101, 54, 53, 57, 50, 99, 48, 48, 55, 52, 102, 57, 54, 57, 49, 99]
def headCut : List Nat := [99, 117, 116]
def headRest : List Nat := [97, 116, 32, 115, 112, 101, 110, 99, 101, 47, 115, 112, 101, 110, 99, 101, 108, 97, 119, 50, 51, 46, 77, 115, 103, 68, 101, 99, 111, 100, 101, 115, 32, 115, 112, 101, 110, 99, 101, 47, 115, 112, 101, 110, 99, 101, 108, 97, 119, 50, 51, 46, 77, 115, 103, 67, 117, 116, 115, 32, 115, 112, 101, 110, 99, 101, 47, 115, 112, 101, 110, 99, 101, 108, 97, 119, 50, 52, 46, 82, 112, 99, 83, 101, 97, 108, 115, 32, 115, 112, 101, 110, 99, 101, 47, 115, 112, 101, 110, 99, 101, 108, 97, 119, 50, 51, 46, 77, 115, 103, 75, 105, 110, 100, 115, 32, 115, 112, 101, 110, 99, 101, 47, 115, 112, 101, 110, 99, 101, 108, 97, 119, 50, 51, 46, 77, 115, 103, 80, 108, 97, 105, 110, 32, 115, 112, 101, 110, 99, 101, 47, 115, 112, 101, 110, 99, 101, 108, 97, 119, 50, 51, 46, 77, 115, 103, 69, 110, 99, 111, 100, 101, 115, 32, 115, 112, 101, 110, 99, 101, 47, 115, 112, 101, 110, 99, 101, 108, 97, 119, 51, 49, 46, 80, 97, 114, 116, 115, 67, 117, 116, 32, 115, 112, 101, 110, 99, 101, 47, 115, 112, 101, 110, 99, 101, 108, 97, 119, 51, 49, 46, 80, 97, 114, 116, 115, 84, 101, 108, 108, 32, 115, 112, 101, 110, 99, 101, 47, 115, 112, 101, 110, 99, 101, 108, 97, 119, 50, 52, 46, 82, 112, 99, 82, 101, 97, 100, 115, 32, 115, 112, 101, 110, 99, 101, 47, 115, 112, 101, 110, 99, 101, 108, 97, 119, 51, 49, 46, 80, 97, 114, 116, 115, 80, 97, 121, 108, 111, 97, 100, 32, 115, 112, 101, 110, 99, 101, 47, 115, 112, 101, 110, 99, 101, 108, 97, 119, 51, 49, 46, 80, 97, 114, 116, 115, 67, 111, 118, 101, 114, 32, 115, 112, 101, 110, 99, 101, 47, 115, 112, 101, 110, 99, 101, 108, 97, 119, 50, 52, 46, 82, 112, 99, 87, 114, 105, 116, 101, 115]
def hcs : List Char := chs headWord ++ Char.ofNat 32 :: (chs headSum ++ Char.ofNat 32 :: (chs headCut ++ Char.ofNat 32 :: chs headRest))
theorem head_o : Tryz.prog.initOrder = String.ofList hcs := by kernel_rfl
theorem head_w : behindMainWord (wordsSigns Tryz.prog.initOrder.toList) = "cut".toList :: wordsSigns (chs headRest) := by
  rw [head_o, String.toList_ofList, hcs, words_app _ _ (by decide +kernel), words_app _ _ (by decide +kernel), words_app _ _ (by decide +kernel)]
  have h1 : chs headWord = "harness".toList := by decide +kernel
  have h2 : isSumSigns (chs headSum) = true := by decide +kernel
  have h3 : chs headCut = "cut".toList := by decide +kernel
  rw [h1, h3]
  unfold behindMainWord
  simp only [h2, beq_self_eq_true, Bool.true_or, Bool.true_and, if_true]
theorem head_strip (ws : List (List Char)) : stripLifts liftWords ("cut".toList :: ws) = ([], "cut".toList :: ws) := by
  have : ∀ l : List String, (l.all fun o => !("cut".toList == o.toList)) = true → stripLifts l ("cut".toList :: ws) = ([], "cut".toList :: ws) := by
    intro l
    induction l with
    | nil => intro _; rfl
    | cons o l ih =>
      intro h
      simp only [List.all_cons, Bool.and_eq_true, Bool.not_eq_true'] at h
      unfold stripLifts
      rw [if_neg (by rw [h.1]; decide)]
      exact ih h.2
  exact this _ (by decide +kernel)
theorem head_lifts : Tryz.prog.headLifts = [] := by
  unfold Program.headLifts
  rw [head_w, head_strip]
  simp
theorem head_final : Tryz.prog.liftsFinal = false := by
  unfold Program.liftsFinal
  rw [head_w, head_lifts]
  have : ((some "cut".toList == some "carried".toList) = false) := by decide +kernel
  simp only [List.head?_cons, this, Bool.false_and, Bool.false_or]
  rfl
theorem make_of {P : Program} {r : List (List Char)} (h : behindMainWord (wordsSigns P.initOrder.toList) = "cut".toList :: r) : P.make = some .cut := by
  unfold Program.make
  rw [h]
  have h1 : (("cut".toList == "gc".toList || "cut".toList == "spec".toList) = false) := by decide +kernel
  simp only [h1, Bool.false_eq_true, if_false, beq_self_eq_true, Bool.true_or, if_true]
theorem enter_of {P : Program} {r : List (List Char)} (h : behindMainWord (wordsSigns P.initOrder.toList) = "cut".toList :: r) (hl : P.laysLater = false) (hr : P.bearsReflect = false) (hd : P.doorRows = []) : P.mayEnter = true := by
  unfold Program.mayEnter
  rw [h]
  have h1 : (("cut".toList == "gc".toList || "cut".toList == "spec".toList) = false) := by decide +kernel
  have h2 : (("cut".toList == "carried".toList) = false) := by decide +kernel
  have h3 : P.doorFits [] = true := by
    unfold Program.doorFits
    rw [hd]
    rfl
  simp only [h1, h2, head_strip, hl, hr, h3, List.head?_cons, beq_self_eq_true, Bool.not_false, Bool.or_true, Bool.and_true, Bool.false_and, Bool.or_false, Bool.true_and, Bool.false_or, List.contains_nil, Bool.or_self]
theorem head_make : Tryz.prog.make = some .cut := make_of head_w
theorem head_lays : Tryz.prog.laysLater = false := by
  unfold Program.laysLater
  rw [← Array.any_toList]
  kernel_rfl
theorem head_refl : Tryz.prog.bearsReflect = false := by kernel_rfl
theorem head_rows : Tryz.prog.doorRows = [] := by kernel_rfl
theorem head_enter : Tryz.prog.mayEnter = true := enter_of head_w head_lays head_refl head_rows
theorem head_laid : laidOutB Tryz.prog = true := by kernel_rfl
theorem head_maps : mapsRowed Tryz.prog = true := by kernel_rfl
theorem head_keys : Tryz.prog.plainKeys = true := by kernel_rfl
theorem head_stops : Tryz.prog.stops = [] := by kernel_rfl
theorem head_knobs : Tryz.prog.stopKnobs = [] := by kernel_rfl
theorem head_heard : Tryz.prog.stopsHeard = true := by kernel_rfl
theorem joined_of {P : Program} {f : FuncId} {fn : Func} {s : ChangeSpec} {c : OpenClaim} (h1 : laidOutB P = true) (h2 : mapsRowed P = true) (h3 : P.stops = []) (h4 : P.stopKnobs = []) (h5 : (c.inPlace == P.inPlace f) = true) (h6 : (c.unfollowed == P.unfollowed f) = true) (h7 : (c.recurses == P.recurses f) = true) (h8 : (c.named == P.varsNamed f) = true)
    (h9 : P.stopsHeard = true) (h10 : P.mayEnter = true) (h11 : P.liftsFinal = c.lifted) (h12 : P.make = some c.make) (h13 : P.plainKeys = c.plainKeys)
    (h : (c.wf (OpenSpec.ofChange s) &&
      fn.params.all (P.readableRec ·) &&
      namedTie P c.named s.vars &&
      (c.stops == []) &&
      (c.knobs == []) &&
      (c.maps == (fn.params.toList ++ s.plain.varTypes P).any (P.mapsRec ·)) &&
      (c.ifaces == (fn.params.toList ++ s.plain.varTypes P).any (P.ifacesRec ·)) &&
      (c.mapsOut == P.mapsAmong fn.resultTypes.toList) &&
      (c.loops == (fn.params.toList ++ s.plain.varTypes P).any (P.loopsFrom ·)) &&
      (c.wideKeys == (fn.params.toList ++ s.plain.varTypes P ++ fn.resultTypes.toList).any (P.wideKeysFrom ·)) &&
      s.vars.all (P.varReadable ·) &&
      fn.resultTypes.all (fun t => P.readableRec t && decide (t < P.types.size)) &&
      (c.ifacesOut == fn.resultTypes.toList.any (P.ifacesRec ·)) &&
      (c.loopsOut == fn.resultTypes.toList.any (P.loopsFrom ·)) &&
      c.shortTexts.isNone &&
      (c.kinds == (if c.domain.isEmpty then [] else fn.params.toList.map fun t => match P.underlying t with | some (.int k) => some k | _ => none)) &&
      (c.pinned == c.pinnedBy) &&
      (c.veiled == (fn.params.toList ++ s.plain.varTypes P ++ fn.resultTypes.toList).any (P.veiledRec ·)) &&
      c.veiledFits P fn.params.toList (fn.params.toList ++ s.plain.varTypes P ++ fn.resultTypes.toList)) = true) : joinedFacts P f fn s c = true := by
  unfold joinedFacts
  simp only [Bool.and_eq_true] at h ⊢
  obtain ⟨⟨⟨⟨⟨⟨⟨⟨⟨⟨⟨⟨⟨⟨⟨⟨⟨⟨a0, a1⟩, a2⟩, a3⟩, a4⟩, a5⟩, a6⟩, a7⟩, a8⟩, a9⟩, a10⟩, a11⟩, a12⟩, a13⟩, a14⟩, a15⟩, a16⟩, a17⟩, a18⟩ := h
  exact ⟨⟨⟨⟨⟨⟨⟨⟨⟨⟨⟨⟨⟨⟨⟨⟨⟨⟨⟨⟨⟨⟨⟨⟨⟨⟨⟨⟨⟨⟨⟨a0, h1⟩, h2⟩, a1⟩, a2⟩, a3⟩, (by rw [h3]; rfl)⟩, a4⟩, (by rw [h4]; rfl)⟩, h5⟩, h6⟩, h7⟩, h8⟩, a5⟩, a6⟩, a7⟩, a8⟩, a9⟩, a10⟩, a11⟩, a12⟩, a13⟩, (by rw [h13]; exact beq_self_eq_true _)⟩, a14⟩, h9⟩, h10⟩, (by rw [h11]; exact beq_self_eq_true _)⟩, (by rw [h12]; exact beq_self_eq_true _)⟩, a15⟩, a16⟩, a17⟩, a18⟩
end Go.AW
