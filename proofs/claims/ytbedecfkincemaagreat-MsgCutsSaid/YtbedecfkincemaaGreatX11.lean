/-
  objects: what is right: the program's and the document's.
-/
import Derived.Test.YtbedecfkincemaaGreatX10
import Derived.Test.YtbedecfkincemaaGreatX04
namespace Go.AW
open Go Go.Proofs
set_option maxHeartbeats 2000000
set_option maxRecDepth 10000
set_option linter.unusedSimpArgs false
set_option linter.unusedVariables false
attribute [local irreducible] thenQ blockQ RetQ AL AW AC AOp

abbrev ojV (o : Oj) : V := .a [sv (bs o.key), .d (.l o.sibs.length (sbsD o.sibs))]
def Oj.fits (o : Oj) : Prop := o.key.length ≤ 9223372036854775807 ∧ o.sibs.length ≤ 9223372036854775807 ∧ ∀ x ∈ o.sibs, x.fits
theorem Sb.good_of {x : Sb} (h : x.check = 0) (hf : x.fits) : gsib x := ⟨h, hf.1.1.2.2, hf.1.2.2⟩
theorem Sb.key_of {x : Sb} (h : x.check = 0) (hf : x.fits) : (clke x.clk).1 = skey x := by
  rw [clke_good ⟨(Sb.check_parts h).1, hf.1.1.2.2, hf.1.2.2⟩]
theorem Sb.key_len {x : Sb} (h : gsib x) : (skey x).length ≤ 4060 := eclk_len ⟨(Sb.check_parts h.1).1, h.2.1, h.2.2⟩

theorem ref16_outside (key : List UInt8) (n : Nat) (hk : key.length ≤ 9223372036854775807) (hn : n ≤ 9223372036854775807) : AC Tryz.prog 183 [sv (bs key), iv .i64 n] [] fun x σ => x = iv .i64 (outside key n) ∧ σ = [] := by
  refine AC.walk Tryz.func183 rfl (by decide) (of_decide_eq_true rfl) ?_
  unfold outside
  have hke : key = [] ↔ key.length = 0 := List.length_eq_zero_iff.symm
  focus (have kxs := kx0; (repeat' (first | refine G ?_ | refine AW.ret ?_ | (refine GC ?_ ?_ <;> intro h <;> (try simp only [hsB] at h) <;> try exact xf) | (refine GL ?_ ?_ <;> intro h <;> (try simp only [hsN] at h) <;> (try simp only [h]) <;> (try simp only [hsB] at h) <;> try exact xf) | fail)); all_goals clear kxs)
  all_goals first
    | (rw [if_pos (by omega)]; (first | exact RetQ.zr 0 | exact RetQ.zn 0 | fail))
    | (rw [if_neg (by omega), if_pos (by first | assumption | (rw [hke]; omega))]; (first | exact RetQ.zr 0 | exact RetQ.zn 0 | fail))
    | (rw [if_neg (by omega), if_neg (by first | assumption | (rw [hke]; omega)), if_pos (by omega)]; (first | exact RetQ.zr 0 | exact RetQ.zn 0 | fail))
    | (rw [if_neg (by omega), if_neg (by first | assumption | (rw [hke]; omega)), if_neg (by omega), if_pos (by omega)]; (first | exact RetQ.zr 0 | exact RetQ.zn 0 | fail))
    | (rw [if_neg (by omega), if_neg (by first | assumption | (rw [hke]; omega)), if_neg (by omega), if_neg (by omega)]; (first | exact RetQ.zr 0 | exact RetQ.zn 0 | fail))
theorem object_clock (x : Sb) (hx : x.fits) : AC Tryz.prog 304 [sbV x] [] fun y σ => y = sv (bs (clke x.clk).1) ∧ σ = [] := by
  refine AC.walk Tryz.func304 rfl (by decide) (of_decide_eq_true rfl) ?_
  focus (have kxs := kx0; have kk1 := uN [] (dcode_Encode x.clk hx.1); (repeat' (first | refine G ?_ | refine AW.ret ?_ | (refine GC ?_ ?_ <;> intro h <;> (try simp only [hsB] at h) <;> try exact xf) | (refine GL ?_ ?_ <;> intro h <;> (try simp only [hsN] at h) <;> (try simp only [h]) <;> (try simp only [hsB] at h) <;> try exact xf) | fail)); all_goals clear kxs kk1)
  all_goals first | exact RetQ.fr 0 | exact RetQ.fn 0
theorem ref16_Clock (x : Sb) (hx : x.fits) : AC Tryz.prog 185 [sbV x] [] fun y σ => y = sv (bs (clke x.clk).1) ∧ σ = [] := by
  refine AC.walk Tryz.func185 rfl (by decide) (of_decide_eq_true rfl) ?_
  focus (have kxs := kx0; have kk1 := uN [] (ref13_Encode x.clk hx.1); (repeat' (first | refine G ?_ | refine AW.ret ?_ | (refine GC ?_ ?_ <;> intro h <;> (try simp only [hsB] at h) <;> try exact xf) | (refine GL ?_ ?_ <;> intro h <;> (try simp only [hsN] at h) <;> (try simp only [h]) <;> (try simp only [hsB] at h) <;> try exact xf) | fail)); all_goals clear kxs kk1)
  all_goals first | exact RetQ.fr 0 | exact RetQ.fn 0
theorem object_key (x : Sb) (hx : x.fits) (hc : x.check = 0) : AC Tryz.prog 304 [sbV x] [] fun y σ => y = sv (bs (skey x)) ∧ σ = [] := by
  have := object_clock x hx
  rw [Sb.key_of hc hx] at this
  exact this
theorem ref16_key (x : Sb) (hx : x.fits) (hc : x.check = 0) : AC Tryz.prog 185 [sbV x] [] fun y σ => y = sv (bs (skey x)) ∧ σ = [] := by
  have := ref16_Clock x hx
  rw [Sb.key_of hc hx] at this
  exact this

theorem jstep {last : List UInt8} {x : Sb} {r : List Sb} {R : Int} (h : jcheck last (x :: r) = R) : R = if x.check ≠ 0 then x.check else if lessB last (skey x) = false then 6 else jcheck (skey x) r := h.symm
/-- The sibling ahead of place i. -/
def sahead (l : List Sb) (i : Nat) (p : List UInt8) : Prop := (i = 0 ∧ p = []) ∨ (0 < i ∧ ∃ y r, l.drop (i - 1) = y :: r ∧ y.check = 0 ∧ skey y = p)
theorem ref16_Check (o : Oj) (ho : o.fits) : AC Tryz.prog 105 [ojV o] [] fun x σ => x = iv .i64 o.check ∧ σ = [] := by
  obtain ⟨key, l⟩ := o
  obtain ⟨hk, hl, hf⟩ := ho
  simp only at hk hl hf
  refine AC.walk Tryz.func105 rfl (by decide) (of_decide_eq_true rfl) ?_
  by_cases ho : outside key l.length = 0
  case neg =>
    have hR : Oj.check ⟨key, l⟩ = outside key l.length := by unfold Oj.check; rw [if_pos ho]
    rw [hR]
    focus (have kxs := kx0; have kk1 := uN [] (ref16_outside key l.length hk hl); (repeat' (first | (refine ADr.nil ?_; try clear hgv) | refine GO ?_ | refine AW.ret ?_ | (refine GC ?_ ?_ <;> intro h <;> (try simp only [hsB] at h) <;> try exact xf) | (refine GD ?_ ?_ <;> intro h <;> (try intro hgv) <;> (try simp only [hsN] at h) <;> (try simp only [h]) <;> (try simp only [hsB] at h) <;> try exact xf) | (refine GL ?_ ?_ <;> intro h <;> (try simp only [hsN] at h) <;> (try simp only [h]) <;> (try simp only [hsB] at h) <;> try exact xf) | fail)); all_goals clear kxs kk1)
    all_goals first | exact RetQ.fr 0 | exact RetQ.fn 0 | (exfalso; simp_all; done)
  generalize hR : jcheck [] l = R
  have hc : Oj.check ⟨key, l⟩ = R := by unfold Oj.check; rw [if_neg (by simpa using ho), hR]
  rw [hc]
  focus (have kxs := ho; have kk1 := uN [] (ref16_outside key l.length hk hl); (repeat' (first | (refine ADr.nil ?_; try clear hgv) | refine GO ?_ | refine AW.ret ?_ | (refine GC ?_ ?_ <;> intro h <;> (try simp only [hsB] at h) <;> try exact xf) | (refine GD ?_ ?_ <;> intro h <;> (try intro hgv) <;> (try simp only [hsN] at h) <;> (try simp only [h]) <;> (try simp only [hsB] at h) <;> try exact xf) | (refine GL ?_ ?_ <;> intro h <;> (try simp only [hsN] at h) <;> (try simp only [h]) <;> (try simp only [hsB] at h) <;> try exact xf) | fail)); all_goals clear kxs kk1)
  all_goals first | (exfalso; simp_all; done) | skip
  refine AW.rounds [1, 2, 4] (fun i : Nat => [(1, .p 0 0), (2, iv .i64 0), (4, iv .i64 i)]) (fun _ => [.box 26 [sv (bs key), .d (.l l.length (sbsD l))]])
    (fun i => i ≤ l.length ∧ ∃ p, sahead l i p ∧ jcheck p (l.drop i) = R) (fun i => l.length - i) 0 ⟨Nat.zero_le _, [], .inl ⟨rfl, rfl⟩, hR⟩ rfl rfl (fun _ _ => Nat.zero_le _) (fun _ _ => rfl) (fun _ _ => rfl) ?_
  rintro i ⟨hi, p, hp, hr⟩ J hJ
  by_cases hil : i < l.length
  case neg =>
    have h0 : l.drop i = [] := List.drop_eq_nil_of_le (by omega)
    rw [h0] at hr
    have hR0 : R = 0 := hr.symm
    rw [hR0]
    focus (have kxs := kx0; (repeat' (first | (refine ADr.nil ?_; try clear hgv) | refine GO ?_ | refine AW.ret ?_ | (refine GC ?_ ?_ <;> intro h <;> (try simp only [hsB] at h) <;> try exact xf) | (refine GD ?_ ?_ <;> intro h <;> (try intro hgv) <;> (try simp only [hsN] at h) <;> (try simp only [h]) <;> (try simp only [hsB] at h) <;> try exact xf) | (refine GL ?_ ?_ <;> intro h <;> (try simp only [hsN] at h) <;> (try simp only [h]) <;> (try simp only [hsB] at h) <;> try exact xf) | fail)); all_goals clear kxs)
    all_goals first | (first | exact RetQ.zr 0 | exact RetQ.zn 0 | fail) | (exfalso; simp_all; done)
  obtain ⟨x, r, hd⟩ := next_at hil
  have hcd := sbs_drop hd
  rw [hd] at hr
  have hR2 := jstep hr
  have hfx := hf x (next_mem hd)
  by_cases hxc : x.check = 0
  case neg =>
    rw [if_pos hxc] at hR2
    rw [hR2]
    focus (have kxs := hcd; have kk1 := uN [] (ref15_Check x hfx); (repeat' (first | (refine ADr.nil ?_; try clear hgv) | refine GO ?_ | refine AW.ret ?_ | (refine GC ?_ ?_ <;> intro h <;> (try simp only [hsB] at h) <;> try exact xf) | (refine GD ?_ ?_ <;> intro h <;> (try intro hgv) <;> (try simp only [hsN] at h) <;> (try simp only [h]) <;> (try simp only [hsB] at h) <;> try exact xf) | (refine GL ?_ ?_ <;> intro h <;> (try simp only [hsN] at h) <;> (try simp only [h]) <;> (try simp only [hsB] at h) <;> try exact xf) | fail)); all_goals clear kxs kk1)
    all_goals first | (first | exact RetQ.zr 0 | exact RetQ.zn 0 | fail) | (exfalso; simp_all; done)
  rw [if_neg (by simpa using hxc)] at hR2
  have hnx : sahead l (i + 1) (skey x) := .inr ⟨Nat.succ_pos i, x, r, by simpa using hd, hxc, rfl⟩
  have hnd := next_drop hd
  have hkl := Sb.key_len (Sb.good_of hxc hfx)
  rcases hp with ⟨rfl, rfl⟩ | ⟨h0, y, r', hy, hyc, rfl⟩
  · rw [if_neg (by rw [skey_first]; decide)] at hR2
    focus (have kxs := And.intro hcd hxc; have kk1 := uN [] (ref15_Check x hfx); (repeat' (first | (refine ADr.nil ?_; try clear hgv) | refine GO ?_ | refine AW.ret ?_ | (refine GC ?_ ?_ <;> intro h <;> (try simp only [hsB] at h) <;> try exact xf) | (refine GD ?_ ?_ <;> intro h <;> (try intro hgv) <;> (try simp only [hsN] at h) <;> (try simp only [h]) <;> (try simp only [hsB] at h) <;> try exact xf) | (refine GL ?_ ?_ <;> intro h <;> (try simp only [hsN] at h) <;> (try simp only [h]) <;> (try simp only [hsB] at h) <;> try exact xf) | fail)); all_goals clear kxs kk1)
    all_goals first | (refine hJ 1 _ _ (by omega) ⟨hil, _, hnx, by rw [hnd]; exact hR2.symm⟩ rfl rfl) | (exfalso; simp_all; done)
  have hcp := sbs_drop hy
  have hi1 : ((i : Int) - 1).toNat = i - 1 := by omega
  have hfy := hf y (next_mem hy)
  have hyl := Sb.key_len (Sb.good_of hyc hfy)
  by_cases hls : lessB (skey y) (skey x) = true
  · have hls' : Op.bytesLess (skey y) (skey x) = true := hls
    rw [if_neg (by rw [hls]; decide)] at hR2
    focus (have kxs := And.intro hcd (And.intro hcp (And.intro hi1 (And.intro hxc hls'))); have kk1 := uN [] (ref15_Check x hfx); have kk2 := uN [] (ref16_key x hfx hxc); have kk3 := uN [] (ref16_key y hfy hyc); have kk4 := uN [] (ref06_Below (skey y) (skey x) (by omega) (by omega)); (repeat' (first | (refine ADr.nil ?_; try clear hgv) | refine GO ?_ | refine AW.ret ?_ | (refine GC ?_ ?_ <;> intro h <;> (try simp only [hsB] at h) <;> try exact xf) | (refine GD ?_ ?_ <;> intro h <;> (try intro hgv) <;> (try simp only [hsN] at h) <;> (try simp only [h]) <;> (try simp only [hsB] at h) <;> try exact xf) | (refine GL ?_ ?_ <;> intro h <;> (try simp only [hsN] at h) <;> (try simp only [h]) <;> (try simp only [hsB] at h) <;> try exact xf) | fail)); all_goals clear kxs kk1 kk2 kk3 kk4)
    all_goals first | (refine hJ (i + 1) _ _ (by omega) ⟨hil, _, hnx, by rw [hnd]; exact hR2.symm⟩ rfl rfl) | (exfalso; simp_all; done)
  · have hls : lessB (skey y) (skey x) = false := by simpa using hls
    have hls' : Op.bytesLess (skey y) (skey x) = false := hls
    rw [if_pos hls] at hR2
    rw [hR2]
    focus (have kxs := And.intro hcd (And.intro hcp (And.intro hi1 (And.intro hxc hls'))); have kk1 := uN [] (ref15_Check x hfx); have kk2 := uN [] (ref16_key x hfx hxc); have kk3 := uN [] (ref16_key y hfy hyc); have kk4 := uN [] (ref06_Below (skey y) (skey x) (by omega) (by omega)); (repeat' (first | (refine ADr.nil ?_; try clear hgv) | refine GO ?_ | refine AW.ret ?_ | (refine GC ?_ ?_ <;> intro h <;> (try simp only [hsB] at h) <;> try exact xf) | (refine GD ?_ ?_ <;> intro h <;> (try intro hgv) <;> (try simp only [hsN] at h) <;> (try simp only [h]) <;> (try simp only [hsB] at h) <;> try exact xf) | (refine GL ?_ ?_ <;> intro h <;> (try simp only [hsN] at h) <;> (try simp only [h]) <;> (try simp only [hsB] at h) <;> try exact xf) | fail)); all_goals clear kxs kk1 kk2 kk3 kk4)
    all_goals first | (first | exact RetQ.zr 0 | exact RetQ.zn 0 | fail) | (exfalso; simp_all; done)

theorem ref16_Great (o : Oj) (ho : o.fits) : AC Tryz.prog 76 [ojV o] [] fun x σ => x = bv o.great ∧ σ = [] := by
  obtain ⟨key, l⟩ := o
  obtain ⟨hk, hl, hf⟩ := ho
  simp only at hk hl hf
  refine AC.walk Tryz.func76 rfl (by decide) (of_decide_eq_true rfl) ?_
  by_cases h0 : 200 < key.length ∨ 20 < l.length
  · have hc : Oj.great ⟨key, l⟩ = true := by unfold Oj.great; rcases h0 with h | h <;> simp [h]
    rw [hc]
    focus (have kxs := kx0; (repeat' (first | refine G ?_ | refine AW.ret ?_ | (refine GC ?_ ?_ <;> intro h <;> (try simp only [hsB] at h) <;> try exact xf) | (refine GL ?_ ?_ <;> intro h <;> (try simp only [hsN] at h) <;> (try simp only [h]) <;> (try simp only [hsB] at h) <;> try exact xf) | fail)); all_goals clear kxs)
    all_goals first | (exfalso; omega) | exact RetQ.fr 0 | exact RetQ.fn 0
  generalize hR : l.any Sb.great = R
  have hc : Oj.great ⟨key, l⟩ = R := by
    unfold Oj.great
    simp only
    rw [hR, decide_eq_false (fun h => h0 (.inl h)), decide_eq_false (fun h => h0 (.inr h))]; rfl
  rw [hc]
  focus (have kxs := kx0; (repeat' (first | refine G ?_ | refine AW.ret ?_ | (refine GC ?_ ?_ <;> intro h <;> (try simp only [hsB] at h) <;> try exact xf) | (refine GL ?_ ?_ <;> intro h <;> (try simp only [hsN] at h) <;> (try simp only [h]) <;> (try simp only [hsB] at h) <;> try exact xf) | fail)); all_goals clear kxs)
  all_goals first | (exfalso; omega) | skip
  refine AW.rounds [1, 2, 3] (fun i : Nat => [(1, .p 0 0), (2, bv false), (3, iv .i64 i)]) (fun _ => [.box 26 [sv (bs key), .d (.l l.length (sbsD l))]])
    (fun i => i ≤ l.length ∧ (l.drop i).any Sb.great = R) (fun i => l.length - i) 0 ⟨Nat.zero_le _, hR⟩ rfl rfl (fun _ _ => Nat.zero_le _) (fun _ _ => rfl) (fun _ _ => rfl) ?_
  rintro i ⟨hi, hr⟩ J hJ
  by_cases hil : i < l.length
  · obtain ⟨x, r, hd⟩ := next_at hil
    have hcd := sbs_drop hd
    have hnd := next_drop hd
    rw [hd, List.any_cons] at hr
    have hfx := hf x (next_mem hd)
    by_cases hg : x.great = true
    · rw [hg, Bool.true_or] at hr
      rw [← hr]
      focus (have kxs := And.intro hcd hg; have kk1 := uN [] (ref15_Great x hfx); (repeat' (first | refine G ?_ | refine AW.ret ?_ | (refine GC ?_ ?_ <;> intro h <;> (try simp only [hsB] at h) <;> try exact xf) | (refine GL ?_ ?_ <;> intro h <;> (try simp only [hsN] at h) <;> (try simp only [h]) <;> (try simp only [hsB] at h) <;> try exact xf) | fail)); all_goals clear kxs kk1)
      all_goals first | exact RetQ.fr 0 | exact RetQ.fn 0 | (exfalso; simp_all; done)
    have hg : x.great = false := by simpa using hg
    rw [hg, Bool.false_or] at hr
    focus (have kxs := And.intro hcd hg; have kk1 := uN [] (ref15_Great x hfx); (repeat' (first | refine G ?_ | refine AW.ret ?_ | (refine GC ?_ ?_ <;> intro h <;> (try simp only [hsB] at h) <;> try exact xf) | (refine GL ?_ ?_ <;> intro h <;> (try simp only [hsN] at h) <;> (try simp only [h]) <;> (try simp only [hsB] at h) <;> try exact xf) | fail)); all_goals clear kxs kk1)
    all_goals first | (refine hJ (i + 1) _ _ (by omega) ⟨hil, by rw [hnd]; exact hr⟩ rfl rfl) | (exfalso; simp_all; done)
  · have h0 : l.drop i = [] := List.drop_eq_nil_of_le (by omega)
    rw [h0] at hr
    have hR0 : R = false := hr.symm
    rw [hR0]
    focus (have kxs := kx0; (repeat' (first | refine G ?_ | refine AW.ret ?_ | (refine GC ?_ ?_ <;> intro h <;> (try simp only [hsB] at h) <;> try exact xf) | (refine GL ?_ ?_ <;> intro h <;> (try simp only [hsN] at h) <;> (try simp only [h]) <;> (try simp only [hsB] at h) <;> try exact xf) | fail)); all_goals clear kxs)
    all_goals first | exact RetQ.fr 0 | exact RetQ.fn 0

theorem oj_eq (k o : Oj) : (decide (k.key = o.key) && decide (k.sibs = o.sibs)) = true ↔ k = o := by
  obtain ⟨a, b⟩ := k
  obtain ⟨d, e⟩ := o
  simp
instance : DecidableEq Oj := fun k o => decidable_of_iff _ (oj_eq k o)
end Go.AW
/-
  Plain: rings: how they are read and written.
-/
namespace Go.AW
set_option linter.unusedVariables false

/-- A member: name, epoch, state, tokens. -/
structure Mb where
  name : List UInt8
  ep : Nat
  st : Nat
  toks : List Nat
abbrev Ring := List Mb

/-! ### Numbers of eight bytes -/

def val8 (l : List UInt8) : Nat := l.foldl (fun n b => n * 256 + b.toNat) 0
def enc8 (n : Nat) : List UInt8 := [UInt8.ofNat (n / 72057594037927936), UInt8.ofNat (n / 281474976710656), UInt8.ofNat (n / 1099511627776), UInt8.ofNat (n / 4294967296), UInt8.ofNat (n / 16777216), UInt8.ofNat (n / 65536), UInt8.ofNat (n / 256), UInt8.ofNat n]
theorem val8_enc8 {n : Nat} (h : n < 18446744073709551616) : val8 (enc8 n) = n := by
  simp only [val8, enc8, List.foldl_cons, List.foldl_nil, UInt8.toNat_ofNat']
  omega
theorem enc8_val8 {l : List UInt8} (h : l.length = 8) : enc8 (val8 l) = l ∧ val8 l < 18446744073709551616 := by
  match l, h with
  | [a, b, c, d, e, f, g, k], _ =>
    have := a.toNat_lt; have := b.toNat_lt; have := c.toNat_lt; have := d.toNat_lt
    have := e.toNat_lt; have := f.toNat_lt; have := g.toNat_lt; have := k.toNat_lt
    simp only [val8, enc8, List.foldl_cons, List.foldl_nil]
    refine ⟨?_, by omega⟩
    simp only [List.cons.injEq, ← UInt8.toNat_inj, UInt8.toNat_ofNat', and_true]
    refine ⟨by omega, by omega, by omega, by omega, by omega, by omega, by omega, by omega⟩
def Cu.num8 (c : Cu) : Nat × Cu := (val8 (c.bytes 8).1, (c.bytes 8).2)
theorem Cu.num8_ok {c : Cu} (h : c.Ok) : c.num8.2.Ok := Cu.bytes_ok h
theorem trip_num8 : Trip Cu.num8 enc8 (· < 18446744073709551616) where
  stuck := fun c hc => (trip_bytes 8).stuck c hc
  text := fun c => (trip_bytes 8).text c
  fore := fun c x r hx hc ha hd => by
    have := (trip_bytes 8).fore c (enc8 x) r rfl hc ha hd
    have h2 : Cu.bytes c 8 = (enc8 x, ⟨c.s, c.a + (enc8 x).length, 0⟩) := this
    unfold Cu.num8
    rw [h2]
    simp only
    rw [val8_enc8 hx]
  back := fun c he => by
    obtain ⟨g1, g2, g3⟩ := (trip_bytes 8).back c he
    have g1 : (Cu.bytes c 8).1.length = 8 := g1
    obtain ⟨k1, k2⟩ := enc8_val8 g1
    refine ⟨k2, ?_, ?_⟩
    · show (Cu.bytes c 8).2.a = c.a + (enc8 (val8 (Cu.bytes c 8).1)).length
      rw [k1]; exact g2
    · show c.s.drop c.a = enc8 (val8 (Cu.bytes c 8).1) ++ c.s.drop (Cu.bytes c 8).2.a
      rw [k1]; exact g3
  cut := fun c x r hx hc ha hd hr => (trip_bytes 8).cut c (enc8 x) r rfl hc ha hd hr

/-! ### Tokens -/

def after (p : Option Nat) (t : Nat) : Bool := match p with | none => true | some q => decide (q < t)
def rises : Option Nat → List Nat → Bool
  | _, [] => true
  | p, t :: r => after p t && rises (some t) r
def Cu.tok (p : Option Nat) (c : Cu) : Nat × Cu := (c.num8.1, gd (after p c.num8.1) 6 c.num8.2)
def Cu.toks (n : Nat) (p : Option Nat) (c : Cu) : List Nat × Cu := Cu.many Cu.tok (fun _ t => some t) n p c
def Cu.tokl (c : Cu) : List Nat × Cu := ((c.count 16).2.toks (c.count 16).1 none)
def etoks (l : List Nat) : List UInt8 := vput l.length ++ (l.map enc8).flatten
def gtok (p : Option Nat) (t : Nat) : Prop := t < 18446744073709551616 ∧ after p t = true
theorem trip_tok (p : Option Nat) : Trip (Cu.tok p) enc8 (gtok p) := Trip.guard trip_num8 (fun t => after p t) (by decide)
theorem toks_goods : ∀ (l : List Nat) (p : Option Nat), (goods gtok (fun _ t => some t) p l ↔ rises p l = true ∧ ∀ t ∈ l, t < 18446744073709551616)
  | [], p => by simp [goods, rises]
  | t :: l, p => by
    have ih := toks_goods l (some t)
    unfold goods rises
    rw [ih]
    unfold gtok
    simp only [Bool.and_eq_true, List.mem_cons, forall_eq_or_imp]
    constructor
    · rintro ⟨⟨h1, h2⟩, h3, h4⟩; exact ⟨⟨h2, h3⟩, h1, h4⟩
    · rintro ⟨⟨h2, h3⟩, h1, h4⟩; exact ⟨⟨h1, h2⟩, h3, h4⟩
def gtoks (l : List Nat) : Prop := l.length ≤ 16 ∧ rises none l = true ∧ ∀ t ∈ l, t < 18446744073709551616
theorem trip_tokl : Trip Cu.tokl etoks gtoks := by
  have hm := fun n => trip_many (R := Cu.tok) (next := fun _ t => some t) trip_tok n none
  refine Trip.iff (Trip.bind (S := fun n c => Cu.toks n none c) (trip_count 16) (fun n _ => hm n) (fun n c h => (hm n).stuck c h) (fun n c => (hm n).text c) (key := List.length) (enc := etoks)
    (good := fun v => (v.length ≤ (16 : Int).toNat ∧ v.length < 18446744073709551616) ∧ v.length = v.length ∧ goods gtok (fun _ t => some t) none v) (fun b => rfl) (fun b => Iff.rfl) (fun a b _ h => h.1)) fun v => ?_
  rw [toks_goods]
  unfold gtoks
  simp only [Int.reduceToNat]
  exact ⟨fun h => ⟨h.1.1, h.2.2⟩, fun h => ⟨⟨h.1, by omega⟩, trivial, h.2⟩⟩
theorem Cu.tok_ok {c : Cu} {p : Option Nat} (h : c.Ok) : (c.tok p).2.Ok := gd_ok (Cu.num8_ok h)
theorem Cu.tokl_ok {c : Cu} (h : c.Ok) : c.tokl.2.Ok := Cu.many_ok (fun _ _ h => Cu.tok_ok h) _ _ _ (Cu.count_ok h)

/-! ### Members -/

def Cu.stt (c : Cu) : Nat × Cu := (c.byte.1, gd (decide (c.byte.1 ≤ 3)) 13 c.byte.2)
def estt (n : Nat) : List UInt8 := [UInt8.ofNat n]
theorem trip_stt : Trip Cu.stt estt (fun n => n ≤ 3) := by
  have hb : ∀ c, Cu.byte c = (((Cu.bytes c 1).1.getD 0 0).toNat, (Cu.bytes c 1).2) := fun c => by unfold Cu.byte; rfl
  have h0 : Trip Cu.byte estt (fun n => n < 256) := {
    stuck := fun c hc => by rw [hb]; exact (trip_bytes 1).stuck c hc
    text := fun c => by rw [hb]; exact (trip_bytes 1).text c
    fore := fun c x r hx hc ha hd => by
      have h2 : Cu.bytes c 1 = _ := (trip_bytes 1).fore c (estt x) r rfl hc ha hd
      rw [hb, h2]
      simp only [estt, List.getD_cons_zero, u8_ofNat hx]
      rfl
    back := fun c he => by
      rw [hb] at he ⊢
      obtain ⟨g1, g2, g3⟩ := (trip_bytes 1).back c he
      have g1 : (Cu.bytes c 1).1.length = 1 := g1
      have g2 : (Cu.bytes c 1).2.a = c.a + (Cu.bytes c 1).1.length := g2
      have g3 : c.s.drop c.a = (Cu.bytes c 1).1 ++ c.s.drop (Cu.bytes c 1).2.a := g3
      generalize Cu.bytes c 1 = z at *
      obtain ⟨b, hz⟩ := List.length_eq_one_iff.1 g1
      rw [hz] at g2 g3 ⊢
      have e : estt (([b] : List UInt8).getD 0 0).toNat = [b] := by
        simp only [List.getD_cons_zero, estt, UInt8.ofNat_toNat]
      simp only
      rw [e]
      exact ⟨b.toNat_lt, g2, g3⟩
    cut := fun c x r hx hc ha hd hr => by rw [hb]; exact (trip_bytes 1).cut c (estt x) r rfl hc ha hd hr }
  refine Trip.iff (Trip.guard h0 (fun n => decide (n ≤ 3)) (by decide)) fun n => ?_
  simp only [decide_eq_true_eq]
  omega
def Cu.mem0 (p : List UInt8) (c : Cu) : (List UInt8 × (Nat × (Nat × List Nat))) × Cu := rseq (Cu.actor 32 p) (fun _ => rseq Cu.vnz (fun _ => rseq Cu.stt (fun _ c => Cu.tokl c))) c
def Cu.mem (p : List UInt8) (c : Cu) : Mb × Cu := (⟨(c.mem0 p).1.1, (c.mem0 p).1.2.1, (c.mem0 p).1.2.2.1, (c.mem0 p).1.2.2.2⟩, (c.mem0 p).2)
def emem (x : Mb) : List UInt8 := eblob x.name ++ (vput x.ep ++ (estt x.st ++ etoks x.toks))
def gmem (p : List UInt8) (x : Mb) : Prop := (x.name.length ≤ 32 ∧ x.name ≠ [] ∧ lessB p x.name = true) ∧ (x.ep ≠ 0 ∧ x.ep < 18446744073709551616) ∧ x.st ≤ 3 ∧ gtoks x.toks
theorem trip_mem (p : List UInt8) : Trip (Cu.mem p) emem (gmem p) := by
  have h1 : Trip (rseq Cu.stt (fun _ c => Cu.tokl c)) _ _ := Trip.seq trip_stt (fun _ _ => trip_tokl) (fun _ c => trip_tokl.stuck c) (fun _ => trip_tokl.text)
  have h2 : Trip (rseq Cu.vnz (fun _ => rseq Cu.stt (fun _ c => Cu.tokl c))) _ _ := Trip.seq trip_vnz (fun _ _ => h1) (fun _ c => h1.stuck c) (fun _ => h1.text)
  have h3 : Trip (Cu.mem0 p) _ _ := Trip.seq (trip_actor 32 p) (fun _ _ => h2) (fun _ c => h2.stuck c) (fun _ => h2.text)
  refine Trip.iff (Trip.map h3 (fun x => (⟨x.1, x.2.1, x.2.2.1, x.2.2.2⟩ : Mb)) (fun k => (k.name, (k.ep, (k.st, k.toks)))) (fun _ => rfl) (fun _ => rfl)) fun x => ?_
  simp only [gmem, Int.reduceToNat, decide_eq_true_eq]
  constructor
  · rintro ⟨⟨⟨⟨h1, h2⟩, h3⟩, h4⟩, ⟨h5, h6⟩, h7, h8⟩
    exact ⟨⟨h1, h3, h4⟩, ⟨h6, h5⟩, h7, h8⟩
  · rintro ⟨⟨h1, h3, h4⟩, ⟨h6, h5⟩, h7, h8⟩
    exact ⟨⟨⟨⟨h1, by omega⟩, h3⟩, h4⟩, ⟨h5, h6⟩, h7, h8⟩
theorem Cu.stt_ok {c : Cu} (h : c.Ok) : c.stt.2.Ok := gd_ok (Cu.byte_ok h)
theorem Cu.mem_ok {c : Cu} {p : List UInt8} (h : c.Ok) : (c.mem p).2.Ok := Cu.tokl_ok (Cu.stt_ok (Cu.vnz_ok (Cu.actor_ok h)))

/-! ### Rings -/

def mcheck : List UInt8 → Ring → Int
  | _, [] => 0
  | p, x :: r => if 32 < x.name.length then 3 else if x.name = [] then 14 else if lessB p x.name = false then 6 else if x.ep = 0 then 7 else if 3 < x.st then 13 else if 16 < x.toks.length then 3 else if rises none x.toks = false then 6 else mcheck x.name r
def Ring.check (l : Ring) : Int := if 32 < l.length then 3 else mcheck [] l
def Ring.great (l : Ring) : Bool := decide (40 < l.length) || l.any fun x => decide (100 < x.name.length) || decide (30 < x.toks.length)
/-- Numbers that fit. -/
def Mb.fits (x : Mb) : Prop := x.ep < 18446744073709551616 ∧ x.st < 256 ∧ ∀ t ∈ x.toks, t < 18446744073709551616
def gring (l : Ring) : Prop := Ring.check l = 0 ∧ ∀ x ∈ l, x.fits
def Cu.mems (n : Nat) (p : List UInt8) (c : Cu) : Ring × Cu := Cu.many Cu.mem (fun _ x => x.name) n p c
def Cu.ring (c : Cu) : Ring × Cu :=
  (if ((c.count 32).2.mems (c.count 32).1 []).2.e ≠ 0 then [] else ((c.count 32).2.mems (c.count 32).1 []).1, ((c.count 32).2.mems (c.count 32).1 []).2)
def ering (l : Ring) : List UInt8 := vput l.length ++ (l.map emem).flatten
theorem mcheck_goods : ∀ (l : Ring) (p : List UInt8), (goods gmem (fun _ x => x.name) p l ↔ mcheck p l = 0 ∧ ∀ x ∈ l, x.fits)
  | [], p => by simp [goods, mcheck]
  | x :: l, p => by
    have ih := mcheck_goods l x.name
    unfold goods mcheck
    rw [ih]
    unfold gmem gtoks
    by_cases h1 : 32 < x.name.length
    · rw [if_pos h1]; exact ⟨fun h => absurd h.1.1.1 (by omega), fun h => absurd h.1 (by decide)⟩
    rw [if_neg h1]
    by_cases h2 : x.name = []
    · rw [if_pos h2]; exact ⟨fun h => absurd h2 h.1.1.2.1, fun h => absurd h.1 (by decide)⟩
    rw [if_neg h2]
    cases h3 : lessB p x.name with
    | false => simp
    | true =>
      rw [if_neg (by decide)]
      by_cases h4 : x.ep = 0
      · rw [if_pos h4]; exact ⟨fun h => absurd h4 h.1.2.1.1, fun h => absurd h.1 (by decide)⟩
      rw [if_neg h4]
      by_cases h5 : 3 < x.st
      · rw [if_pos h5]; exact ⟨fun h => absurd h.1.2.2.1 (by omega), fun h => absurd h.1 (by decide)⟩
      rw [if_neg h5]
      by_cases h6 : 16 < x.toks.length
      · rw [if_pos h6]; exact ⟨fun h => absurd h.1.2.2.2.1 (by omega), fun h => absurd h.1 (by decide)⟩
      rw [if_neg h6]
      cases h7 : rises none x.toks with
      | false => simp
      | true =>
        rw [if_neg (by decide)]
        simp only [List.mem_cons, forall_eq_or_imp, Mb.fits]
        constructor
        · rintro ⟨⟨_, ⟨_, g1⟩, _, _, _, g2⟩, g3, g4⟩; exact ⟨g3, ⟨g1, by omega, g2⟩, g4⟩
        · rintro ⟨g3, ⟨g1, _, g2⟩, g4⟩; exact ⟨⟨⟨by omega, h2, trivial⟩, ⟨h4, g1⟩, by omega, by omega, trivial, g2⟩, g3, g4⟩
theorem trip_ring : Trip Cu.ring ering gring := by
  have hm := fun n => trip_many (R := Cu.mem) (next := fun _ x => x.name) trip_mem n []
  have hS : ∀ n : Nat, Trip (fun c => (if (Cu.mems n [] c).2.e ≠ 0 then [] else (Cu.mems n [] c).1, (Cu.mems n [] c).2)) (fun l => (l.map emem).flatten) (fun l => l.length = n ∧ goods gmem (fun _ x => x.name) [] l) := fun n => Trip.dflt (hm n) []
  refine Trip.iff (Trip.bind (trip_count 32) (fun n _ => hS n) (fun n c h => (hS n).stuck c h) (fun n c => (hS n).text c) (key := List.length) (enc := ering) (good := fun v => (v.length ≤ (32 : Int).toNat ∧ v.length < 18446744073709551616) ∧ v.length = v.length ∧ goods gmem (fun _ x => x.name) [] v) (fun b => rfl) (fun b => Iff.rfl) (fun a b _ h => h.1)) fun v => ?_
  rw [mcheck_goods]
  unfold gring Ring.check
  simp only [Int.reduceToNat]
  constructor
  · rintro ⟨h1, _, h2, h3⟩
    rw [if_neg (by omega)]
    exact ⟨h2, h3⟩
  · rintro ⟨h1, h2⟩
    by_cases h3 : 32 < v.length
    · rw [if_pos h3] at h1; exact absurd h1 (by decide)
    · rw [if_neg h3] at h1
      exact ⟨⟨by omega, by omega⟩, trivial, h1, h2⟩
theorem Cu.ring_ok {c : Cu} (h : c.Ok) : c.ring.2.Ok := Cu.many_ok (fun k c h => Cu.mem_ok h) _ _ _ (Cu.count_ok h)
/-- What a text is read as; a ring's bytes. -/
abbrev ringw (s : List UInt8) : Ring × Int := rdw Cu.ring [] s
def ringe (l : Ring) : List UInt8 × Int := if Ring.check l ≠ 0 then ([], Ring.check l) else (ering l, 0)
theorem mcheck_parts : ∀ (l : Ring) (p : List UInt8), mcheck p l = 0 → ∀ x ∈ l, x.name.length ≤ 32 ∧ x.name ≠ [] ∧ x.ep ≠ 0 ∧ x.st ≤ 3 ∧ x.toks.length ≤ 16 ∧ rises none x.toks = true
  | [], p, h => by simp
  | x :: l, p, h => by
    unfold mcheck at h
    split at h
    · exact absurd h (by decide)
    split at h
    · exact absurd h (by decide)
    split at h
    · exact absurd h (by decide)
    split at h
    · exact absurd h (by decide)
    split at h
    · exact absurd h (by decide)
    split at h
    · exact absurd h (by decide)
    split at h
    · exact absurd h (by decide)
    rename_i a1 a2 a3 a4 a5 a6 a7
    intro y hy
    rcases List.mem_cons.1 hy with rfl | hy
    · exact ⟨by omega, a2, a4, by omega, by omega, by simpa using a7⟩
    · exact mcheck_parts l x.name h y hy
theorem Ring.check_parts {l : Ring} (h : Ring.check l = 0) : l.length ≤ 32 ∧ ∀ x ∈ l, x.name.length ≤ 32 ∧ x.name ≠ [] ∧ x.ep ≠ 0 ∧ x.st ≤ 3 ∧ x.toks.length ≤ 16 ∧ rises none x.toks = true := by
  unfold Ring.check at h
  split at h
  · exact absurd h (by decide)
  · exact ⟨by omega, mcheck_parts l [] h⟩
theorem enc8_flat : ∀ l : List Nat, ((l.map enc8).flatten).length = l.length * 8
  | [] => rfl
  | t :: l => by
    rw [List.map_cons, List.flatten_cons, List.length_append, enc8_flat l, List.length_cons]
    show 8 + _ = _
    omega
theorem emem_len {x : Mb} (h1 : x.name.length ≤ 32) (h2 : x.ep < 18446744073709551616) (h3 : x.toks.length ≤ 16) : (emem x).length ≤ 191 := by
  have e1 := vput_len10 (n := x.name.length) (by omega)
  have e2 := vput_len10 h2
  have e3 := vput_len10 (n := x.toks.length) (by omega)
  unfold emem eblob estt etoks
  simp only [List.length_append, List.length_cons, List.length_nil, enc8_flat]
  omega
theorem ering_len {l : Ring} (h : gring l) : (ering l).length ≤ 7000 := by
  obtain ⟨h1, h2⟩ := Ring.check_parts h.1
  have hb := flat_bound emem 191 l fun x hx => emem_len (h2 x hx).1 (h.2 x hx).1 (h2 x hx).2.2.2.2.1
  have : l.length * 191 ≤ 32 * 191 := Nat.mul_le_mul h1 (by decide)
  have e1 := vput_len10 (n := l.length) (by omega)
  unfold ering
  rw [List.length_append]
  omega
end Go.AW
