/-
  objects: what is right: the program's and the document's.
-/
import Derived.Test.YtbjdiepceokmkaaSib5
namespace Go.AW
open Go Go.Proofs
set_option maxHeartbeats 2000000
set_option maxRecDepth 10000
set_option linter.unusedSimpArgs false
set_option linter.unusedVariables false
attribute [local irreducible] thenQ blockQ RetQ AL AW AC AOp

abbrev ojV (o : Oj) : V := .a [sv (bs o.key), .d (.l o.sibs.length (sbsD o.sibs))]
def Oj.fits (o : Oj) : Prop := o.key.length ≤ 9223372036854775807 ∧ o.sibs.length ≤ 9223372036854775807 ∧ ∀ x ∈ o.sibs, x.fits
theorem Sb.good_of {x : Sb} (h : x.check = 0) (hf : x.fits) : gsib x := ⟨h, hf.1.1.2.2, hf.1.2.2⟩
theorem Sb.key_of {x : Sb} (h : x.check = 0) (hf : x.fits) : (clke x.clk).1 = skey x := by
  rw [clke_good ⟨(Sb.check_parts h).1, hf.1.1.2.2, hf.1.2.2⟩]
theorem Sb.key_len {x : Sb} (h : gsib x) : (skey x).length ≤ 4060 := eclk_len ⟨(Sb.check_parts h.1).1, h.2.1, h.2.2⟩

theorem object_outside (key : List UInt8) (n : Nat) (hk : key.length ≤ 9223372036854775807) (hn : n ≤ 9223372036854775807) : AC Try.prog 78 [sv (bs key), iv .i64 n] [] fun x σ => x = iv .i64 (outside key n) ∧ σ = [] := by
  refine AC.walk Try.func78 rfl (by decide) (of_decide_eq_true rfl) ?_
  unfold outside
  have hke : key = [] ↔ key.length = 0 := List.length_eq_zero_iff.symm
  focus (have kxs : 987654321 = 987654320 + 1 := rfl; (repeat' (first | refine G ?_ | refine AW.ret ?_ | (refine GC ?_ ?_ <;> intro h <;> (try simp only [hsB] at h) <;> try (exfalso; first | omega | contradiction)) | (refine GL ?_ ?_ <;> intro h <;> (try simp only [Bool.not_true, Bool.not_false] at h) <;> (try simp only [h]) <;> (try simp only [hsB] at h) <;> try (exfalso; first | omega | contradiction)) | fail)); all_goals clear kxs)
  all_goals first
    | (rw [if_pos (by omega)]; (first | exact RetQ.zr 0 | exact RetQ.zn 0 | fail))
    | (rw [if_neg (by omega), if_pos (by first | assumption | (rw [hke]; omega))]; (first | exact RetQ.zr 0 | exact RetQ.zn 0 | fail))
    | (rw [if_neg (by omega), if_neg (by first | assumption | (rw [hke]; omega)), if_pos (by omega)]; (first | exact RetQ.zr 0 | exact RetQ.zn 0 | fail))
    | (rw [if_neg (by omega), if_neg (by first | assumption | (rw [hke]; omega)), if_neg (by omega), if_pos (by omega)]; (first | exact RetQ.zr 0 | exact RetQ.zn 0 | fail))
    | (rw [if_neg (by omega), if_neg (by first | assumption | (rw [hke]; omega)), if_neg (by omega), if_neg (by omega)]; (first | exact RetQ.zr 0 | exact RetQ.zn 0 | fail))
theorem ref16_outside (key : List UInt8) (n : Nat) (hk : key.length ≤ 9223372036854775807) (hn : n ≤ 9223372036854775807) : AC Try.prog 83 [sv (bs key), iv .i64 n] [] fun x σ => x = iv .i64 (outside key n) ∧ σ = [] := by
  refine AC.walk Try.func83 rfl (by decide) (of_decide_eq_true rfl) ?_
  unfold outside
  have hke : key = [] ↔ key.length = 0 := List.length_eq_zero_iff.symm
  focus (have kxs : 987654321 = 987654320 + 1 := rfl; (repeat' (first | refine G ?_ | refine AW.ret ?_ | (refine GC ?_ ?_ <;> intro h <;> (try simp only [hsB] at h) <;> try (exfalso; first | omega | contradiction)) | (refine GL ?_ ?_ <;> intro h <;> (try simp only [Bool.not_true, Bool.not_false] at h) <;> (try simp only [h]) <;> (try simp only [hsB] at h) <;> try (exfalso; first | omega | contradiction)) | fail)); all_goals clear kxs)
  all_goals first
    | (rw [if_pos (by omega)]; (first | exact RetQ.zr 0 | exact RetQ.zn 0 | fail))
    | (rw [if_neg (by omega), if_pos (by first | assumption | (rw [hke]; omega))]; (first | exact RetQ.zr 0 | exact RetQ.zn 0 | fail))
    | (rw [if_neg (by omega), if_neg (by first | assumption | (rw [hke]; omega)), if_pos (by omega)]; (first | exact RetQ.zr 0 | exact RetQ.zn 0 | fail))
    | (rw [if_neg (by omega), if_neg (by first | assumption | (rw [hke]; omega)), if_neg (by omega), if_pos (by omega)]; (first | exact RetQ.zr 0 | exact RetQ.zn 0 | fail))
    | (rw [if_neg (by omega), if_neg (by first | assumption | (rw [hke]; omega)), if_neg (by omega), if_neg (by omega)]; (first | exact RetQ.zr 0 | exact RetQ.zn 0 | fail))
theorem object_clock (x : Sb) (hx : x.fits) : AC Try.prog 82 [sbV x] [] fun y σ => y = sv (bs (clke x.clk).1) ∧ σ = [] := by
  refine AC.walk Try.func82 rfl (by decide) (of_decide_eq_true rfl) ?_
  focus (have kxs : 987654321 = 987654320 + 1 := rfl; have kk1 := uN [] (dcode_Encode x.clk hx.1); (repeat' (first | refine G ?_ | refine AW.ret ?_ | (refine GC ?_ ?_ <;> intro h <;> (try simp only [hsB] at h) <;> try (exfalso; first | omega | contradiction)) | (refine GL ?_ ?_ <;> intro h <;> (try simp only [Bool.not_true, Bool.not_false] at h) <;> (try simp only [h]) <;> (try simp only [hsB] at h) <;> try (exfalso; first | omega | contradiction)) | fail)); all_goals clear kxs kk1)
  all_goals first | ((all_goals first | exact RetQ.fr 0 | exact RetQ.fn 0 | fail); done)
theorem ref16_Clock (x : Sb) (hx : x.fits) : AC Try.prog 85 [sbV x] [] fun y σ => y = sv (bs (clke x.clk).1) ∧ σ = [] := by
  refine AC.walk Try.func85 rfl (by decide) (of_decide_eq_true rfl) ?_
  focus (have kxs : 987654321 = 987654320 + 1 := rfl; have kk1 := uN [] (ref13_Encode x.clk hx.1); (repeat' (first | refine G ?_ | refine AW.ret ?_ | (refine GC ?_ ?_ <;> intro h <;> (try simp only [hsB] at h) <;> try (exfalso; first | omega | contradiction)) | (refine GL ?_ ?_ <;> intro h <;> (try simp only [Bool.not_true, Bool.not_false] at h) <;> (try simp only [h]) <;> (try simp only [hsB] at h) <;> try (exfalso; first | omega | contradiction)) | fail)); all_goals clear kxs kk1)
  all_goals first | ((all_goals first | exact RetQ.fr 0 | exact RetQ.fn 0 | fail); done)
theorem object_key (x : Sb) (hx : x.fits) (hc : x.check = 0) : AC Try.prog 82 [sbV x] [] fun y σ => y = sv (bs (skey x)) ∧ σ = [] := by
  have := object_clock x hx
  rw [Sb.key_of hc hx] at this
  exact this
theorem ref16_key (x : Sb) (hx : x.fits) (hc : x.check = 0) : AC Try.prog 85 [sbV x] [] fun y σ => y = sv (bs (skey x)) ∧ σ = [] := by
  have := ref16_Clock x hx
  rw [Sb.key_of hc hx] at this
  exact this

theorem jstep {last : List UInt8} {x : Sb} {r : List Sb} {R : Int} (h : jcheck last (x :: r) = R) : R = if x.check ≠ 0 then x.check else if lessB last (skey x) = false then 6 else jcheck (skey x) r := h.symm
theorem object_Check (o : Oj) (ho : o.fits) : AC Try.prog 39 [ojV o] [] fun x σ => x = iv .i64 o.check ∧ σ = [] := by
  obtain ⟨key, l⟩ := o
  obtain ⟨hk, hl, hf⟩ := ho
  simp only at hk hl hf
  refine AC.walk Try.func39 rfl (by decide) (of_decide_eq_true rfl) ?_
  by_cases ho : outside key l.length = 0
  case neg =>
    have hR : Oj.check ⟨key, l⟩ = outside key l.length := by unfold Oj.check; rw [if_pos ho]
    rw [hR]
    focus (have kxs : 987654321 = 987654320 + 1 := rfl; have kk1 := uN [] (object_outside key l.length hk hl); (repeat' (first | refine G ?_ | refine AW.ret ?_ | (refine GC ?_ ?_ <;> intro h <;> (try simp only [hsB] at h) <;> try (exfalso; first | omega | contradiction)) | (refine GL ?_ ?_ <;> intro h <;> (try simp only [Bool.not_true, Bool.not_false] at h) <;> (try simp only [h]) <;> (try simp only [hsB] at h) <;> try (exfalso; first | omega | contradiction)) | fail)); all_goals clear kxs kk1)
    all_goals first | ((all_goals first | exact RetQ.fr 0 | exact RetQ.fn 0 | fail); done) | (exfalso; simp_all; done)
  generalize hR : jcheck [] l = R
  have hc : Oj.check ⟨key, l⟩ = R := by unfold Oj.check; rw [if_neg (by simpa using ho), hR]
  rw [hc]
  focus (have kxs := ho; have kk1 := uN [] (object_outside key l.length hk hl); (repeat' (first | refine G ?_ | refine AW.ret ?_ | (refine GC ?_ ?_ <;> intro h <;> (try simp only [hsB] at h) <;> try (exfalso; first | omega | contradiction)) | (refine GL ?_ ?_ <;> intro h <;> (try simp only [Bool.not_true, Bool.not_false] at h) <;> (try simp only [h]) <;> (try simp only [hsB] at h) <;> try (exfalso; first | omega | contradiction)) | fail)); all_goals clear kxs kk1)
  all_goals first | (exfalso; simp_all; done) | skip
  refine AW.rounds [2, 4, 19, 20, 21] (fun x : Nat × List UInt8 => [(2, iv .i64 0), (4, sv (bs x.2)), (19, .d (.l l.length (sbsD l))), (20, iv .i64 l.length), (21, iv .i64 x.1)]) (fun _ => [])
    (fun x => x.1 ≤ l.length ∧ (x.1 = 0 → x.2 = []) ∧ jcheck x.2 (l.drop x.1) = R) (fun x => l.length - x.1) (0, []) ⟨Nat.zero_le _, fun _ => rfl, hR⟩ rfl rfl (fun _ _ => Nat.zero_le _) (fun _ _ => rfl) (fun _ _ => rfl) ?_
  rintro ⟨i, p⟩ ⟨hi, hp, hr⟩ J hJ
  simp only at hi hp hr ⊢
  by_cases hil : i < l.length
  case neg =>
    have h0 : l.drop i = [] := List.drop_eq_nil_of_le (by omega)
    rw [h0] at hr
    have hR0 : R = 0 := hr.symm
    rw [hR0]
    focus (have kxs : 987654321 = 987654320 + 1 := rfl; (repeat' (first | refine G ?_ | refine AW.ret ?_ | (refine GC ?_ ?_ <;> intro h <;> (try simp only [hsB] at h) <;> try (exfalso; first | omega | contradiction)) | (refine GL ?_ ?_ <;> intro h <;> (try simp only [Bool.not_true, Bool.not_false] at h) <;> (try simp only [h]) <;> (try simp only [hsB] at h) <;> try (exfalso; first | omega | contradiction)) | fail)); all_goals clear kxs)
    all_goals first | (first | exact RetQ.zr 0 | exact RetQ.zn 0 | fail) | (exfalso; simp_all; done)
  obtain ⟨x, r, hd⟩ := next_at hil
  have hcd := sbs_drop hd
  rw [hd] at hr
  have hR2 := jstep hr
  have hfx := hf x (next_mem hd)
  by_cases hxc : x.check = 0
  case neg =>
    rw [if_pos hxc] at hR2
    rw [hR2]
    focus (have kxs := hcd; have kk1 := uN [] (sibling_Check x hfx); (repeat' (first | refine G ?_ | refine AW.ret ?_ | (refine GC ?_ ?_ <;> intro h <;> (try simp only [hsB] at h) <;> try (exfalso; first | omega | contradiction)) | (refine GL ?_ ?_ <;> intro h <;> (try simp only [Bool.not_true, Bool.not_false] at h) <;> (try simp only [h]) <;> (try simp only [hsB] at h) <;> try (exfalso; first | omega | contradiction)) | fail)); all_goals clear kxs kk1)
    all_goals first | (first | exact RetQ.zr 0 | exact RetQ.zn 0 | fail) | (exfalso; simp_all; done)
  rw [if_neg (by simpa using hxc)] at hR2
  have htri := less_tri (skey x) p
  by_cases hls : lessB p (skey x) = true
  · have hls' : Op.bytesLess p (skey x) = true := hls
    rw [if_neg (by rw [hls]; decide)] at hR2
    focus (have kxs := And.intro hcd (And.intro hxc (And.intro htri hls')); have kk1 := uN [] (sibling_Check x hfx); have kk2 := uN [] (object_key x hfx hxc); (repeat' (first | refine G ?_ | refine AW.ret ?_ | (refine GC ?_ ?_ <;> intro h <;> (try simp only [hsB] at h) <;> try (exfalso; first | omega | contradiction)) | (refine GL ?_ ?_ <;> intro h <;> (try simp only [Bool.not_true, Bool.not_false] at h) <;> (try simp only [h]) <;> (try simp only [hsB] at h) <;> try (exfalso; first | omega | contradiction)) | fail)); all_goals clear kxs kk1 kk2)
    all_goals first | (refine hJ (i + 1, skey x) _ _ (by simp only; omega) ⟨hil, fun h => absurd h (Nat.succ_ne_zero i), by rw [next_drop hd]; exact hR2.symm⟩ rfl rfl) | (exfalso; simp_all; done)
  · have hls : lessB p (skey x) = false := by simpa using hls
    have hls' : Op.bytesLess p (skey x) = false := hls
    rw [if_pos hls] at hR2
    have hi0 : i ≠ 0 := fun h => by rw [hp h, skey_first] at hls; cases hls
    rw [hR2]
    focus (have kxs := And.intro hcd (And.intro hxc (And.intro htri hls')); have kk1 := uN [] (sibling_Check x hfx); have kk2 := uN [] (object_key x hfx hxc); (repeat' (first | refine G ?_ | refine AW.ret ?_ | (refine GC ?_ ?_ <;> intro h <;> (try simp only [hsB] at h) <;> try (exfalso; first | omega | contradiction)) | (refine GL ?_ ?_ <;> intro h <;> (try simp only [Bool.not_true, Bool.not_false] at h) <;> (try simp only [h]) <;> (try simp only [hsB] at h) <;> try (exfalso; first | omega | contradiction)) | fail)); all_goals clear kxs kk1 kk2)
    all_goals first | (first | exact RetQ.zr 0 | exact RetQ.zn 0 | fail) | (exfalso; omega) | (exfalso; simp_all; done)

/-- The sibling ahead of place i. -/
def sahead (l : List Sb) (i : Nat) (p : List UInt8) : Prop := (i = 0 ∧ p = []) ∨ (0 < i ∧ ∃ y r, l.drop (i - 1) = y :: r ∧ y.check = 0 ∧ skey y = p)
theorem ref16_Check (o : Oj) (ho : o.fits) : AC Try.prog 36 [ojV o] [] fun x σ => x = iv .i64 o.check ∧ σ = [] := by
  obtain ⟨key, l⟩ := o
  obtain ⟨hk, hl, hf⟩ := ho
  simp only at hk hl hf
  refine AC.walk Try.func36 rfl (by decide) (of_decide_eq_true rfl) ?_
  by_cases ho : outside key l.length = 0
  case neg =>
    have hR : Oj.check ⟨key, l⟩ = outside key l.length := by unfold Oj.check; rw [if_pos ho]
    rw [hR]
    focus (have kxs : 987654321 = 987654320 + 1 := rfl; have kk1 := uN [] (ref16_outside key l.length hk hl); (repeat' (first | (refine ADr.nil ?_; try clear hgv) | refine GO ?_ | refine AW.ret ?_ | (refine GC ?_ ?_ <;> intro h <;> (try simp only [hsB] at h) <;> try (exfalso; first | omega | contradiction)) | (refine GD ?_ ?_ <;> intro h <;> (try intro hgv) <;> (try simp only [Bool.not_true, Bool.not_false] at h) <;> (try simp only [h]) <;> (try simp only [hsB] at h) <;> try (exfalso; first | omega | contradiction)) | (refine GL ?_ ?_ <;> intro h <;> (try simp only [Bool.not_true, Bool.not_false] at h) <;> (try simp only [h]) <;> (try simp only [hsB] at h) <;> try (exfalso; first | omega | contradiction)) | fail)); all_goals clear kxs kk1)
    all_goals first | ((all_goals first | exact RetQ.fr 0 | exact RetQ.fn 0 | fail); done) | (exfalso; simp_all; done)
  generalize hR : jcheck [] l = R
  have hc : Oj.check ⟨key, l⟩ = R := by unfold Oj.check; rw [if_neg (by simpa using ho), hR]
  rw [hc]
  focus (have kxs := ho; have kk1 := uN [] (ref16_outside key l.length hk hl); (repeat' (first | (refine ADr.nil ?_; try clear hgv) | refine GO ?_ | refine AW.ret ?_ | (refine GC ?_ ?_ <;> intro h <;> (try simp only [hsB] at h) <;> try (exfalso; first | omega | contradiction)) | (refine GD ?_ ?_ <;> intro h <;> (try intro hgv) <;> (try simp only [Bool.not_true, Bool.not_false] at h) <;> (try simp only [h]) <;> (try simp only [hsB] at h) <;> try (exfalso; first | omega | contradiction)) | (refine GL ?_ ?_ <;> intro h <;> (try simp only [Bool.not_true, Bool.not_false] at h) <;> (try simp only [h]) <;> (try simp only [hsB] at h) <;> try (exfalso; first | omega | contradiction)) | fail)); all_goals clear kxs kk1)
  all_goals first | (exfalso; simp_all; done) | skip
  refine AW.rounds [1, 2, 4] (fun i : Nat => [(1, .p 0 0), (2, iv .i64 0), (4, iv .i64 i)]) (fun _ => [.box 58 [sv (bs key), .d (.l l.length (sbsD l))]])
    (fun i => i ≤ l.length ∧ ∃ p, sahead l i p ∧ jcheck p (l.drop i) = R) (fun i => l.length - i) 0 ⟨Nat.zero_le _, [], .inl ⟨rfl, rfl⟩, hR⟩ rfl rfl (fun _ _ => Nat.zero_le _) (fun _ _ => rfl) (fun _ _ => rfl) ?_
  rintro i ⟨hi, p, hp, hr⟩ J hJ
  by_cases hil : i < l.length
  case neg =>
    have h0 : l.drop i = [] := List.drop_eq_nil_of_le (by omega)
    rw [h0] at hr
    have hR0 : R = 0 := hr.symm
    rw [hR0]
    focus (have kxs : 987654321 = 987654320 + 1 := rfl; (repeat' (first | (refine ADr.nil ?_; try clear hgv) | refine GO ?_ | refine AW.ret ?_ | (refine GC ?_ ?_ <;> intro h <;> (try simp only [hsB] at h) <;> try (exfalso; first | omega | contradiction)) | (refine GD ?_ ?_ <;> intro h <;> (try intro hgv) <;> (try simp only [Bool.not_true, Bool.not_false] at h) <;> (try simp only [h]) <;> (try simp only [hsB] at h) <;> try (exfalso; first | omega | contradiction)) | (refine GL ?_ ?_ <;> intro h <;> (try simp only [Bool.not_true, Bool.not_false] at h) <;> (try simp only [h]) <;> (try simp only [hsB] at h) <;> try (exfalso; first | omega | contradiction)) | fail)); all_goals clear kxs)
    all_goals first | (first | exact RetQ.zr 0 | exact RetQ.zn 0 | fail) | (exfalso; simp_all; done)
  obtain ⟨x, r, hd⟩ := next_at hil
  have hcd := sbs_drop hd
  rw [hd] at hr
  have hR2 := jstep hr
  have hfx := hf x (next_mem hd)
  by_cases hxc : x.check = 0
  case neg =>
    rw [if_pos hxc] at hR2
    rw [hR2]
    focus (have kxs := hcd; have kk1 := uN [] (ref15_Check x hfx); (repeat' (first | (refine ADr.nil ?_; try clear hgv) | refine GO ?_ | refine AW.ret ?_ | (refine GC ?_ ?_ <;> intro h <;> (try simp only [hsB] at h) <;> try (exfalso; first | omega | contradiction)) | (refine GD ?_ ?_ <;> intro h <;> (try intro hgv) <;> (try simp only [Bool.not_true, Bool.not_false] at h) <;> (try simp only [h]) <;> (try simp only [hsB] at h) <;> try (exfalso; first | omega | contradiction)) | (refine GL ?_ ?_ <;> intro h <;> (try simp only [Bool.not_true, Bool.not_false] at h) <;> (try simp only [h]) <;> (try simp only [hsB] at h) <;> try (exfalso; first | omega | contradiction)) | fail)); all_goals clear kxs kk1)
    all_goals first | (first | exact RetQ.zr 0 | exact RetQ.zn 0 | fail) | (exfalso; simp_all; done)
  rw [if_neg (by simpa using hxc)] at hR2
  have hnx : sahead l (i + 1) (skey x) := .inr ⟨Nat.succ_pos i, x, r, by simpa using hd, hxc, rfl⟩
  have hnd := next_drop hd
  have hkl := Sb.key_len (Sb.good_of hxc hfx)
  rcases hp with ⟨rfl, rfl⟩ | ⟨h0, y, r', hy, hyc, rfl⟩
  · rw [if_neg (by rw [skey_first]; decide)] at hR2
    focus (have kxs := And.intro hcd hxc; have kk1 := uN [] (ref15_Check x hfx); (repeat' (first | (refine ADr.nil ?_; try clear hgv) | refine GO ?_ | refine AW.ret ?_ | (refine GC ?_ ?_ <;> intro h <;> (try simp only [hsB] at h) <;> try (exfalso; first | omega | contradiction)) | (refine GD ?_ ?_ <;> intro h <;> (try intro hgv) <;> (try simp only [Bool.not_true, Bool.not_false] at h) <;> (try simp only [h]) <;> (try simp only [hsB] at h) <;> try (exfalso; first | omega | contradiction)) | (refine GL ?_ ?_ <;> intro h <;> (try simp only [Bool.not_true, Bool.not_false] at h) <;> (try simp only [h]) <;> (try simp only [hsB] at h) <;> try (exfalso; first | omega | contradiction)) | fail)); all_goals clear kxs kk1)
    all_goals first | (refine hJ 1 _ _ (by omega) ⟨hil, _, hnx, by rw [hnd]; exact hR2.symm⟩ rfl rfl) | (exfalso; simp_all; done)
  have hcp := sbs_drop hy
  have hi1 : ((i : Int) - 1).toNat = i - 1 := by omega
  have hfy := hf y (next_mem hy)
  have hyl := Sb.key_len (Sb.good_of hyc hfy)
  by_cases hls : lessB (skey y) (skey x) = true
  · have hls' : Op.bytesLess (skey y) (skey x) = true := hls
    rw [if_neg (by rw [hls]; decide)] at hR2
    focus (have kxs := And.intro hcd (And.intro hcp (And.intro hi1 (And.intro hxc hls'))); have kk1 := uN [] (ref15_Check x hfx); have kk2 := uN [] (ref16_key x hfx hxc); have kk3 := uN [] (ref16_key y hfy hyc); have kk4 := uN [] (ref06_Below (skey y) (skey x) (by omega) (by omega)); (repeat' (first | (refine ADr.nil ?_; try clear hgv) | refine GO ?_ | refine AW.ret ?_ | (refine GC ?_ ?_ <;> intro h <;> (try simp only [hsB] at h) <;> try (exfalso; first | omega | contradiction)) | (refine GD ?_ ?_ <;> intro h <;> (try intro hgv) <;> (try simp only [Bool.not_true, Bool.not_false] at h) <;> (try simp only [h]) <;> (try simp only [hsB] at h) <;> try (exfalso; first | omega | contradiction)) | (refine GL ?_ ?_ <;> intro h <;> (try simp only [Bool.not_true, Bool.not_false] at h) <;> (try simp only [h]) <;> (try simp only [hsB] at h) <;> try (exfalso; first | omega | contradiction)) | fail)); all_goals clear kxs kk1 kk2 kk3 kk4)
    all_goals first | (refine hJ (i + 1) _ _ (by omega) ⟨hil, _, hnx, by rw [hnd]; exact hR2.symm⟩ rfl rfl) | (exfalso; simp_all; done)
  · have hls : lessB (skey y) (skey x) = false := by simpa using hls
    have hls' : Op.bytesLess (skey y) (skey x) = false := hls
    rw [if_pos hls] at hR2
    rw [hR2]
    focus (have kxs := And.intro hcd (And.intro hcp (And.intro hi1 (And.intro hxc hls'))); have kk1 := uN [] (ref15_Check x hfx); have kk2 := uN [] (ref16_key x hfx hxc); have kk3 := uN [] (ref16_key y hfy hyc); have kk4 := uN [] (ref06_Below (skey y) (skey x) (by omega) (by omega)); (repeat' (first | (refine ADr.nil ?_; try clear hgv) | refine GO ?_ | refine AW.ret ?_ | (refine GC ?_ ?_ <;> intro h <;> (try simp only [hsB] at h) <;> try (exfalso; first | omega | contradiction)) | (refine GD ?_ ?_ <;> intro h <;> (try intro hgv) <;> (try simp only [Bool.not_true, Bool.not_false] at h) <;> (try simp only [h]) <;> (try simp only [hsB] at h) <;> try (exfalso; first | omega | contradiction)) | (refine GL ?_ ?_ <;> intro h <;> (try simp only [Bool.not_true, Bool.not_false] at h) <;> (try simp only [h]) <;> (try simp only [hsB] at h) <;> try (exfalso; first | omega | contradiction)) | fail)); all_goals clear kxs kk1 kk2 kk3 kk4)
    all_goals first | (first | exact RetQ.zr 0 | exact RetQ.zn 0 | fail) | (exfalso; simp_all; done)

theorem ref16_Great (o : Oj) (ho : o.fits) : AC Try.prog 25 [ojV o] [] fun x σ => x = bv o.great ∧ σ = [] := by
  obtain ⟨key, l⟩ := o
  obtain ⟨hk, hl, hf⟩ := ho
  simp only at hk hl hf
  refine AC.walk Try.func25 rfl (by decide) (of_decide_eq_true rfl) ?_
  by_cases h0 : 200 < key.length ∨ 20 < l.length
  · have hc : Oj.great ⟨key, l⟩ = true := by unfold Oj.great; rcases h0 with h | h <;> simp [h]
    rw [hc]
    focus (have kxs : 987654321 = 987654320 + 1 := rfl; (repeat' (first | refine G ?_ | refine AW.ret ?_ | (refine GC ?_ ?_ <;> intro h <;> (try simp only [hsB] at h) <;> try (exfalso; first | omega | contradiction)) | (refine GL ?_ ?_ <;> intro h <;> (try simp only [Bool.not_true, Bool.not_false] at h) <;> (try simp only [h]) <;> (try simp only [hsB] at h) <;> try (exfalso; first | omega | contradiction)) | fail)); all_goals clear kxs)
    all_goals first | (exfalso; omega) | ((all_goals first | exact RetQ.fr 0 | exact RetQ.fn 0 | fail); done)
  generalize hR : l.any Sb.great = R
  have hc : Oj.great ⟨key, l⟩ = R := by
    unfold Oj.great
    simp only
    rw [hR, decide_eq_false (fun h => h0 (.inl h)), decide_eq_false (fun h => h0 (.inr h))]; rfl
  rw [hc]
  focus (have kxs : 987654321 = 987654320 + 1 := rfl; (repeat' (first | refine G ?_ | refine AW.ret ?_ | (refine GC ?_ ?_ <;> intro h <;> (try simp only [hsB] at h) <;> try (exfalso; first | omega | contradiction)) | (refine GL ?_ ?_ <;> intro h <;> (try simp only [Bool.not_true, Bool.not_false] at h) <;> (try simp only [h]) <;> (try simp only [hsB] at h) <;> try (exfalso; first | omega | contradiction)) | fail)); all_goals clear kxs)
  all_goals first | (exfalso; omega) | skip
  refine AW.rounds [1, 2, 3] (fun i : Nat => [(1, .p 0 0), (2, bv false), (3, iv .i64 i)]) (fun _ => [.box 58 [sv (bs key), .d (.l l.length (sbsD l))]])
    (fun i => i ≤ l.length ∧ (l.drop i).any Sb.great = R) (fun i => l.length - i) 0 ⟨Nat.zero_le _, hR⟩ rfl rfl (fun _ _ => Nat.zero_le _) (fun _ _ => rfl) (fun _ _ => rfl) ?_
  rintro i ⟨hi, hr⟩ J hJ
  by_cases hil : i < l.length
  · obtain ⟨x, r, hd⟩ := next_at hil
    have hcd := sbs_drop hd
    have hnd := next_drop hd
    rw [hd, List.any_cons] at hr
    have hfx := hf x (next_mem hd)
    by_cases hg : x.great = true
    · rw [hg, Bool.true_or] at hr
      rw [← hr]
      focus (have kxs := And.intro hcd hg; have kk1 := uN [] (ref15_Great x hfx); (repeat' (first | refine G ?_ | refine AW.ret ?_ | (refine GC ?_ ?_ <;> intro h <;> (try simp only [hsB] at h) <;> try (exfalso; first | omega | contradiction)) | (refine GL ?_ ?_ <;> intro h <;> (try simp only [Bool.not_true, Bool.not_false] at h) <;> (try simp only [h]) <;> (try simp only [hsB] at h) <;> try (exfalso; first | omega | contradiction)) | fail)); all_goals clear kxs kk1)
      all_goals first | ((all_goals first | exact RetQ.fr 0 | exact RetQ.fn 0 | fail); done) | (exfalso; simp_all; done)
    have hg : x.great = false := by simpa using hg
    rw [hg, Bool.false_or] at hr
    focus (have kxs := And.intro hcd hg; have kk1 := uN [] (ref15_Great x hfx); (repeat' (first | refine G ?_ | refine AW.ret ?_ | (refine GC ?_ ?_ <;> intro h <;> (try simp only [hsB] at h) <;> try (exfalso; first | omega | contradiction)) | (refine GL ?_ ?_ <;> intro h <;> (try simp only [Bool.not_true, Bool.not_false] at h) <;> (try simp only [h]) <;> (try simp only [hsB] at h) <;> try (exfalso; first | omega | contradiction)) | fail)); all_goals clear kxs kk1)
    all_goals first | (refine hJ (i + 1) _ _ (by omega) ⟨hil, by rw [hnd]; exact hr⟩ rfl rfl) | (exfalso; simp_all; done)
  · have h0 : l.drop i = [] := List.drop_eq_nil_of_le (by omega)
    rw [h0] at hr
    have hR0 : R = false := hr.symm
    rw [hR0]
    focus (have kxs : 987654321 = 987654320 + 1 := rfl; (repeat' (first | refine G ?_ | refine AW.ret ?_ | (refine GC ?_ ?_ <;> intro h <;> (try simp only [hsB] at h) <;> try (exfalso; first | omega | contradiction)) | (refine GL ?_ ?_ <;> intro h <;> (try simp only [Bool.not_true, Bool.not_false] at h) <;> (try simp only [h]) <;> (try simp only [hsB] at h) <;> try (exfalso; first | omega | contradiction)) | fail)); all_goals clear kxs)
    all_goals first | ((all_goals first | exact RetQ.fr 0 | exact RetQ.fn 0 | fail); done)

theorem oj_eq (k o : Oj) : (decide (k.key = o.key) && decide (k.sibs = o.sibs)) = true ↔ k = o := by
  obtain ⟨a, b⟩ := k
  obtain ⟨d, e⟩ := o
  simp
instance : DecidableEq Oj := fun k o => decidable_of_iff _ (oj_eq k o)
theorem oj_dec (k o : Oj) : decide (k = o) = (decide (k.key = o.key) && decide (k.sibs = o.sibs)) := by
  rw [Bool.eq_iff_iff, decide_eq_true_eq]; exact (oj_eq k o).symm
theorem ref16_Same (k o : Oj) (hk : k.sibs.length ≤ 9223372036854775807) (hf : ∀ x ∈ k.sibs, x.clk.ctx.length ≤ 9223372036854775807 ∧ x.meta_.length ≤ 9223372036854775807) : AC Try.prog 35 [ojV k, ojV o] [] fun x σ => x = bv (decide (k = o)) ∧ σ = [] := by
  refine AC.walk Try.func35 rfl (by decide) (of_decide_eq_true rfl) ?_
  rw [oj_dec]
  obtain ⟨key, v⟩ := k
  obtain ⟨key2, w⟩ := o
  simp only at hk hf ⊢
  by_cases hkk : key = key2
  case neg =>
    rw [decide_eq_false hkk]
    focus (have kxs : 987654321 = 987654320 + 1 := rfl; (repeat' (first | (refine ADr.nil ?_; try clear hgv) | refine GO ?_ | refine AW.ret ?_ | (refine GC ?_ ?_ <;> intro h <;> (try simp only [hsB] at h) <;> try (exfalso; first | omega | contradiction)) | (refine GD ?_ ?_ <;> intro h <;> (try intro hgv) <;> (try simp only [Bool.not_true, Bool.not_false] at h) <;> (try simp only [h]) <;> (try simp only [hsB] at h) <;> try (exfalso; first | omega | contradiction)) | (refine GL ?_ ?_ <;> intro h <;> (try simp only [Bool.not_true, Bool.not_false] at h) <;> (try simp only [h]) <;> (try simp only [hsB] at h) <;> try (exfalso; first | omega | contradiction)) | fail)); all_goals clear kxs)
    all_goals first | ((all_goals first | exact RetQ.fr 0 | exact RetQ.fn 0 | fail); done) | (exfalso; simp_all; done)
  subst hkk
  rw [decide_eq_true rfl, Bool.true_and]
  by_cases hll : v.length = w.length
  case neg =>
    have hc : decide (v = w) = false := by simp; rintro rfl; exact hll rfl
    rw [hc]
    focus (have kxs : 987654321 = 987654320 + 1 := rfl; (repeat' (first | (refine ADr.nil ?_; try clear hgv) | refine GO ?_ | refine AW.ret ?_ | (refine GC ?_ ?_ <;> intro h <;> (try simp only [hsB] at h) <;> try (exfalso; first | omega | contradiction)) | (refine GD ?_ ?_ <;> intro h <;> (try intro hgv) <;> (try simp only [Bool.not_true, Bool.not_false] at h) <;> (try simp only [h]) <;> (try simp only [hsB] at h) <;> try (exfalso; first | omega | contradiction)) | (refine GL ?_ ?_ <;> intro h <;> (try simp only [Bool.not_true, Bool.not_false] at h) <;> (try simp only [h]) <;> (try simp only [hsB] at h) <;> try (exfalso; first | omega | contradiction)) | fail)); all_goals clear kxs)
    all_goals first | (exfalso; omega) | ((all_goals first | exact RetQ.fr 0 | exact RetQ.fn 0 | fail); done) | (exfalso; simp_all; done)
  focus (have kxs : 987654321 = 987654320 + 1 := rfl; (repeat' (first | (refine ADr.nil ?_; try clear hgv) | refine GO ?_ | refine AW.ret ?_ | (refine GC ?_ ?_ <;> intro h <;> (try simp only [hsB] at h) <;> try (exfalso; first | omega | contradiction)) | (refine GD ?_ ?_ <;> intro h <;> (try intro hgv) <;> (try simp only [Bool.not_true, Bool.not_false] at h) <;> (try simp only [h]) <;> (try simp only [hsB] at h) <;> try (exfalso; first | omega | contradiction)) | (refine GL ?_ ?_ <;> intro h <;> (try simp only [Bool.not_true, Bool.not_false] at h) <;> (try simp only [h]) <;> (try simp only [hsB] at h) <;> try (exfalso; first | omega | contradiction)) | fail)); all_goals clear kxs)
  all_goals first | (exfalso; simp_all; done) | skip
  refine AW.rounds [2, 3, 4, 5] (fun i : Nat => [(2, .p 0 0), (3, .p 1 0), (4, bv false), (5, iv .i64 i)]) (fun _ => [.box 58 [sv (bs key), .d (.l v.length (sbsD v))], .box 58 [sv (bs key), .d (.l w.length (sbsD w))]])
    (fun i => i ≤ v.length ∧ (v = w ↔ v.drop i = w.drop i)) (fun i => v.length - i) 0 ⟨Nat.zero_le _, by simp⟩ rfl rfl (fun _ _ => Nat.zero_le _) (fun _ _ => rfl) (fun _ _ => rfl) ?_
  rintro i ⟨hi, hr⟩ J hJ
  by_cases hil : i < v.length
  · obtain ⟨x, r, hd⟩ := next_at hil
    obtain ⟨y, s, he⟩ := next_at (l := w) (i := i) (by omega)
    have hcd := sbs_drop hd
    have hce := sbs_drop he
    have hfx := hf x (next_mem hd)
    by_cases hxy : x = y
    · have hd1 : decide (x = y) = true := decide_eq_true hxy
      have hJ2 : v = w ↔ v.drop (i + 1) = w.drop (i + 1) := by
        rw [hr, next_drop hd, next_drop he, hd, he, hxy]; simp
      focus (have kxs := And.intro hcd (And.intro hce hd1); have kk1 := uN [] (ref15_Same x y hfx.1 hfx.2); (repeat' (first | (refine ADr.nil ?_; try clear hgv) | refine GO ?_ | refine AW.ret ?_ | (refine GC ?_ ?_ <;> intro h <;> (try simp only [hsB] at h) <;> try (exfalso; first | omega | contradiction)) | (refine GD ?_ ?_ <;> intro h <;> (try intro hgv) <;> (try simp only [Bool.not_true, Bool.not_false] at h) <;> (try simp only [h]) <;> (try simp only [hsB] at h) <;> try (exfalso; first | omega | contradiction)) | (refine GL ?_ ?_ <;> intro h <;> (try simp only [Bool.not_true, Bool.not_false] at h) <;> (try simp only [h]) <;> (try simp only [hsB] at h) <;> try (exfalso; first | omega | contradiction)) | fail)); all_goals clear kxs kk1)
      all_goals first | (exact hJ (i + 1) _ _ (by omega) ⟨hil, hJ2⟩ rfl rfl) | (exfalso; simp_all; done)
    · have hd1 : decide (x = y) = false := decide_eq_false hxy
      have hc : decide (v = w) = false := by
        simp only [decide_eq_false_iff_not]
        rw [hr, hd, he]
        intro e
        exact hxy (List.cons.inj e).1
      rw [hc]
      focus (have kxs := And.intro hcd (And.intro hce hd1); have kk1 := uN [] (ref15_Same x y hfx.1 hfx.2); (repeat' (first | (refine ADr.nil ?_; try clear hgv) | refine GO ?_ | refine AW.ret ?_ | (refine GC ?_ ?_ <;> intro h <;> (try simp only [hsB] at h) <;> try (exfalso; first | omega | contradiction)) | (refine GD ?_ ?_ <;> intro h <;> (try intro hgv) <;> (try simp only [Bool.not_true, Bool.not_false] at h) <;> (try simp only [h]) <;> (try simp only [hsB] at h) <;> try (exfalso; first | omega | contradiction)) | (refine GL ?_ ?_ <;> intro h <;> (try simp only [Bool.not_true, Bool.not_false] at h) <;> (try simp only [h]) <;> (try simp only [hsB] at h) <;> try (exfalso; first | omega | contradiction)) | fail)); all_goals clear kxs kk1)
      all_goals first | ((all_goals first | exact RetQ.fr 0 | exact RetQ.fn 0 | fail); done) | (exfalso; simp_all; done)
  · have hc : decide (v = w) = true := by
      simp only [decide_eq_true_eq]
      rw [hr, List.drop_eq_nil_of_le (by omega), List.drop_eq_nil_of_le (by omega)]
    rw [hc]
    focus (have kxs : 987654321 = 987654320 + 1 := rfl; (repeat' (first | (refine ADr.nil ?_; try clear hgv) | refine GO ?_ | refine AW.ret ?_ | (refine GC ?_ ?_ <;> intro h <;> (try simp only [hsB] at h) <;> try (exfalso; first | omega | contradiction)) | (refine GD ?_ ?_ <;> intro h <;> (try intro hgv) <;> (try simp only [Bool.not_true, Bool.not_false] at h) <;> (try simp only [h]) <;> (try simp only [hsB] at h) <;> try (exfalso; first | omega | contradiction)) | (refine GL ?_ ?_ <;> intro h <;> (try simp only [Bool.not_true, Bool.not_false] at h) <;> (try simp only [h]) <;> (try simp only [hsB] at h) <;> try (exfalso; first | omega | contradiction)) | fail)); all_goals clear kxs)
    all_goals first | ((all_goals first | exact RetQ.fr 0 | exact RetQ.fn 0 | fail); done) | (exfalso; simp_all; done)
end Go.AW
