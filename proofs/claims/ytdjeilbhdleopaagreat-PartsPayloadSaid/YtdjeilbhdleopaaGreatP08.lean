/-
  varint, the program's and the document's: what is read.
-/
import Derived.Test.YtdjeilbhdleopaaGreatP07
set_option linter.unusedVariables false
set_option linter.unusedSimpArgs false
set_option maxHeartbeats 4000000
set_option maxRecDepth 10000
namespace Go.AW
open Go Go.Proofs
attribute [local irreducible] thenQ blockQ RetQ AL AW AC AOp
theorem vgo_nil {k i n : Nat} {s : List UInt8} {a : Nat} {e : Int} (h : s.drop a = []) : Cu.vgo (k + 1) i n ⟨s, a, e⟩ = (0, ⟨s, a, 2⟩) := by
  unfold Cu.vgo; simp only [h]
theorem vgo_cons {k i n : Nat} {s r : List UInt8} {b : UInt8} {a : Nat} {e : Int} (h : s.drop a = b :: r) : Cu.vgo (k + 1) i n ⟨s, a, e⟩ =
    if i = 9 ∧ 1 < b.toNat then (0, ⟨s, a, 5⟩) else if b.toNat = 0 ∧ 0 < i then (0, ⟨s, a, 4⟩)
      else if b.toNat < 128 then (n + b.toNat % 128 * 128 ^ i, ⟨s, a + 1, e⟩) else Cu.vgo k (i + 1) (n + b.toNat % 128 * 128 ^ i) ⟨s, a + 1, e⟩ := by
  conv => lhs; unfold Cu.vgo
  simp only [h]
theorem byte_cons {s r : List UInt8} {b : UInt8} {a : Nat} (h : s.drop a = b :: r) : Cu.byte ⟨s, a, 0⟩ = (b.toNat, ⟨s, a + 1, 0⟩) := by
  have hl : (s.drop a).length = r.length + 1 := by rw [h]; rfl
  rw [List.length_drop] at hl
  have h1 : ¬ (1 : Int) > s.length - a := by omega
  simp only [Cu.byte, Cu.bytes]
  rw [if_neg (by simp), if_neg (by omega), if_neg h1, h]
  rfl
theorem drop_cons_lt {s r : List UInt8} {b : UInt8} {a : Nat} (h : s.drop a = b :: r) : a < s.length := by
  have hl : (s.drop a).length = r.length + 1 := by rw [h]; rfl
  rw [List.length_drop] at hl
  omega
theorem vpow {n i x : Nat} (hn : n < 128 ^ i) (hx : x < 128) : n + x * 128 ^ i < 128 ^ (i + 1) := by
  have h : (x + 1) * 128 ^ i ≤ 128 * 128 ^ i := Nat.mul_le_mul_right _ hx
  rw [Nat.pow_succ, Nat.mul_comm (128 ^ i) 128]
  rw [Nat.add_mul] at h
  omega
section
variable (s : List UInt8) (a : Nat) (e : Int)
theorem varint_Take (h : Cu.Ok ⟨s, a, e⟩) : AC Tryz.prog 97 [.p 0 0] [Cu.ob ⟨s, a, e⟩] fun x σ => x = iv .u64 (Cu.vtake ⟨s, a, e⟩).1 ∧ σ = [Cu.ob (Cu.vtake ⟨s, a, e⟩).2] := by
  obtain ⟨h1, h2⟩ := h
  simp only at h1 h2
  by_cases he : e = 0
  case neg =>
    have hv : Cu.vtake ⟨s, a, e⟩ = (0, ⟨s, a, e⟩) := by unfold Cu.vtake; rw [if_pos he]
    rw [hv]
    refine AC.wk Tryz.func97 ?_
    focus ((repeat' (first | refine GF ?_ | refine AW.ret ?_ | (refine GC ?_ ?_ <;> intro h <;> (try simp only [hsB] at h) <;> try exact xf) | (refine GL ?_ ?_ <;> intro h <;> (try simp only [hsN] at h) <;> (try simp only [h]) <;> (try simp only [hsB] at h) <;> try exact xf) | fail)))
    refine AW.rounds [0, 2, 3, 4, 5] (fun _ : Unit => [(0, .p 0 0), (2, iv .u64 0), (3, .f (.func 108) [.p 0 0] []), (4, iv .u64 0), (5, iv .i64 0)]) (fun _ => [Cu.ob ⟨s, a, e⟩]) (fun _ => True) (fun _ => 0) () trivial rfl rfl
      (fun _ _ => Nat.le_of_ble_eq_true rfl) (fun _ _ => rfl) (fun _ _ => rfl) ?_
    intro i hi J hJ
    focus (have kuc1 := fun za zb zc => uN [0] (cursor_Err za zb zc); (repeat' (first | refine GF ?_ | refine AW.ret ?_ | (refine GC ?_ ?_ <;> intro h <;> (try simp only [hsB] at h) <;> try exact xf) | (refine GL ?_ ?_ <;> intro h <;> (try simp only [hsN] at h) <;> (try simp only [h]) <;> (try simp only [hsB] at h) <;> try exact xf) | fail)); all_goals clear kuc1)
    · (all_goals first | exact RetQ.fr 1 | exact RetQ.fn 1 | fail)
  subst he
  rw [show Cu.vtake ⟨s, a, 0⟩ = Cu.vgo 10 0 0 ⟨s, a, 0⟩ from by unfold Cu.vtake; rw [if_neg (by simp)]]
  generalize hR : Cu.vgo 10 0 0 ⟨s, a, 0⟩ = R
  refine AC.wk Tryz.func97 ?_
  focus ((repeat' (first | refine GF ?_ | refine AW.ret ?_ | (refine GC ?_ ?_ <;> intro h <;> (try simp only [hsB] at h) <;> try exact xf) | (refine GL ?_ ?_ <;> intro h <;> (try simp only [hsN] at h) <;> (try simp only [h]) <;> (try simp only [hsB] at h) <;> try exact xf) | fail)))
  refine AW.rounds [0, 2, 3, 4, 5] (fun x : Nat × Nat × Nat => [(0, .p 0 0), (2, iv .u64 0), (3, .f (.func 108) [.p 0 0] []), (4, iv .u64 x.2.1), (5, iv .i64 x.1)]) (fun x => [Cu.ob ⟨s, x.2.2, 0⟩]) (fun x => x.1 ≤ 9 ∧ x.2.1 < 128 ^ x.1 ∧ x.2.2 ≤ s.length ∧ Cu.vgo (10 - x.1) x.1 x.2.1 ⟨s, x.2.2, 0⟩ = R) (fun x => 10 - x.1) (0, 0, a) ⟨Nat.zero_le _, Nat.one_pos, h2, hR⟩ rfl rfl
    (fun _ _ => Nat.le_of_ble_eq_true rfl) (fun _ _ => rfl) (fun _ _ => rfl) ?_
  rintro ⟨i, n, a⟩ ⟨hi, hn, ha, hr⟩ J hJ
  simp only at hi hn ha hr hJ ⊢
  have hok : Cu.Ok ⟨s, a, 0⟩ := ⟨h1, ha⟩
  rw [show 10 - i = (9 - i) + 1 by omega] at hr
  rcases hs : s.drop a with _ | ⟨b, r⟩
  · have hlen : a = s.length := by
      have := congrArg List.length hs
      simp at this; omega
    rw [vgo_nil hs] at hr
    subst hr
    focus (have kuc1 := fun za zb zc => uN [0] (cursor_Err za zb zc); have kk1 := uN [0] (cursor_Left _ _ _ hok); have kud1 := fun za zb zc zd => uN [0] (cursor_Fail za zb zc zd); (repeat' (first | refine GF ?_ | refine AW.ret ?_ | (refine GC ?_ ?_ <;> intro h <;> (try simp only [hsB] at h) <;> try exact xf) | (refine GL ?_ ?_ <;> intro h <;> (try simp only [hsN] at h) <;> (try simp only [h]) <;> (try simp only [hsB] at h) <;> try exact xf) | fail)); all_goals clear kuc1 kk1 kud1)
    ((all_goals first | refine RetQ.yr 1 ⟨?_, ?_⟩ | refine RetQ.yn 1 ⟨?_, ?_⟩); (all_goals first | rfl | (simp [Cu.fail, *]; done) | ((simp only [go_sem, ↓reduceIte, Nat.reduceLT, Cu.fail]; (repeat' split)) <;> first | rfl | (exfalso; omega) | (simp_all; done) | (simp_all; omega))))
  · have hlt := drop_cons_lt hs
    have hb := b.toNat_lt
    rw [vgo_cons hs] at hr
    have hby := byte_cons hs
    have hand := and127 b
    focus (have kxs := And.intro hs (And.intro hby hand); have kuc1 := fun za zb zc => uN [0] (cursor_Err za zb zc); have kk1 := uN [0] (cursor_Left _ _ _ hok); have kua1 := fun za => uN [0] (cursor_Ahead _ _ _ za hok); have kud1 := fun za zb zc zd => uN [0] (cursor_Fail za zb zc zd); have kk2 := uN [0] (cursor_Byte _ _ _ hok); (repeat' (first | refine GF ?_ | refine AW.ret ?_ | (refine GC ?_ ?_ <;> intro h <;> (try simp only [hsB] at h) <;> try exact xf) | (refine GL ?_ ?_ <;> intro h <;> (try simp only [hsN] at h) <;> (try simp only [h]) <;> (try simp only [hsB] at h) <;> try exact xf) | fail)); all_goals clear kxs kuc1 kk1 kua1 kud1 kk2)
    all_goals (try (have hst := vstep hi hn (Nat.mod_lt b.toNat (show 0 < 128 by omega)) (by omega); simp only [hst]))
    all_goals first
      | (subst hr; ((all_goals first | refine RetQ.yr 1 ⟨?_, ?_⟩ | refine RetQ.yn 1 ⟨?_, ?_⟩); (all_goals first | rfl | (simp [Cu.fail, *]; done) | ((simp only [go_sem, ↓reduceIte, Nat.reduceLT, Cu.fail]; (repeat' split)) <;> first | rfl | (exfalso; omega) | (simp_all; done) | (simp_all; omega)))); done)
      | (rw [if_neg (by omega), if_neg (by omega), if_neg (by omega)] at hr
         refine hJ (i + 1, n + b.toNat % 128 * 128 ^ i, a + 1) _ _ (by simp only; omega) ⟨by simp only; omega, vpow hn (Nat.mod_lt b.toNat (show 0 < 128 by omega)), hlt, ?_⟩ rfl rfl
         simp only
         rw [show 10 - (i + 1) = 9 - i by omega]
         exact hr)
theorem vstepR {n i x : Nat} (hi : i ≤ 9) (hn : n < 128 ^ i) (hx : x < 128) (h9 : i = 9 → x ≤ 1) : IntKind.wrap .u64 ((n : Int) + IntKind.wrap .u64 ((x : Int) * (128 ^ i : Nat))) = ((n + x * 128 ^ i : Nat) : Int) := by
  have h2 : x * 128 ^ i ≤ 9223372036854775808 := by
    by_cases h : i = 9
    · subst h
      have := Nat.mul_le_mul_right (128 ^ 9) (h9 rfl)
      omega
    · have h3 : 128 ^ i ≤ 128 ^ 8 := Nat.pow_le_pow_right (by omega) (by omega)
      have := Nat.mul_le_mul (Nat.le_of_lt_succ (show x < 127 + 1 by omega)) h3
      omega
  have h3 : n < 9223372036854775808 := by
    have : 128 ^ i ≤ 128 ^ 9 := Nat.pow_le_pow_right (by omega) hi
    omega
  rw [show (x : Int) * ((128 ^ i : Nat) : Int) = ((x * 128 ^ i : Nat) : Int) by push_cast; rfl]
  generalize x * 128 ^ i = z at *
  rw [wrap_u64 (n := (z : Int)) (by omega) (by omega), wrap_u64 (by omega) (by omega)]
  omega
theorem weight {i : Nat} (hi : i ≤ 8) : IntKind.wrap .u64 (((128 ^ i : Nat) : Int) * 128) = ((128 ^ (i + 1) : Nat) : Int) := by
  have h3 : 128 ^ i ≤ 128 ^ 8 := Nat.pow_le_pow_right (by omega) (by omega)
  rw [Nat.pow_succ]
  generalize 128 ^ i = z at *
  rw [wrap_u64 (by omega) (by omega)]
  omega
theorem ref03_Take (h : Cu.Ok ⟨s, a, e⟩) : AC Tryz.prog 212 [.p 0 0] [Cu.ro ⟨s, a, e⟩] fun x σ => x = iv .u64 (Cu.vtake ⟨s, a, e⟩).1 ∧ σ = [Cu.ro (Cu.vtake ⟨s, a, e⟩).2] := by
  obtain ⟨h1, h2⟩ := h
  simp only at h1 h2
  by_cases he : e = 0
  case neg =>
    have hv : Cu.vtake ⟨s, a, e⟩ = (0, ⟨s, a, e⟩) := by unfold Cu.vtake; rw [if_pos he]
    rw [hv]
    refine AC.wk Tryz.func212 ?_
    exact Wb1
  subst he
  rw [show Cu.vtake ⟨s, a, 0⟩ = Cu.vgo 10 0 0 ⟨s, a, 0⟩ from by unfold Cu.vtake; rw [if_neg (by simp)]]
  generalize hR : Cu.vgo 10 0 0 ⟨s, a, 0⟩ = R
  refine AC.wk Tryz.func212 ?_
  focus ((repeat' (first | (refine ADr.nil ?_; try clear hgv) | refine GOF ?_ | refine AW.ret ?_ | (refine GC ?_ ?_ <;> intro h <;> (try simp only [hsB] at h) <;> try exact xf) | (refine GD ?_ ?_ <;> intro h <;> (try intro hgv) <;> (try simp only [hsN] at h) <;> (try simp only [h]) <;> (try simp only [hsB] at h) <;> try exact xf) | (refine GL ?_ ?_ <;> intro h <;> (try simp only [hsN] at h) <;> (try simp only [h]) <;> (try simp only [hsB] at h) <;> try exact xf) | fail)))
  refine AW.rounds [0, 2, 3, 4, 5] (fun x : Nat × Nat × Nat => [(0, .p 0 0), (2, iv .u64 0), (3, iv .u64 x.2.1), (4, iv .u64 (128 ^ x.1 : Nat)), (5, iv .i64 x.1)]) (fun x => [Cu.ro ⟨s, x.2.2, 0⟩]) (fun x => x.1 ≤ 9 ∧ x.2.1 < 128 ^ x.1 ∧ x.2.2 ≤ s.length ∧ Cu.vgo (10 - x.1) x.1 x.2.1 ⟨s, x.2.2, 0⟩ = R) (fun x => 10 - x.1) (0, 0, a) ⟨Nat.zero_le _, Nat.one_pos, h2, hR⟩ rfl rfl
    (fun _ _ => Nat.le_of_ble_eq_true rfl) (fun _ _ => rfl) (fun _ _ => rfl) ?_
  rintro ⟨i, n, a⟩ ⟨hi, hn, ha, hr⟩ J hJ
  simp only at hi hn ha hr hJ ⊢
  have hok : Cu.Ok ⟨s, a, 0⟩ := ⟨h1, ha⟩
  rw [show 10 - i = (9 - i) + 1 by omega] at hr
  rcases hs : s.drop a with _ | ⟨b, r⟩
  · have hlen : a = s.length := by
      have := congrArg List.length hs
      simp at this; omega
    rw [vgo_nil hs] at hr
    subst hr
    exact Wb1
  · have hlt := drop_cons_lt hs
    have hb := b.toNat_lt
    rw [vgo_cons hs] at hr
    have hg : s.getD a 0 = b := by
      have := congrArg List.head? hs
      rw [List.head?_drop] at this
      rw [List.getD_eq_getElem?_getD, this]; rfl
    have hmod : (b.toNat : Int).tmod 128 = ((b.toNat % 128 : Nat) : Int) := rfl
    focus (have kxs := And.intro hg hmod; (repeat' (first | (refine ADr.nil ?_; try clear hgv) | refine GOF ?_ | refine AW.ret ?_ | (refine GC ?_ ?_ <;> intro h <;> (try simp only [hsB] at h) <;> try exact xf) | (refine GD ?_ ?_ <;> intro h <;> (try intro hgv) <;> (try simp only [hsN] at h) <;> (try simp only [h]) <;> (try simp only [hsB] at h) <;> try exact xf) | (refine GL ?_ ?_ <;> intro h <;> (try simp only [hsN] at h) <;> (try simp only [h]) <;> (try simp only [hsB] at h) <;> try exact xf) | fail)); all_goals clear kxs)
    all_goals (try (have hst := vstepR hi hn (Nat.mod_lt b.toNat (show 0 < 128 by omega)) (by omega); simp only [hst]))
    all_goals first
      | (subst hr; (all_goals first | exact RetQ.fr 1 | exact RetQ.fn 1 | fail); done)
      | (rw [if_neg (by omega), if_neg (by omega), if_neg (by omega)] at hr
         rw [weight (by omega)]
         refine hJ (i + 1, n + b.toNat % 128 * 128 ^ i, a + 1) _ _ (by simp only; omega) ⟨by simp only; omega, vpow hn (Nat.mod_lt b.toNat (show 0 < 128 by omega)), hlt, ?_⟩ rfl rfl
         simp only
         rw [show 10 - (i + 1) = 9 - i by omega]
         exact hr)
      | (exfalso; omega)
end
end Go.AW
namespace Go.AW
open Go Go.Proofs
attribute [local irreducible] thenQ blockQ RetQ AL AW AC AOp
section
variable (s : List UInt8) (a : Nat) (e max : Int)
theorem blob_within (h : Cu.Ok ⟨s, a, e⟩) (hm : max ≤ 9223372036854775807) : AC Tryz.prog 219 [.p 0 0, iv .i64 max] [Cu.ob ⟨s, a, e⟩] fun x σ => x = iv .i64 (Cu.count ⟨s, a, e⟩ max).1 ∧ σ = [Cu.ob (Cu.count ⟨s, a, e⟩ max).2] := by
  have hlt := Cu.vtake_lt ⟨s, a, e⟩
  refine AC.wk Tryz.func219 ?_
  focus (have kk1 := uN [0] (varint_Take _ _ _ h); have kuc1 := fun za zb zc => uN [0] (cursor_Err za zb zc); have kud1 := fun za zb zc zd => uN [0] (cursor_Fail za zb zc zd); (repeat' (first | refine G ?_ | refine AW.ret ?_ | (refine GC ?_ ?_ <;> intro h <;> (try simp only [hsB] at h) <;> try exact xf) | (refine GL ?_ ?_ <;> intro h <;> (try simp only [hsN] at h) <;> (try simp only [h]) <;> (try simp only [hsB] at h) <;> try exact xf) | fail)); all_goals clear kk1 kuc1 kud1)
  all_goals by_cases hc : max.toNat < (Cu.vtake ⟨s, a, e⟩).1
  all_goals first | (exfalso; omega) | (((all_goals first | refine RetQ.yr 1 ⟨?_, ?_⟩ | refine RetQ.yn 1 ⟨?_, ?_⟩); (all_goals first | rfl | (simp [Cu.count, Cu.fail, *]; done) | ((simp only [go_sem, ↓reduceIte, Nat.reduceLT, Cu.count, Cu.fail]; (repeat' split)) <;> first | rfl | (exfalso; omega) | (simp_all; done) | (simp_all; omega)))); done)
theorem ref06_Count (h : Cu.Ok ⟨s, a, e⟩) (hm : max ≤ 9223372036854775807) : AC Tryz.prog 121 [.p 0 0, iv .i64 max] [Cu.ro ⟨s, a, e⟩] fun x σ => x = iv .i64 (Cu.count ⟨s, a, e⟩ max).1 ∧ σ = [Cu.ro (Cu.count ⟨s, a, e⟩ max).2] := by
  have hlt := Cu.vtake_lt ⟨s, a, e⟩
  refine AC.wk Tryz.func121 ?_
  focus (have kk1 := uN [0] (ref03_Take _ _ _ h); (repeat' (first | refine G ?_ | refine AW.ret ?_ | (refine GC ?_ ?_ <;> intro h <;> (try simp only [hsB] at h) <;> try exact xf) | (refine GL ?_ ?_ <;> intro h <;> (try simp only [hsN] at h) <;> (try simp only [h]) <;> (try simp only [hsB] at h) <;> try exact xf) | fail)); all_goals clear kk1)
  all_goals by_cases hc : max.toNat < (Cu.vtake ⟨s, a, e⟩).1
  all_goals first | (exfalso; omega) | (((all_goals first | refine RetQ.yr 1 ⟨?_, ?_⟩ | refine RetQ.yn 1 ⟨?_, ?_⟩); (all_goals first | rfl | (simp [Cu.count, Cu.fail, *]; done) | ((simp only [go_sem, ↓reduceIte, Nat.reduceLT, Cu.count, Cu.fail]; (repeat' split)) <;> first | rfl | (exfalso; omega) | (simp_all; done) | (simp_all; omega)))); done)
theorem blob_Count (h : Cu.Ok ⟨s, a, e⟩) (hm : max ≤ 9223372036854775807) : AC Tryz.prog 114 [.p 0 0, iv .i64 max] [Cu.ob ⟨s, a, e⟩] fun x σ => x = iv .i64 (Cu.count ⟨s, a, e⟩ max).1 ∧ σ = [Cu.ob (Cu.count ⟨s, a, e⟩ max).2] := by
  refine AC.wk Tryz.func114 ?_
  focus (have kk1 := uN [0] (blob_within _ _ _ max h hm); (repeat' (first | refine G ?_ | refine AW.ret ?_ | (refine GC ?_ ?_ <;> intro h <;> (try simp only [hsB] at h) <;> try exact xf) | (refine GL ?_ ?_ <;> intro h <;> (try simp only [hsN] at h) <;> (try simp only [h]) <;> (try simp only [hsB] at h) <;> try exact xf) | fail)); all_goals clear kk1)
  (all_goals first | exact RetQ.fr 1 | exact RetQ.fn 1 | fail)
theorem blob_Take (h : Cu.Ok ⟨s, a, e⟩) (hm : max ≤ 9223372036854775807) : AC Tryz.prog 287 [.p 0 0, iv .i64 max] [Cu.ob ⟨s, a, e⟩] fun x σ => x = sv (bs (Cu.blob ⟨s, a, e⟩ max).1) ∧ σ = [Cu.ob (Cu.blob ⟨s, a, e⟩ max).2] := by
  refine AC.wk Tryz.func287 ?_
  focus (have kk1 := uN [0] (blob_within _ _ _ max h hm); have kua1 := fun za => uN [0] (cursor_Bytes _ _ _ za (Cu.count_ok (max := max) h)); (repeat' (first | refine G ?_ | refine AW.ret ?_ | (refine GC ?_ ?_ <;> intro h <;> (try simp only [hsB] at h) <;> try exact xf) | (refine GL ?_ ?_ <;> intro h <;> (try simp only [hsN] at h) <;> (try simp only [h]) <;> (try simp only [hsB] at h) <;> try exact xf) | fail)); all_goals clear kk1 kua1)
  ((all_goals first | refine RetQ.yr 1 ⟨?_, ?_⟩ | refine RetQ.yn 1 ⟨?_, ?_⟩); (all_goals first | rfl | (simp [Cu.blob, *]; done) | ((simp only [go_sem, ↓reduceIte, Nat.reduceLT, Cu.blob]; (repeat' split)) <;> first | rfl | (exfalso; omega) | (simp_all; done) | (simp_all; omega))))
theorem ref06_Take (h : Cu.Ok ⟨s, a, e⟩) (hm : max ≤ 9223372036854775807) : AC Tryz.prog 213 [.p 0 0, iv .i64 max] [Cu.ro ⟨s, a, e⟩] fun x σ => x = sv (bs (Cu.blob ⟨s, a, e⟩ max).1) ∧ σ = [Cu.ro (Cu.blob ⟨s, a, e⟩ max).2] := by
  refine AC.wk Tryz.func213 ?_
  focus (have kk1 := uN [0] (ref06_Count _ _ _ max h hm); have kua1 := fun za => uN [0] (ref01_Bytes _ _ _ za (Cu.count_ok (max := max) h)); (repeat' (first | refine G ?_ | refine AW.ret ?_ | (refine GC ?_ ?_ <;> intro h <;> (try simp only [hsB] at h) <;> try exact xf) | (refine GL ?_ ?_ <;> intro h <;> (try simp only [hsN] at h) <;> (try simp only [h]) <;> (try simp only [hsB] at h) <;> try exact xf) | fail)); all_goals clear kk1 kua1)
  ((all_goals first | refine RetQ.yr 1 ⟨?_, ?_⟩ | refine RetQ.yn 1 ⟨?_, ?_⟩); (all_goals first | rfl | (simp [Cu.blob, *]; done) | ((simp only [go_sem, ↓reduceIte, Nat.reduceLT, Cu.blob]; (repeat' split)) <;> first | rfl | (exfalso; omega) | (simp_all; done) | (simp_all; omega))))
theorem blob_Flag (h : Cu.Ok ⟨s, a, e⟩) : AC Tryz.prog 98 [.p 0 0] [Cu.ob ⟨s, a, e⟩] fun x σ => x = bv (Cu.flag ⟨s, a, e⟩).1 ∧ σ = [Cu.ob (Cu.flag ⟨s, a, e⟩).2] := by
  refine AC.wk Tryz.func98 ?_
  focus (have kk1 := uN [0] (cursor_Byte _ _ _ h); have kud1 := fun za zb zc zd => uN [0] (cursor_Fail za zb zc zd); (repeat' (first | refine G ?_ | refine AW.ret ?_ | (refine GC ?_ ?_ <;> intro h <;> (try simp only [hsB] at h) <;> try exact xf) | (refine GL ?_ ?_ <;> intro h <;> (try simp only [hsN] at h) <;> (try simp only [h]) <;> (try simp only [hsB] at h) <;> try exact xf) | fail)); all_goals clear kk1 kud1)
  all_goals simp only [Cu.flag]
  all_goals generalize Cu.byte ⟨s, a, e⟩ = r at *
  all_goals obtain ⟨x, c⟩ := r
  all_goals simp only at *
  all_goals by_cases hc : 1 < x
  all_goals first | (exfalso; omega) | (((all_goals first | refine RetQ.yr 1 ⟨?_, ?_⟩ | refine RetQ.yn 1 ⟨?_, ?_⟩); (all_goals first | rfl | (simp [Cu.fail, *]; done) | ((simp only [go_sem, ↓reduceIte, Nat.reduceLT, Cu.fail]; (repeat' split)) <;> first | rfl | (exfalso; omega) | (simp_all; done) | (simp_all; omega)))); done) | (have hd : ¬ x = 1 := by omega; ((all_goals first | refine RetQ.yr 1 ⟨?_, ?_⟩ | refine RetQ.yn 1 ⟨?_, ?_⟩); (all_goals first | rfl | (simp [Cu.fail, *]; done) | ((simp only [go_sem, ↓reduceIte, Nat.reduceLT, Cu.fail]; (repeat' split)) <;> first | rfl | (exfalso; omega) | (simp_all; done) | (simp_all; omega)))); done)
theorem ref06_Flag (h : Cu.Ok ⟨s, a, e⟩) : AC Tryz.prog 214 [.p 0 0] [Cu.ro ⟨s, a, e⟩] fun x σ => x = bv (Cu.flag ⟨s, a, e⟩).1 ∧ σ = [Cu.ro (Cu.flag ⟨s, a, e⟩).2] := by
  refine AC.wk Tryz.func214 ?_
  focus (have kk1 := uN [0] (ref01_Byte _ _ _ h); have kud1 := fun za zb zc zd => uN [0] (ref01_Fail za zb zc zd); (repeat' (first | refine G ?_ | refine AW.ret ?_ | (refine GC ?_ ?_ <;> intro h <;> (try simp only [hsB] at h) <;> try exact xf) | (refine GL ?_ ?_ <;> intro h <;> (try simp only [hsN] at h) <;> (try simp only [h]) <;> (try simp only [hsB] at h) <;> try exact xf) | fail)); all_goals clear kk1 kud1)
  all_goals simp only [Cu.flag]
  all_goals generalize Cu.byte ⟨s, a, e⟩ = r at *
  all_goals obtain ⟨x, c⟩ := r
  all_goals simp only at *
  all_goals by_cases hc : 1 < x
  all_goals first | (exfalso; omega) | (((all_goals first | refine RetQ.yr 1 ⟨?_, ?_⟩ | refine RetQ.yn 1 ⟨?_, ?_⟩); (all_goals first | rfl | (simp [Cu.fail, *]; done) | ((simp only [go_sem, ↓reduceIte, Nat.reduceLT, Cu.fail]; (repeat' split)) <;> first | rfl | (exfalso; omega) | (simp_all; done) | (simp_all; omega)))); done) | (have hd : ¬ x = 1 := by omega; ((all_goals first | refine RetQ.yr 1 ⟨?_, ?_⟩ | refine RetQ.yn 1 ⟨?_, ?_⟩); (all_goals first | rfl | (simp [Cu.fail, *]; done) | ((simp only [go_sem, ↓reduceIte, Nat.reduceLT, Cu.fail]; (repeat' split)) <;> first | rfl | (exfalso; omega) | (simp_all; done) | (simp_all; omega)))); done)
end
end Go.AW
namespace Go.AW
open Go Go.Proofs
attribute [local irreducible] thenQ blockQ RetQ AL AW AC AOp
abbrev strs (l : List (List UInt8)) : List D := l.map fun s => .s (.string ⟨s.toArray⟩)
theorem ref06_Below (a b : List UInt8) (ha : a.length ≤ 140737488355328) (hb : b.length ≤ 140737488355328) : AC Tryz.prog 83 [sv (bs a), sv (bs b)] [] fun x σ => x = bv (Op.bytesLess a b) ∧ σ = [] := by
  refine AC.wk Tryz.func83 ?_
  focus ((repeat' (first | (refine ADr.nil ?_; try clear hgv) | refine GO ?_ | refine AW.ret ?_ | (refine GC ?_ ?_ <;> intro h <;> (try simp only [hsB] at h) <;> try exact xf) | (refine GD ?_ ?_ <;> intro h <;> (try intro hgv) <;> (try simp only [hsN] at h) <;> (try simp only [h]) <;> (try simp only [hsB] at h) <;> try exact xf) | (refine GL ?_ ?_ <;> intro h <;> (try simp only [hsN] at h) <;> (try simp only [h]) <;> (try simp only [hsB] at h) <;> try exact xf) | fail)))
  refine AW.rounds [0, 1, 4, 5] (fun i : Nat => [(0, sv (bs a)), (1, sv (bs b)), (4, bv false), (5, iv .i64 i)]) (fun _ => []) (fun i => i ≤ a.length ∧ i ≤ b.length ∧ Op.bytesLess (a.drop i) (b.drop i) = Op.bytesLess a b) (fun i => a.length - i) 0 ⟨Nat.zero_le _, Nat.zero_le _, rfl⟩ rfl rfl
    (fun _ _ => Nat.zero_le _) (fun _ _ => rfl) (fun _ _ => rfl) ?_
  rintro i ⟨h1, h2, hr⟩ J hJ
  by_cases hia : i < a.length
  · by_cases hib : i < b.length
    · have da := List.drop_eq_getElem_cons hia
      have db := List.drop_eq_getElem_cons hib
      have ga : a.getD i 0 = a[i] := by simp [List.getD_eq_getElem?_getD, hia]
      have gb : b.getD i 0 = b[i] := by simp [List.getD_eq_getElem?_getD, hib]
      rw [da, db, less_cons] at hr
      generalize a[i] = x at *
      generalize b[i] = y at *
      have hxy : ((x.toNat : Int) = y.toNat) = (x = y) := by
        apply propext
        constructor
        · intro h; exact UInt8.toNat_inj.1 (by omega)
        · rintro rfl; rfl
      have hlt : ((x.toNat : Int) < y.toNat) = (x < y) := by
        apply propext
        rw [UInt8.lt_iff_toNat_lt]; omega
      focus (have kxs := And.intro ga (And.intro gb (And.intro hxy hlt)); (repeat' (first | (refine ADr.nil ?_; try clear hgv) | refine GO ?_ | refine AW.ret ?_ | (refine GC ?_ ?_ <;> intro h <;> (try simp only [hsB] at h) <;> try exact xf) | (refine GD ?_ ?_ <;> intro h <;> (try intro hgv) <;> (try simp only [hsN] at h) <;> (try simp only [h]) <;> (try simp only [hsB] at h) <;> try exact xf) | (refine GL ?_ ?_ <;> intro h <;> (try simp only [hsN] at h) <;> (try simp only [h]) <;> (try simp only [hsB] at h) <;> try exact xf) | fail)); all_goals clear kxs)
      · have e1 : (x == y) = false := by simp [h]
        rw [e1, Bool.false_and, Bool.or_false] at hr
        rw [← hr]
        (all_goals first | exact RetQ.fr 0 | exact RetQ.fn 0 | fail)
      · subst h
        have e2 : decide (x < x) = false := by simp
        rw [e2, beq_self_eq_true, Bool.true_and, Bool.false_or] at hr
        exact hJ (i + 1) _ _ (by omega) ⟨hia, hib, hr⟩ rfl rfl
    · have e1 : b.drop i = [] := List.drop_eq_nil_of_le (by omega)
      rw [e1, less_nil] at hr
      have e2 : decide ((a.length : Int) < b.length) = false := by simp; omega
      focus (have kxs := e2; (repeat' (first | (refine ADr.nil ?_; try clear hgv) | refine GO ?_ | refine AW.ret ?_ | (refine GC ?_ ?_ <;> intro h <;> (try simp only [hsB] at h) <;> try exact xf) | (refine GD ?_ ?_ <;> intro h <;> (try intro hgv) <;> (try simp only [hsN] at h) <;> (try simp only [h]) <;> (try simp only [hsB] at h) <;> try exact xf) | (refine GL ?_ ?_ <;> intro h <;> (try simp only [hsN] at h) <;> (try simp only [h]) <;> (try simp only [hsB] at h) <;> try exact xf) | fail)); all_goals clear kxs)
      rw [← hr]
      (all_goals first | exact RetQ.fr 0 | exact RetQ.fn 0 | fail)
  · have e1 : a.drop i = [] := List.drop_eq_nil_of_le (by omega)
    have e2 : decide ((a.length : Int) < b.length) = Op.bytesLess a b := by
      rw [← hr, e1]
      rcases hb' : b.drop i with _ | ⟨y, r⟩
      · have := congrArg List.length hb'
        simp at this
        rw [less_nil]; simp; omega
      · have := congrArg List.length hb'
        simp at this
        rw [less_nil_cons]; simp; omega
    focus (have kxs := e2; (repeat' (first | (refine ADr.nil ?_; try clear hgv) | refine GO ?_ | refine AW.ret ?_ | (refine GC ?_ ?_ <;> intro h <;> (try simp only [hsB] at h) <;> try exact xf) | (refine GD ?_ ?_ <;> intro h <;> (try intro hgv) <;> (try simp only [hsN] at h) <;> (try simp only [h]) <;> (try simp only [hsB] at h) <;> try exact xf) | (refine GL ?_ ?_ <;> intro h <;> (try simp only [hsN] at h) <;> (try simp only [h]) <;> (try simp only [hsB] at h) <;> try exact xf) | fail)); all_goals clear kxs)
    (all_goals first | exact RetQ.fr 0 | exact RetQ.fn 0 | fail)
end Go.AW
namespace Go.AW
open Go Go.Proofs
attribute [local irreducible] thenQ blockQ RetQ AL AW AC AOp
theorem ref31_Same (v w : List Sp) (hv : v.length ≤ 1000000) : AC Tryz.prog 41 [.d (.l v.length (spsD v)), .d (.l w.length (spsD w))] [] fun x σ => x = bv (decide (v = w)) ∧ σ = [] := by
  refine AC.wk Tryz.func41 ?_
  by_cases hl : v.length = w.length
  case neg =>
    have hc : decide (v = w) = false := by simp; rintro rfl; exact hl rfl
    focus (have kxs := hc; (repeat' (first | (refine ADr.nil ?_; try clear hgv) | refine GO ?_ | refine AW.ret ?_ | (refine GC ?_ ?_ <;> intro h <;> (try simp only [hsB] at h) <;> try exact xf) | (refine GD ?_ ?_ <;> intro h <;> (try intro hgv) <;> (try simp only [hsN] at h) <;> (try simp only [h]) <;> (try simp only [hsB] at h) <;> try exact xf) | (refine GL ?_ ?_ <;> intro h <;> (try simp only [hsN] at h) <;> (try simp only [h]) <;> (try simp only [hsB] at h) <;> try exact xf) | fail)); all_goals clear kxs)
    all_goals first | (exfalso; omega) | ((all_goals have kxf := hc; first | exact RetQ.xr 0 | exact RetQ.xn 0 | fail); done)
  focus ((repeat' (first | (refine ADr.nil ?_; try clear hgv) | refine GO ?_ | refine AW.ret ?_ | (refine GC ?_ ?_ <;> intro h <;> (try simp only [hsB] at h) <;> try exact xf) | (refine GD ?_ ?_ <;> intro h <;> (try intro hgv) <;> (try simp only [hsN] at h) <;> (try simp only [h]) <;> (try simp only [hsB] at h) <;> try exact xf) | (refine GL ?_ ?_ <;> intro h <;> (try simp only [hsN] at h) <;> (try simp only [h]) <;> (try simp only [hsB] at h) <;> try exact xf) | fail)))
  all_goals first | (exfalso; omega) | skip
  refine AW.rounds [0, 1, 4, 5] (fun i : Nat => [(0, .d (.l v.length (spsD v))), (1, .d (.l w.length (spsD w))), (4, bv false), (5, iv .i64 i)]) (fun _ => [])
    (fun i => i ≤ v.length ∧ (v = w ↔ v.drop i = w.drop i)) (fun i => v.length - i) 0 ⟨Nat.zero_le _, by simp⟩ rfl rfl (fun _ _ => Nat.zero_le _) (fun _ _ => rfl) (fun _ _ => rfl) ?_
  rintro i ⟨hi, hr⟩ J hJ
  by_cases hil : i < v.length
  case neg =>
    have hc : decide (v = w) = true := by
      simp only [decide_eq_true_eq]
      rw [hr, List.drop_eq_nil_of_le (by omega), List.drop_eq_nil_of_le (by omega)]
    rw [hc]
    exact Wd0
  obtain ⟨x, r, hd⟩ := next_at hil
  obtain ⟨y, s, he⟩ := next_at (l := w) (i := i) (by omega)
  have hcd := sps_drop hd
  have hce := sps_drop he
  by_cases hxy : x = y
  · have hdd : (decide (x.1 = y.1) && (decide (x.2.1 = y.2.1) && decide (x.2.2 = y.2.2))) = true := by rw [hxy]; simp
    have go : ∀ T' σ', keepT T' [0, 1, 4, 5] = [(0, .d (.l v.length (spsD v))), (1, .d (.l w.length (spsD w))), (4, bv false), (5, iv .i64 ((i : Int) + 1))] → σ'.take 0 = [] → J T' σ' := fun T' σ' g1 g2 =>
      hJ (i + 1) T' σ' (by omega) ⟨by omega, by rw [next_drop hd, next_drop he, hr, hd, he, hxy]; simp⟩ g1 g2
    clear hJ hr
    generalize (decide (x.1 = y.1) && (decide (x.2.1 = y.2.1) && decide (x.2.2 = y.2.2))) = zz at *
    (have kxs := And.intro hcd (And.intro hce hdd); exact Wdg)
  · have hdd : (decide (x.1 = y.1) && (decide (x.2.1 = y.2.1) && decide (x.2.2 = y.2.2))) = false := by
      cases hq : (decide (x.1 = y.1) && (decide (x.2.1 = y.2.1) && decide (x.2.2 = y.2.2))) with
      | false => rfl
      | true =>
        exfalso; apply hxy
        simp only [Bool.and_eq_true, decide_eq_true_eq] at hq
        exact Prod.ext hq.1 (Prod.ext hq.2.1 hq.2.2)
    have hc : decide (v = w) = false := by
      simp only [decide_eq_false_iff_not]
      rw [hr, hd, he]
      intro e
      exact hxy (List.cons.inj e).1
    rw [hc]
    clear hJ hr
    (have kxs := And.intro hcd (And.intro hce hdd); exact Wd0)
def idx {α : Type} (p : α → Bool) : List α → Int → Int
  | [], _ => -1
  | x :: l, i => if p x = true then i else idx p l (i + 1)
def itD (x : It) : List D := [.s (.string ⟨x.1.toArray⟩), .s (.string ⟨x.2.toArray⟩)]
def slD (x : Sl) : List D := [.s (.int .u8 (x.1 : Nat)), .s (.string ⟨x.2.toArray⟩)]
abbrev itV (x : It) : V := .a [sv (bs x.1), sv (bs x.2)]
abbrev slV (x : Sl) : V := .a [iv .u8 (x.1 : Nat), sv (bs x.2)]
abbrev itsD (l : List It) : List D := (l.map itD).flatten
abbrev slsD (l : List Sl) : List D := (l.map slD).flatten
abbrev pgV (g : Pg) : V := .a [sv (bs g.pre), bv g.leaf, .d (.l g.slots.length (slsD g.slots)), .d (.l g.items.length (itsD g.items))]
theorem its_drop {l r : List It} {x : It} {i : Nat} (h : l.drop i = x :: r) : (itsD l).drop (i * 2) = .s (.string ⟨x.1.toArray⟩) :: .s (.string ⟨x.2.toArray⟩) :: itsD r := by
  rw [itsD, flat_drop (f := itD) (sz := 2) (fun _ => rfl), h]; rfl
theorem sls_drop {l r : List Sl} {x : Sl} {i : Nat} (h : l.drop i = x :: r) : (slsD l).drop (i * 2) = .s (.int .u8 (x.1 : Nat)) :: .s (.string ⟨x.2.toArray⟩) :: slsD r := by
  rw [slsD, flat_drop (f := slD) (sz := 2) (fun _ => rfl), h]; rfl
theorem its_snoc (l : List It) (x : It) : itsD l ++ [D.s (.string ⟨x.1.toArray⟩), .s (.string ⟨x.2.toArray⟩)] = itsD (l ++ [x]) := by
  rw [itsD, itsD, List.map_append, List.flatten_append]; rfl
theorem sls_snoc (l : List Sl) (x : Sl) : slsD l ++ [D.s (.int .u8 (x.1 : Nat)), .s (.string ⟨x.2.toArray⟩)] = slsD (l ++ [x]) := by
  rw [slsD, slsD, List.map_append, List.flatten_append]; rfl
def Pg.fits (g : Pg) : Prop := g.pre.length ≤ 9223372036854775807 ∧ (g.slots.length ≤ 9223372036854775807 ∧ ∀ x ∈ g.slots, x.1 < 256 ∧ x.2.length ≤ 9223372036854775807) ∧ g.items.length ≤ 9223372036854775807 ∧ ∀ x ∈ g.items, x.1.length ≤ 9223372036854775807 ∧ x.2.length ≤ 9223372036854775807
theorem stringslite_HasPrefix (s w : List UInt8) (hs : s.length ≤ 9223372036854775807) (hw : w.length ≤ 9223372036854775807) : AC Tryz.prog 394 [sv (bs s), sv (bs w)] [] fun x σ => x = bv (begins s w) ∧ σ = [] := by
  refine AC.wk Tryz.func394 ?_
  unfold begins
  by_cases h : w.length ≤ s.length
  · focus (have kxs := And.intro @Nat.sub_zero h; (repeat' (first | refine G ?_ | refine AW.ret ?_ | (refine GC ?_ ?_ <;> intro h <;> (try simp only [hsB] at h) <;> try exact xf) | (refine GL ?_ ?_ <;> intro h <;> (try simp only [hsN] at h) <;> (try simp only [h]) <;> (try simp only [hsB] at h) <;> try exact xf) | fail)); all_goals clear kxs)
    all_goals first | ((all_goals have kxf := h; first | exact RetQ.xr 0 | exact RetQ.xn 0 | fail); done) | exact xg
  · focus ((repeat' (first | refine G ?_ | refine AW.ret ?_ | (refine GC ?_ ?_ <;> intro h <;> (try simp only [hsB] at h) <;> try exact xf) | (refine GL ?_ ?_ <;> intro h <;> (try simp only [hsN] at h) <;> (try simp only [h]) <;> (try simp only [hsB] at h) <;> try exact xf) | fail)))
    all_goals first | ((all_goals have kxf := h; first | exact RetQ.xr 0 | exact RetQ.xn 0 | fail); done) | exact xg
theorem strings_HasPrefix (s w : List UInt8) (hs : s.length ≤ 9223372036854775807) (hw : w.length ≤ 9223372036854775807) : AC Tryz.prog 374 [sv (bs s), sv (bs w)] [] fun x σ => x = bv (begins s w) ∧ σ = [] := by
  refine AC.wk Tryz.func374 ?_
  (have kk1 := uN [] (stringslite_HasPrefix s w hs hw); exact Wc0)
theorem ref20_Begins (s w : List UInt8) (hs : s.length ≤ 9223372036854775807) (hw : w.length ≤ 9223372036854775807) : AC Tryz.prog 296 [sv (bs s), sv (bs w)] [] fun x σ => x = bv (begins s w) ∧ σ = [] := by
  refine AC.wk Tryz.func296 ?_
  unfold begins
  by_cases h : w.length ≤ s.length
  · focus (have kxs := And.intro @Nat.sub_zero h; (repeat' (first | refine G ?_ | refine AW.ret ?_ | (refine GC ?_ ?_ <;> intro h <;> (try simp only [hsB] at h) <;> try exact xf) | (refine GL ?_ ?_ <;> intro h <;> (try simp only [hsN] at h) <;> (try simp only [h]) <;> (try simp only [hsB] at h) <;> try exact xf) | fail)); all_goals clear kxs)
    all_goals first | ((all_goals have kxf := h; first | exact RetQ.xr 0 | exact RetQ.xn 0 | fail); done) | exact xg
  · focus ((repeat' (first | refine G ?_ | refine AW.ret ?_ | (refine GC ?_ ?_ <;> intro h <;> (try simp only [hsB] at h) <;> try exact xf) | (refine GL ?_ ?_ <;> intro h <;> (try simp only [hsN] at h) <;> (try simp only [h]) <;> (try simp only [hsB] at h) <;> try exact xf) | fail)))
    all_goals first | ((all_goals have kxf := h; first | exact RetQ.xr 0 | exact RetQ.xn 0 | fail); done) | exact xg
def it1 (pre : List UInt8) (p : Option (List UInt8)) (x : It) : Int := if x.1.length ≠ 32 then 1 else if begins x.1 pre = false then 18 else if afterL p x.1 = false then 6 else if x.2.length ≠ 32 then 1 else 0
def keyAhead (p : Option (List UInt8)) (last : List UInt8) (first : Bool) : Prop := (first = true ∧ p = none) ∨ (first = false ∧ p = some last)
def Pg.rest (g : Pg) : Int := if itcheck g.pre none g.items ≠ 0 then itcheck g.pre none g.items else slcheck none g.slots
def sl1 (p : Option Nat) (x : Sl) : Int := if after p x.1 = false then 6 else if x.2.length ≠ 32 then 1 else 0
end Go.AW
